/- The law of chapter 3: handed on without a step. The variables of the package hold what the text lays. -/
import Derived.Test.YtgiiedpambimoaaDoorM5
namespace Go.Proofs.YtgiiedpambimoaaDoor
open Go Go.RowKit Go.Proofs
set_option linter.unusedSimpArgs false
set_option linter.unusedVariables false
theorem h16_az24 : (Tryd.prog.info? 24).bind (·.zero) = some (.agg #[.int .i64 0, .int .i64 0]) := by kernel_rfl
theorem h16_az64 : (Tryd.prog.info? 64).bind (·.zero) = some (.agg #[.slice none 0 0]) := by kernel_rfl
theorem h16_ar58 : ArIs Tryd.prog 58 2 1 := ⟨by kernel_rfl, by kernel_rfl⟩
theorem h16_bz64 : (Tryd.prog.info? 64).bind (·.zero) = some (.agg #[.slice none 0 0]) := by kernel_rfl
theorem h16_bu64 : Tryd.prog.underlying 64 = some (.struct (fsOf Tryd.prog 64)) := by kernel_rfl
theorem h16_bp64 : ∀ w, ((fsOf Tryd.prog 64).mapM fun f => Prod.mk f.offset <$> sizeOf f.type : Sem (Array (Nat × Nat))).run Tryd.prog w = .ok (#[(0, 1)]) w := fun _ => by kernel_rfl
theorem h16_bz69 : (Tryd.prog.info? 69).bind (·.zero) = some (.agg #[.int .i64 0, .int .i64 0]) := by kernel_rfl
theorem h16_bu69 : Tryd.prog.underlying 69 = some (.struct (fsOf Tryd.prog 69)) := by kernel_rfl
theorem h16_bp69 : ∀ w, ((fsOf Tryd.prog 69).mapM fun f => Prod.mk f.offset <$> sizeOf f.type : Sem (Array (Nat × Nat))).run Tryd.prog w = .ok (#[(0, 1), (1, 1)]) w := fun _ => by kernel_rfl
theorem h16_bz71 : (Tryd.prog.info? 71).bind (·.zero) = some (.agg #[.slice none 0 0, .int .i64 0, .int .i64 0, .int .i64 0]) := by kernel_rfl
theorem h16_bu71 : Tryd.prog.underlying 71 = some (.struct (fsOf Tryd.prog 71)) := by kernel_rfl
theorem h16_bp71 : ∀ w, ((fsOf Tryd.prog 71).mapM fun f => Prod.mk f.offset <$> sizeOf f.type : Sem (Array (Nat × Nat))).run Tryd.prog w = .ok (#[(0, 1), (1, 2), (3, 1)]) w := fun _ => by kernel_rfl
theorem h16_fl24_0 : FldIs Tryd.prog 24 0 0 false 1 := by unfold FldIs; kernel_rfl
theorem h16_fl24_1 : FldIs Tryd.prog 24 1 1 false 1 := by unfold FldIs; kernel_rfl
theorem h16_fl57_0 : FldIs Tryd.prog 57 0 0 true 2 := by unfold FldIs; kernel_rfl
theorem h16_fl57_1 : FldIs Tryd.prog 57 1 2 true 2 := by unfold FldIs; kernel_rfl
theorem h16_fl57_2 : FldIs Tryd.prog 57 2 4 false 1 := by unfold FldIs; kernel_rfl
theorem h16_hcf18 : ∀ args w, (callFunc 18 args).run Tryd.prog w = .ok (.enter 18 args) w := fun _ _ => by kernel_rfl
theorem h16_hcf20 : ∀ args w, (callFunc 20 args).run Tryd.prog w = .ok (.enter 20 args) w := fun _ _ => by kernel_rfl
theorem h16_hcf21 : ∀ args w, (callFunc 21 args).run Tryd.prog w = .ok (.enter 21 args) w := fun _ _ => by kernel_rfl
theorem h16_hcf25 : ∀ args w, (callFunc 25 args).run Tryd.prog w = .ok (.enter 25 args) w := fun _ _ => by kernel_rfl
theorem h16_hcf27 : ∀ args w, (callFunc 27 args).run Tryd.prog w = .ok (.enter 27 args) w := fun _ _ => by kernel_rfl
theorem h16_hcf28 : ∀ args w, (callFunc 28 args).run Tryd.prog w = .ok (.enter 28 args) w := fun _ _ => by kernel_rfl
theorem h16_hcf29 : ∀ args w, (callFunc 29 args).run Tryd.prog w = .ok (.enter 29 args) w := fun _ _ => by kernel_rfl
theorem h16_hcf30 : ∀ args w, (callFunc 30 args).run Tryd.prog w = .ok (.enter 30 args) w := fun _ _ => by kernel_rfl
theorem h16_hcf31 : ∀ args w, (callFunc 31 args).run Tryd.prog w = .ok (.enter 31 args) w := fun _ _ => by kernel_rfl
theorem h16_hcf32 : ∀ args w, (callFunc 32 args).run Tryd.prog w = .ok (.enter 32 args) w := fun _ _ => by kernel_rfl
theorem h16_sl43 : SlIs Tryd.prog 43 24 2 16 (.agg #[.int .i64 0, .int .i64 0]) := ⟨by kernel_rfl, by kernel_rfl, by kernel_rfl⟩
theorem h16_sl46 : SlIs Tryd.prog 46 3 1 8 (.int .i64 0) := ⟨by kernel_rfl, by kernel_rfl, by kernel_rfl⟩
theorem h16_sz24 : (Tryd.prog.info? 24).map (·.size) = some 2 := by kernel_rfl
theorem h16_sz64 : (Tryd.prog.info? 64).map (·.size) = some 1 := by kernel_rfl
theorem h16_ty24 : TyIs Tryd.prog 24 true 2 := ⟨by kernel_rfl, by kernel_rfl⟩
theorem h16_ty3 : TyIs Tryd.prog 3 false 1 := ⟨by kernel_rfl, by kernel_rfl⟩
theorem h16_ty64 : TyIs Tryd.prog 64 true 1 := ⟨by kernel_rfl, by kernel_rfl⟩

theorem evn_eq {u v f : V2} (h : evnB [u, v] f = true) : (prodV v f).2 = (prodV u f).2 := by
  simp [evnB, unB] at h
  exact h
theorem mul_near {q F Q S : Int} (hq : 1 ≤ q) (h : -S ≤ F - Q ∧ F - Q ≤ S) : -(q * S) ≤ q * F - q * Q ∧ q * F - q * Q ≤ q * S := by
  rw [← Int.mul_sub, ← Int.mul_neg]
  exact ⟨Int.mul_le_mul_of_nonneg_left h.1 (by omega), Int.mul_le_mul_of_nonneg_left h.2 (by omega)⟩
set_option maxRecDepth 100000 in
set_option maxHeartbeats 4000000 in
theorem noStep_ok (u v : V2) (k : Int) (f : V2) (p q : Int) : FnOkG Tryd.prog gT 6 [.agg [nA u.1, nA u.2, nA v.1, nA v.2, nA k], tA f, .agg [nA p, nA q]] (fun r => r = oA true) := by
  refine fnOkG_of (fn := Tryd.f6) gT 215 (by kernel_rfl) rfl (by kernel_rfl) (Nat.le_of_ble_eq_true rfl) ?_
  intro e_0 m_0 hA hm_0
  have s0_0 : evA e_0 (.tmp 0) = _ := hA 0 _ rfl
  have s1_0 : evA e_0 (.tmp 1) = _ := hA 1 _ rfl
  have s2_0 : evA e_0 (.tmp 2) = _ := hA 2 _ rfl
  have ml_0 : m_0.length = 1 := by rw [hm_0]; rfl
  have mo0_0 : m_0[0]? = some (.glob gT) := by rw [hm_0]; rfl
  clear hA hm_0
  refine aw_seq ?_
  refine aw_text (by kernel_rfl) ?_
  refine al_stm (st_box s0_0 rfl ml_0) trivial rfl (fun m_1 hm_1 => ?_)
  have mo1_1 := m_push hm_1 ml_0
  (try simp only [packA_t, packA_f, iE, bE, setAt, cellsA, Value.cells, map_vc, map_vn, Nat.reduceAdd, qS, tE] at mo1_1)
  have mo0_1 := m_push_o hm_1 mo0_0
  have ml_1 := m_push_l hm_1 ml_0
  have ml_1 : _ = 2 := ml_1
  clear hm_1 mo0_0
  refine al_stm (st_box (up_m rfl s1_0) rfl ml_1) trivial rfl (fun m_2 hm_2 => ?_)
  have mo2_2 := m_push hm_2 ml_1
  (try simp only [packA_t, packA_f, iE, bE, setAt, cellsA, Value.cells, map_vc, map_vn, Nat.reduceAdd, qS, tE] at mo2_2)
  have mo1_2 := m_push_o hm_2 mo1_1
  have mo0_2 := m_push_o hm_2 mo0_1
  have ml_2 := m_push_l hm_2 ml_1
  have ml_2 : _ = 3 := ml_2
  clear hm_2 mo1_1 mo0_1
  refine al_stm (st_box (u2 rfl s2_0) rfl ml_2) trivial rfl (fun m_3 hm_3 => ?_)
  have mo3_3 := m_push hm_3 ml_2
  (try simp only [packA_t, packA_f, iE, bE, setAt, cellsA, Value.cells, map_vc, map_vn, Nat.reduceAdd, qS, tE] at mo3_3)
  have mo2_3 := m_push_o hm_3 mo2_2
  have mo1_3 := m_push_o hm_3 mo1_2
  have mo0_3 := m_push_o hm_3 mo0_2
  have ml_3 := m_push_l hm_3 ml_2
  have ml_3 : _ = 4 := ml_3
  clear hm_3 mo2_2 mo1_2 mo0_2
  refine al_ro' (ro_assign ev_c) trivial rfl ?_
  refine al_end (fun e_4 he_4 => ?_)
  have s3_4 := ef 3 he_4 (up_m rfl (u2 rfl up_h))
  have s4_4 := ef 4 he_4 (u2 rfl up_h)
  have s5_4 := ef 5 he_4 (up_m rfl up_h)
  clear he_4 s0_0 s1_0 s2_0
  refine then_n ?_
  refine aw_seq ?_
  refine aw_seq ?_
  refine aw_text (by kernel_rfl) ?_
  refine al_ro' (ro_callG evL_nil rfl mo0_3 (tAwake_ok) h16_hcf20) trivial rfl ?_
  refine al_ro' (ro_not up_h) trivial rfl ?_
  refine al_end (fun e_5 he_5 => ?_)
  have s3_5 := ef 3 he_5 (u2 rfl s3_4)
  have s4_5 := ef 4 he_5 (u2 rfl s4_4)
  have s5_5 := ef 5 he_5 (u2 rfl s5_4)
  have s25_5 := ef 25 he_5 up_h
  clear he_5 s3_4 s4_4 s5_4
  refine then_n ?_
  refine aw_case s25_5 (fun hq_6 => ?_) (fun hq_6 => ?_)
  · (first | replace hq_6 := bnt hq_6 | replace hq_6 := bnf hq_6 | replace hq_6 := bt hq_6 | replace hq_6 := bf hq_6 | replace hq_6 := bt' hq_6 | replace hq_6 := bf' hq_6 | skip)
    first
    | (cases hq_6; done) | (exfalso; omega)
    | (
       refine aw_seq ?_
       refine aw_text (by kernel_rfl) ?_
       refine al_ro' (ro_assign ev_c) trivial rfl ?_
       refine al_end (fun e_7 he_7 => ?_)
       have s6_7 := ef 6 he_7 up_h
       clear he_7 s25_5 s3_5 s4_5 s5_5
       refine then_n ?_
       refine aw_ret ?_
       refine then_r ?_
       refine ret1 (.inr rfl) (by kernel_rfl) (resV_tmp s6_7) (.ro _ rfl) ?_
       clear s6_7 mo3_3 mo2_3 mo1_3 mo0_3 ml_3
       (first | rfl | (exfalso; rw [hanV_len] at *; omega)))
  · (first | replace hq_6 := bnt hq_6 | replace hq_6 := bnf hq_6 | replace hq_6 := bt hq_6 | replace hq_6 := bf hq_6 | replace hq_6 := bt' hq_6 | replace hq_6 := bf' hq_6 | skip)
    first
    | (cases hq_6; done) | (exfalso; omega)
    | (
       refine aw_skip ?_
       refine then_n ?_
       refine aw_seq ?_
       refine aw_seq ?_
       refine aw_cut (fun e mem => (evA e (.tmp 58) = .v (.bool (!(smB u && smB v && smB f && withinB k 1 20 && withinB p 0 500 && withinB q 1 500)))) ∧ (evA e (.tmp 3) = evA e_5 (.tmp 3)) ∧ (evA e (.tmp 4) = evA e_5 (.tmp 4)) ∧ (evA e (.tmp 5) = evA e_5 (.tmp 5)) ∧ m_3 = mem) ?_ ?_
       ·
         refine aw_text (by kernel_rfl) ?_
         refine al_ro' (ro_fld_ptr h16_fl57_0 rfl s3_5) trivial rfl ?_
         refine al_ro' (ro_eq (ro_ld_ptr h16_ty24 rfl mo1_3 up_h (by first | exact Nat.le_of_ble_eq_true rfl | omega | (simp only [lnS] <;> omega) | (simp <;> omega))) (by first | (simp only [packA_t, packA_f, iE, bE, setAt, cellsA, Value.cells, map_vc, map_vn, Nat.reduceAdd, qS, tE] <;> rfl) | rfl)) trivial rfl ?_
         refine al_ro' (ro_call (evL_cons up_h evL_nil) rfl (statorSmall_ok u) h16_hcf21) trivial rfl ?_
         refine al_ro' (ro_not up_h) trivial rfl ?_
         refine al_ro' (ro_move up_h) trivial rfl ?_
         refine al_case up_h (fun hb_9 hq_9 => ?_) (fun hb_9 hq_9 => ?_)
         · (first | replace hq_9 := bnt hq_9 | replace hq_9 := bnf hq_9 | replace hq_9 := bt hq_9 | replace hq_9 := bf hq_9 | replace hq_9 := bt' hq_9 | replace hq_9 := bf' hq_9 | skip)
           first
           | (cases hq_9; done) | (exfalso; omega)
           | (
              refine al_skip' ⟨_, rfl, .inl hb_9⟩ rfl ?_
              refine al_skip' ⟨_, rfl, .inl (up_m rfl hb_9)⟩ rfl ?_
              refine al_skip' ⟨_, rfl, .inl (u2 rfl hb_9)⟩ rfl ?_
              refine al_skip' ⟨_, rfl, .inl (up_m rfl (u2 rfl hb_9))⟩ rfl ?_
              refine al_ro' (ro_pickT (u4 rfl hb_9) ev_c) trivial rfl ?_
              refine al_ro' (ro_move up_h) trivial rfl ?_
              refine al_skip' ⟨_, rfl, .inl up_h⟩ rfl ?_
              refine al_skip' ⟨_, rfl, .inl (up_m rfl up_h)⟩ rfl ?_
              refine al_skip' ⟨_, rfl, .inl (u2 rfl up_h)⟩ rfl ?_
              refine al_ro' (ro_pickT (up_m rfl (u2 rfl up_h)) ev_c) trivial rfl ?_
              refine al_ro' (ro_move up_h) trivial rfl ?_
              refine al_skip' ⟨_, rfl, .inl up_h⟩ rfl ?_
              refine al_skip' ⟨_, rfl, .inl (up_m rfl up_h)⟩ rfl ?_
              refine al_skip' ⟨_, rfl, .inl (u2 rfl up_h)⟩ rfl ?_
              refine al_skip' ⟨_, rfl, .inl (up_m rfl (u2 rfl up_h))⟩ rfl ?_
              refine al_ro' (ro_pickT (u4 rfl up_h) ev_c) trivial rfl ?_
              refine al_ro' (ro_move up_h) trivial rfl ?_
              refine al_skip' ⟨_, rfl, .inl up_h⟩ rfl ?_
              refine al_skip' ⟨_, rfl, .inl (up_m rfl up_h)⟩ rfl ?_
              refine al_skip' ⟨_, rfl, .inl (u2 rfl up_h)⟩ rfl ?_
              refine al_skip' ⟨_, rfl, .inl (up_m rfl (u2 rfl up_h))⟩ rfl ?_
              refine al_ro' (ro_pickT (u4 rfl up_h) ev_c) trivial rfl ?_
              refine al_ro' (ro_move up_h) trivial rfl ?_
              refine al_skip' ⟨_, rfl, .inl up_h⟩ rfl ?_
              refine al_skip' ⟨_, rfl, .inl (up_m rfl up_h)⟩ rfl ?_
              refine al_skip' ⟨_, rfl, .inl (u2 rfl up_h)⟩ rfl ?_
              refine al_skip' ⟨_, rfl, .inl (up_m rfl (u2 rfl up_h))⟩ rfl ?_
              refine al_ro' (ro_pickT (u4 rfl up_h) ev_c) trivial rfl ?_
              refine al_end (fun e_10 he_10 => ?_)
              have s3_10 := ef 3 he_10 (up_m rfl (u16 rfl (u16 rfl s3_5)))
              have s4_10 := ef 4 he_10 (up_m rfl (u16 rfl (u16 rfl s4_5)))
              have s5_10 := ef 5 he_10 (up_m rfl (u16 rfl (u16 rfl s5_5)))
              have s58_10 := ef 58 he_10 up_h
              clear he_10
              refine then_n ⟨(s58_10).trans (by (refine avb ?_; simp_all; try omega)), (s3_10).trans (s3_5).symm, (s4_10).trans (s4_5).symm, (s5_10).trans (s5_5).symm, rfl⟩)
         · (first | replace hq_9 := bnt hq_9 | replace hq_9 := bnf hq_9 | replace hq_9 := bt hq_9 | replace hq_9 := bf hq_9 | replace hq_9 := bt' hq_9 | replace hq_9 := bf' hq_9 | skip)
           first
           | (cases hq_9; done) | (exfalso; omega)
           | (
              refine al_ro' (ro_fld_ptr h16_fl57_1 rfl (up_m rfl (u4 rfl s3_5))) ⟨_, rfl, hb_9⟩ rfl ?_
              refine al_ro' (ro_eq (ro_ld_ptr h16_ty24 rfl mo1_3 up_h (by first | exact Nat.le_of_ble_eq_true rfl | omega | (simp only [lnS] <;> omega) | (simp <;> omega))) (by first | (simp only [packA_t, packA_f, iE, bE, setAt, cellsA, Value.cells, map_vc, map_vn, Nat.reduceAdd, qS, tE] <;> rfl) | rfl)) ⟨_, rfl, (up_m rfl hb_9)⟩ rfl ?_
              refine al_ro' (ro_call (evL_cons up_h evL_nil) rfl (statorSmall_ok v) h16_hcf21) ⟨_, rfl, (u2 rfl hb_9)⟩ rfl ?_
              refine al_ro' (ro_not up_h) ⟨_, rfl, (up_m rfl (u2 rfl hb_9))⟩ rfl ?_
              refine al_ro' (ro_pickF (u4 rfl hb_9) up_h) trivial rfl ?_
              refine al_ro' (ro_move up_h) trivial rfl ?_
              refine al_case up_h (fun hb_11 hq_11 => ?_) (fun hb_11 hq_11 => ?_)
              · (first | replace hq_11 := bnt hq_11 | replace hq_11 := bnf hq_11 | replace hq_11 := bt hq_11 | replace hq_11 := bf hq_11 | replace hq_11 := bt' hq_11 | replace hq_11 := bf' hq_11 | skip)
                first
                | (cases hq_11; done) | (exfalso; omega)
                | (
                   refine al_skip' ⟨_, rfl, .inl hb_11⟩ rfl ?_
                   refine al_skip' ⟨_, rfl, .inl (up_m rfl hb_11)⟩ rfl ?_
                   refine al_skip' ⟨_, rfl, .inl (u2 rfl hb_11)⟩ rfl ?_
                   refine al_ro' (ro_pickT (up_m rfl (u2 rfl hb_11)) ev_c) trivial rfl ?_
                   refine al_ro' (ro_move up_h) trivial rfl ?_
                   refine al_skip' ⟨_, rfl, .inl up_h⟩ rfl ?_
                   refine al_skip' ⟨_, rfl, .inl (up_m rfl up_h)⟩ rfl ?_
                   refine al_skip' ⟨_, rfl, .inl (u2 rfl up_h)⟩ rfl ?_
                   refine al_skip' ⟨_, rfl, .inl (up_m rfl (u2 rfl up_h))⟩ rfl ?_
                   refine al_ro' (ro_pickT (u4 rfl up_h) ev_c) trivial rfl ?_
                   refine al_ro' (ro_move up_h) trivial rfl ?_
                   refine al_skip' ⟨_, rfl, .inl up_h⟩ rfl ?_
                   refine al_skip' ⟨_, rfl, .inl (up_m rfl up_h)⟩ rfl ?_
                   refine al_skip' ⟨_, rfl, .inl (u2 rfl up_h)⟩ rfl ?_
                   refine al_skip' ⟨_, rfl, .inl (up_m rfl (u2 rfl up_h))⟩ rfl ?_
                   refine al_ro' (ro_pickT (u4 rfl up_h) ev_c) trivial rfl ?_
                   refine al_ro' (ro_move up_h) trivial rfl ?_
                   refine al_skip' ⟨_, rfl, .inl up_h⟩ rfl ?_
                   refine al_skip' ⟨_, rfl, .inl (up_m rfl up_h)⟩ rfl ?_
                   refine al_skip' ⟨_, rfl, .inl (u2 rfl up_h)⟩ rfl ?_
                   refine al_skip' ⟨_, rfl, .inl (up_m rfl (u2 rfl up_h))⟩ rfl ?_
                   refine al_ro' (ro_pickT (u4 rfl up_h) ev_c) trivial rfl ?_
                   refine al_end (fun e_12 he_12 => ?_)
                   have s3_12 := ef 3 he_12 (up_m rfl (u16 rfl (u16 rfl s3_5)))
                   have s4_12 := ef 4 he_12 (up_m rfl (u16 rfl (u16 rfl s4_5)))
                   have s5_12 := ef 5 he_12 (up_m rfl (u16 rfl (u16 rfl s5_5)))
                   have s58_12 := ef 58 he_12 up_h
                   clear he_12
                   refine then_n ⟨(s58_12).trans (by (refine avb ?_; simp_all; try omega)), (s3_12).trans (s3_5).symm, (s4_12).trans (s4_5).symm, (s5_12).trans (s5_5).symm, rfl⟩)
              · (first | replace hq_11 := bnt hq_11 | replace hq_11 := bnf hq_11 | replace hq_11 := bt hq_11 | replace hq_11 := bf hq_11 | replace hq_11 := bt' hq_11 | replace hq_11 := bf' hq_11 | skip)
                first
                | (cases hq_11; done) | (exfalso; omega)
                | (
                   refine al_ro' (ro_eq (ro_ld_ptr h16_ty24 rfl mo2_3 (up_m rfl (u2 rfl (u8 rfl s4_5))) (by first | exact Nat.le_of_ble_eq_true rfl | omega | (simp only [lnS] <;> omega) | (simp <;> omega))) (by first | (simp only [packA_t, packA_f, iE, bE, setAt, cellsA, Value.cells, map_vc, map_vn, Nat.reduceAdd, qS, tE] <;> rfl) | rfl)) ⟨_, rfl, hb_11⟩ rfl ?_
                   refine al_ro' (ro_call (evL_cons up_h evL_nil) rfl (statorSmall_ok f) h16_hcf21) ⟨_, rfl, (up_m rfl hb_11)⟩ rfl ?_
                   refine al_ro' (ro_not up_h) ⟨_, rfl, (u2 rfl hb_11)⟩ rfl ?_
                   refine al_ro' (ro_pickF (up_m rfl (u2 rfl hb_11)) up_h) trivial rfl ?_
                   refine al_ro' (ro_move up_h) trivial rfl ?_
                   refine al_case up_h (fun hb_13 hq_13 => ?_) (fun hb_13 hq_13 => ?_)
                   · (first | replace hq_13 := bnt hq_13 | replace hq_13 := bnf hq_13 | replace hq_13 := bt hq_13 | replace hq_13 := bf hq_13 | replace hq_13 := bt' hq_13 | replace hq_13 := bf' hq_13 | skip)
                     first
                     | (cases hq_13; done) | (exfalso; omega)
                     | (
                        refine al_skip' ⟨_, rfl, .inl hb_13⟩ rfl ?_
                        refine al_skip' ⟨_, rfl, .inl (up_m rfl hb_13)⟩ rfl ?_
                        refine al_skip' ⟨_, rfl, .inl (u2 rfl hb_13)⟩ rfl ?_
                        refine al_skip' ⟨_, rfl, .inl (up_m rfl (u2 rfl hb_13))⟩ rfl ?_
                        refine al_ro' (ro_pickT (u4 rfl hb_13) ev_c) trivial rfl ?_
                        refine al_ro' (ro_move up_h) trivial rfl ?_
                        refine al_skip' ⟨_, rfl, .inl up_h⟩ rfl ?_
                        refine al_skip' ⟨_, rfl, .inl (up_m rfl up_h)⟩ rfl ?_
                        refine al_skip' ⟨_, rfl, .inl (u2 rfl up_h)⟩ rfl ?_
                        refine al_skip' ⟨_, rfl, .inl (up_m rfl (u2 rfl up_h))⟩ rfl ?_
                        refine al_ro' (ro_pickT (u4 rfl up_h) ev_c) trivial rfl ?_
                        refine al_ro' (ro_move up_h) trivial rfl ?_
                        refine al_skip' ⟨_, rfl, .inl up_h⟩ rfl ?_
                        refine al_skip' ⟨_, rfl, .inl (up_m rfl up_h)⟩ rfl ?_
                        refine al_skip' ⟨_, rfl, .inl (u2 rfl up_h)⟩ rfl ?_
                        refine al_skip' ⟨_, rfl, .inl (up_m rfl (u2 rfl up_h))⟩ rfl ?_
                        refine al_ro' (ro_pickT (u4 rfl up_h) ev_c) trivial rfl ?_
                        refine al_end (fun e_14 he_14 => ?_)
                        have s3_14 := ef 3 he_14 (up_m rfl (u16 rfl (u16 rfl s3_5)))
                        have s4_14 := ef 4 he_14 (up_m rfl (u16 rfl (u16 rfl s4_5)))
                        have s5_14 := ef 5 he_14 (up_m rfl (u16 rfl (u16 rfl s5_5)))
                        have s58_14 := ef 58 he_14 up_h
                        clear he_14
                        refine then_n ⟨(s58_14).trans (by (refine avb ?_; simp_all; try omega)), (s3_14).trans (s3_5).symm, (s4_14).trans (s4_5).symm, (s5_14).trans (s5_5).symm, rfl⟩)
                   · (first | replace hq_13 := bnt hq_13 | replace hq_13 := bnf hq_13 | replace hq_13 := bt hq_13 | replace hq_13 := bf hq_13 | replace hq_13 := bt' hq_13 | replace hq_13 := bf' hq_13 | skip)
                     first
                     | (cases hq_13; done) | (exfalso; omega)
                     | (
                        refine al_ro' (ro_fld_ptr h16_fl57_2 rfl (u16 rfl s3_5)) ⟨_, rfl, hb_13⟩ rfl ?_
                        refine al_ro' (ro_eq (ro_ld_ptr h16_ty3 rfl mo1_3 up_h (by first | exact Nat.le_of_ble_eq_true rfl | omega | (simp only [lnS] <;> omega) | (simp <;> omega))) (by first | (simp only [packA_t, packA_f, iE, bE, setAt, cellsA, Value.cells, map_vc, map_vn, Nat.reduceAdd, qS, tE] <;> rfl) | rfl)) ⟨_, rfl, (up_m rfl hb_13)⟩ rfl ?_
                        refine al_ro' (ro_call (evL_cons up_h (evL_cons ev_c (evL_cons ev_c evL_nil))) rfl (bWithin_ok _ _ _) h16_hcf18) ⟨_, rfl, (u2 rfl hb_13)⟩ rfl ?_
                        refine al_ro' (ro_not up_h) ⟨_, rfl, (up_m rfl (u2 rfl hb_13))⟩ rfl ?_
                        refine al_ro' (ro_pickF (u4 rfl hb_13) up_h) trivial rfl ?_
                        refine al_ro' (ro_move up_h) trivial rfl ?_
                        refine al_case up_h (fun hb_15 hq_15 => ?_) (fun hb_15 hq_15 => ?_)
                        · (first | replace hq_15 := bnt hq_15 | replace hq_15 := bnf hq_15 | replace hq_15 := bt hq_15 | replace hq_15 := bf hq_15 | replace hq_15 := bt' hq_15 | replace hq_15 := bf' hq_15 | skip)
                          first
                          | (cases hq_15; done) | (exfalso; omega)
                          | (
                             refine al_skip' ⟨_, rfl, .inl hb_15⟩ rfl ?_
                             refine al_skip' ⟨_, rfl, .inl (up_m rfl hb_15)⟩ rfl ?_
                             refine al_skip' ⟨_, rfl, .inl (u2 rfl hb_15)⟩ rfl ?_
                             refine al_skip' ⟨_, rfl, .inl (up_m rfl (u2 rfl hb_15))⟩ rfl ?_
                             refine al_ro' (ro_pickT (u4 rfl hb_15) ev_c) trivial rfl ?_
                             refine al_ro' (ro_move up_h) trivial rfl ?_
                             refine al_skip' ⟨_, rfl, .inl up_h⟩ rfl ?_
                             refine al_skip' ⟨_, rfl, .inl (up_m rfl up_h)⟩ rfl ?_
                             refine al_skip' ⟨_, rfl, .inl (u2 rfl up_h)⟩ rfl ?_
                             refine al_skip' ⟨_, rfl, .inl (up_m rfl (u2 rfl up_h))⟩ rfl ?_
                             refine al_ro' (ro_pickT (u4 rfl up_h) ev_c) trivial rfl ?_
                             refine al_end (fun e_16 he_16 => ?_)
                             have s3_16 := ef 3 he_16 (up_m rfl (u16 rfl (u16 rfl s3_5)))
                             have s4_16 := ef 4 he_16 (up_m rfl (u16 rfl (u16 rfl s4_5)))
                             have s5_16 := ef 5 he_16 (up_m rfl (u16 rfl (u16 rfl s5_5)))
                             have s58_16 := ef 58 he_16 up_h
                             clear he_16
                             refine then_n ⟨(s58_16).trans (by (refine avb ?_; simp_all; try omega)), (s3_16).trans (s3_5).symm, (s4_16).trans (s4_5).symm, (s5_16).trans (s5_5).symm, rfl⟩)
                        · (first | replace hq_15 := bnt hq_15 | replace hq_15 := bnf hq_15 | replace hq_15 := bt hq_15 | replace hq_15 := bf hq_15 | replace hq_15 := bt' hq_15 | replace hq_15 := bf' hq_15 | skip)
                          first
                          | (cases hq_15; done) | (exfalso; omega)
                          | (
                             refine al_ro' (ro_ixa h16_ar58 (u2 rfl (u4 rfl (u16 rfl s5_5))) ev_c rfl) ⟨_, rfl, hb_15⟩ rfl ?_
                             refine al_ro' (ro_eq (ro_ld_ptr h16_ty3 rfl mo3_3 up_h (by first | exact Nat.le_of_ble_eq_true rfl | omega | (simp only [lnS] <;> omega) | (simp <;> omega))) (by first | (simp only [packA_t, packA_f, iE, bE, setAt, cellsA, Value.cells, map_vc, map_vn, Nat.reduceAdd, qS, tE] <;> rfl) | rfl)) ⟨_, rfl, (up_m rfl hb_15)⟩ rfl ?_
                             refine al_ro' (ro_call (evL_cons up_h (evL_cons ev_c (evL_cons ev_c evL_nil))) rfl (bWithin_ok _ _ _) h16_hcf18) ⟨_, rfl, (u2 rfl hb_15)⟩ rfl ?_
                             refine al_ro' (ro_not up_h) ⟨_, rfl, (up_m rfl (u2 rfl hb_15))⟩ rfl ?_
                             refine al_ro' (ro_pickF (u4 rfl hb_15) up_h) trivial rfl ?_
                             refine al_ro' (ro_move up_h) trivial rfl ?_
                             refine al_case up_h (fun hb_17 hq_17 => ?_) (fun hb_17 hq_17 => ?_)
                             · (first | replace hq_17 := bnt hq_17 | replace hq_17 := bnf hq_17 | replace hq_17 := bt hq_17 | replace hq_17 := bf hq_17 | replace hq_17 := bt' hq_17 | replace hq_17 := bf' hq_17 | skip)
                               first
                               | (cases hq_17; done) | (exfalso; omega)
                               | (
                                  refine al_skip' ⟨_, rfl, .inl hb_17⟩ rfl ?_
                                  refine al_skip' ⟨_, rfl, .inl (up_m rfl hb_17)⟩ rfl ?_
                                  refine al_skip' ⟨_, rfl, .inl (u2 rfl hb_17)⟩ rfl ?_
                                  refine al_skip' ⟨_, rfl, .inl (up_m rfl (u2 rfl hb_17))⟩ rfl ?_
                                  refine al_ro' (ro_pickT (u4 rfl hb_17) ev_c) trivial rfl ?_
                                  refine al_end (fun e_18 he_18 => ?_)
                                  have s3_18 := ef 3 he_18 (up_m rfl (u16 rfl (u16 rfl s3_5)))
                                  have s4_18 := ef 4 he_18 (up_m rfl (u16 rfl (u16 rfl s4_5)))
                                  have s5_18 := ef 5 he_18 (up_m rfl (u16 rfl (u16 rfl s5_5)))
                                  have s58_18 := ef 58 he_18 up_h
                                  clear he_18
                                  refine then_n ⟨(s58_18).trans (by (refine avb ?_; simp_all; try omega)), (s3_18).trans (s3_5).symm, (s4_18).trans (s4_5).symm, (s5_18).trans (s5_5).symm, rfl⟩)
                             · (first | replace hq_17 := bnt hq_17 | replace hq_17 := bnf hq_17 | replace hq_17 := bt hq_17 | replace hq_17 := bf hq_17 | replace hq_17 := bt' hq_17 | replace hq_17 := bf' hq_17 | skip)
                               first
                               | (cases hq_17; done) | (exfalso; omega)
                               | (
                                  refine al_ro' (ro_ixa h16_ar58 (u4 rfl (u8 rfl (u16 rfl s5_5))) ev_c rfl) ⟨_, rfl, hb_17⟩ rfl ?_
                                  refine al_ro' (ro_eq (ro_ld_ptr h16_ty3 rfl mo3_3 up_h (by first | exact Nat.le_of_ble_eq_true rfl | omega | (simp only [lnS] <;> omega) | (simp <;> omega))) (by first | (simp only [packA_t, packA_f, iE, bE, setAt, cellsA, Value.cells, map_vc, map_vn, Nat.reduceAdd, qS, tE] <;> rfl) | rfl)) ⟨_, rfl, (up_m rfl hb_17)⟩ rfl ?_
                                  refine al_ro' (ro_call (evL_cons up_h (evL_cons ev_c (evL_cons ev_c evL_nil))) rfl (bWithin_ok _ _ _) h16_hcf18) ⟨_, rfl, (u2 rfl hb_17)⟩ rfl ?_
                                  refine al_ro' (ro_not up_h) ⟨_, rfl, (up_m rfl (u2 rfl hb_17))⟩ rfl ?_
                                  refine al_ro' (ro_pickF (u4 rfl hb_17) up_h) trivial rfl ?_
                                  refine al_end (fun e_19 he_19 => ?_)
                                  have s3_19 := ef 3 he_19 (up_m rfl (u16 rfl (u16 rfl s3_5)))
                                  have s4_19 := ef 4 he_19 (up_m rfl (u16 rfl (u16 rfl s4_5)))
                                  have s5_19 := ef 5 he_19 (up_m rfl (u16 rfl (u16 rfl s5_5)))
                                  have s58_19 := ef 58 he_19 up_h
                                  clear he_19
                                  refine then_n ⟨(s58_19).trans (by (refine avb ?_; simp_all; try omega)), (s3_19).trans (s3_5).symm, (s4_19).trans (s4_5).symm, (s5_19).trans (s5_5).symm, rfl⟩)))))
       · rintro e_8 _ ⟨s58_8, k3_8, k4_8, k5_8, rfl⟩
         have s3_8 := k3_8.trans s3_5
         have s4_8 := k4_8.trans s4_5
         have s5_8 := k5_8.trans s5_5
         refine aw_case s58_8 (fun hq_20 => ?_) (fun hq_20 => ?_)
         · (first | replace hq_20 := bnt hq_20 | replace hq_20 := bnf hq_20 | replace hq_20 := bt hq_20 | replace hq_20 := bf hq_20 | replace hq_20 := bt' hq_20 | replace hq_20 := bf' hq_20 | skip)
           first
           | (cases hq_20; done) | (exfalso; omega)
           | (
              refine aw_seq ?_
              refine aw_text (by kernel_rfl) ?_
              refine al_ro' (ro_assign ev_c) trivial rfl ?_
              refine al_end (fun e_21 he_21 => ?_)
              have s6_21 := ef 6 he_21 up_h
              clear he_21 s3_8 s4_8 s58_8 s5_8
              refine then_n ?_
              refine aw_ret ?_
              refine then_r ?_
              refine ret1 (.inr rfl) (by kernel_rfl) (resV_tmp s6_21) (.ro _ rfl) ?_
              clear s6_21 mo3_3 mo2_3 mo1_3 mo0_3 ml_3
              (first | rfl | (exfalso; rw [hanV_len] at *; omega)))
         · (first | replace hq_20 := bnt hq_20 | replace hq_20 := bnf hq_20 | replace hq_20 := bt hq_20 | replace hq_20 := bf hq_20 | replace hq_20 := bt' hq_20 | replace hq_20 := bf' hq_20 | skip)
           first
           | (cases hq_20; done) | (exfalso; omega)
           | (
              (have hg : smB u = true ∧ smB v = true ∧ smB f = true ∧ withinB k 1 20 = true ∧ withinB p 0 500 = true ∧ withinB q 1 500 = true := (by simp_all); have hu := smB_bd hg.1; have hv := smB_bd hg.2.1; have hf := smB_bd hg.2.2.1; have hk : 1 ≤ k ∧ k ≤ 20 := (by have := hg.2.2.2.1; simp only [withinB, Bool.and_eq_true, decide_eq_true_eq] at this; exact this); have hp : 0 ≤ p ∧ p ≤ 500 := (by have := hg.2.2.2.2.1; simp only [withinB, Bool.and_eq_true, decide_eq_true_eq] at this; exact this); have hq : 1 ≤ q ∧ q ≤ 500 := (by have := hg.2.2.2.2.2; simp only [withinB, Bool.and_eq_true, decide_eq_true_eq] at this; exact this); clear hg)
              refine aw_skip ?_
              refine then_n ?_
              refine aw_seq ?_
              refine aw_text (by kernel_rfl) ?_
              refine al_ro' (ro_fld_ptr h16_fl57_0 rfl s3_8) trivial rfl ?_
              refine al_ro' (ro_eq (ro_ld_ptr h16_ty24 rfl mo1_3 up_h (by first | exact Nat.le_of_ble_eq_true rfl | omega | (simp only [lnS] <;> omega) | (simp <;> omega))) (by first | (simp only [packA_t, packA_f, iE, bE, setAt, cellsA, Value.cells, map_vc, map_vn, Nat.reduceAdd, qS, tE] <;> rfl) | rfl)) trivial rfl ?_
              refine al_ro' (ro_fld_ptr h16_fl57_1 rfl (u2 rfl s3_8)) trivial rfl ?_
              refine al_ro' (ro_eq (ro_ld_ptr h16_ty24 rfl mo1_3 up_h (by first | exact Nat.le_of_ble_eq_true rfl | omega | (simp only [lnS] <;> omega) | (simp <;> omega))) (by first | (simp only [packA_t, packA_f, iE, bE, setAt, cellsA, Value.cells, map_vc, map_vn, Nat.reduceAdd, qS, tE] <;> rfl) | rfl)) trivial rfl ?_
              refine al_ro' (ro_lit h16_sl43 (evP_cons (u2 rfl up_h) (evP_cons up_h evP_nil)) rfl rfl rfl rfl) trivial rfl ?_
              refine al_ro' (ro_eq (ro_ld_ptr h16_ty24 rfl mo2_3 (up_m rfl (u4 rfl s4_8)) (by first | exact Nat.le_of_ble_eq_true rfl | omega | (simp only [lnS] <;> omega) | (simp <;> omega))) (by first | (simp only [packA_t, packA_f, iE, bE, setAt, cellsA, Value.cells, map_vc, map_vn, Nat.reduceAdd, qS, tE] <;> rfl) | rfl)) trivial rfl ?_
              refine al_ro' (ro_call (evL_cons (up_m rfl up_h) (evL_cons up_h evL_nil)) rfl (even_ok [u, v] f (by simp) (by simp) (by simp; exact ⟨hu.mono (by decide), hv.mono (by decide)⟩) (hf.mono (by decide))) h16_hcf27) trivial rfl ?_
              refine al_ro' (ro_move up_h) trivial rfl ?_
              refine al_ro' (ro_extract up_h rfl) trivial rfl ?_
              refine al_ro' (ro_extract (up_m rfl up_h) rfl) trivial rfl ?_
              refine al_ro' (ro_assign (up_m rfl up_h)) trivial rfl ?_
              refine al_ro' (ro_assign (up_m rfl up_h)) trivial rfl ?_
              refine al_end (fun e_22 he_22 => ?_)
              have s3_22 := ef 3 he_22 (u4 rfl (u8 rfl s3_8))
              have s4_22 := ef 4 he_22 (u4 rfl (u8 rfl s4_8))
              have s5_22 := ef 5 he_22 (u4 rfl (u8 rfl s5_8))
              have s7_22 := ef 7 he_22 (up_m rfl up_h)
              have s8_22 := ef 8 he_22 up_h
              clear he_22 s3_8 s4_8 s58_8 s5_8
              refine then_n ?_
              refine aw_seq ?_
              refine aw_text (by kernel_rfl) ?_
              refine al_ro' (ro_fld_ptr h16_fl57_0 rfl s3_22) trivial rfl ?_
              refine al_ro' (ro_eq (ro_ld_ptr h16_ty24 rfl mo1_3 up_h (by first | exact Nat.le_of_ble_eq_true rfl | omega | (simp only [lnS] <;> omega) | (simp <;> omega))) (by first | (simp only [packA_t, packA_f, iE, bE, setAt, cellsA, Value.cells, map_vc, map_vn, Nat.reduceAdd, qS, tE] <;> rfl) | rfl)) trivial rfl ?_
              refine al_ro' (ro_eq (ro_ld_ptr h16_ty24 rfl mo2_3 (u2 rfl s4_22) (by first | exact Nat.le_of_ble_eq_true rfl | omega | (simp only [lnS] <;> omega) | (simp <;> omega))) (by first | (simp only [packA_t, packA_f, iE, bE, setAt, cellsA, Value.cells, map_vc, map_vn, Nat.reduceAdd, qS, tE] <;> rfl) | rfl)) trivial rfl ?_
              refine al_ro' (ro_call (evL_cons (up_m rfl up_h) (evL_cons up_h evL_nil)) rfl (forceOf_ok u f (hu.mono (by decide)) (hf.mono (by decide))) h16_hcf25) trivial rfl ?_
              refine al_ro' (ro_move up_h) trivial rfl ?_
              refine al_ro' (ro_extract up_h rfl) trivial rfl ?_
              refine al_ro' (ro_extract (up_m rfl up_h) rfl) trivial rfl ?_
              refine al_ro' (ro_assign (up_m rfl up_h)) trivial rfl ?_
              refine al_ro' (ro_assign (up_m rfl up_h)) trivial rfl ?_
              refine al_end (fun e_23 he_23 => ?_)
              have s3_23 := ef 3 he_23 (up_m rfl (u8 rfl s3_22))
              have s4_23 := ef 4 he_23 (up_m rfl (u8 rfl s4_22))
              have s5_23 := ef 5 he_23 (up_m rfl (u8 rfl s5_22))
              have s7_23 := ef 7 he_23 (up_m rfl (u8 rfl s7_22))
              have s8_23 := ef 8 he_23 (up_m rfl (u8 rfl s8_22))
              have s9_23 := ef 9 he_23 (up_m rfl up_h)
              have s10_23 := ef 10 he_23 up_h
              clear he_23 s3_22 s4_22 s5_22 s7_22 s8_22
              refine then_n ?_
              refine aw_seq ?_
              refine aw_text (by kernel_rfl) ?_
              refine al_ro' (ro_fld_ptr h16_fl57_0 rfl s3_23) trivial rfl ?_
              refine al_ro' (ro_eq (ro_ld_ptr h16_ty24 rfl mo1_3 up_h (by first | exact Nat.le_of_ble_eq_true rfl | omega | (simp only [lnS] <;> omega) | (simp <;> omega))) (by first | (simp only [packA_t, packA_f, iE, bE, setAt, cellsA, Value.cells, map_vc, map_vn, Nat.reduceAdd, qS, tE] <;> rfl) | rfl)) trivial rfl ?_
              refine al_ro' (ro_fld_ptr h16_fl57_1 rfl (u2 rfl s3_23)) trivial rfl ?_
              refine al_ro' (ro_eq (ro_ld_ptr h16_ty24 rfl mo1_3 up_h (by first | exact Nat.le_of_ble_eq_true rfl | omega | (simp only [lnS] <;> omega) | (simp <;> omega))) (by first | (simp only [packA_t, packA_f, iE, bE, setAt, cellsA, Value.cells, map_vc, map_vn, Nat.reduceAdd, qS, tE] <;> rfl) | rfl)) trivial rfl ?_
              refine al_ro' (ro_fld_ptr h16_fl57_2 rfl (u4 rfl s3_23)) trivial rfl ?_
              refine al_ro' (ro_eq (ro_ld_ptr h16_ty3 rfl mo1_3 up_h (by first | exact Nat.le_of_ble_eq_true rfl | omega | (simp only [lnS] <;> omega) | (simp <;> omega))) (by first | (simp only [packA_t, packA_f, iE, bE, setAt, cellsA, Value.cells, map_vc, map_vn, Nat.reduceAdd, qS, tE] <;> rfl) | rfl)) trivial rfl ?_
              refine al_ro' (ro_call (evL_cons (u4 rfl up_h) (evL_cons (u2 rfl up_h) (evL_cons up_h evL_nil))) rfl (handed_ok u v k hu hv hk) h16_hcf28) trivial rfl ?_
              refine al_ro' (ro_move up_h) trivial rfl ?_
              refine al_ro' (ro_extract up_h rfl) trivial rfl ?_
              refine al_ro' (ro_extract (up_m rfl up_h) rfl) trivial rfl ?_
              refine al_ro' (ro_assign (up_m rfl up_h)) trivial rfl ?_
              refine al_ro' (ro_assign (up_m rfl up_h)) trivial rfl ?_
              refine al_end (fun e_24 he_24 => ?_)
              have s3_24 := ef 3 he_24 (u4 rfl (u8 rfl s3_23))
              have s4_24 := ef 4 he_24 (u4 rfl (u8 rfl s4_23))
              have s5_24 := ef 5 he_24 (u4 rfl (u8 rfl s5_23))
              have s7_24 := ef 7 he_24 (u4 rfl (u8 rfl s7_23))
              have s8_24 := ef 8 he_24 (u4 rfl (u8 rfl s8_23))
              have s9_24 := ef 9 he_24 (u4 rfl (u8 rfl s9_23))
              have s10_24 := ef 10 he_24 (u4 rfl (u8 rfl s10_23))
              have s11_24 := ef 11 he_24 (up_m rfl up_h)
              have s12_24 := ef 12 he_24 up_h
              clear he_24 s10_23 s3_23 s4_23 s5_23 s7_23 s8_23 s9_23
              refine then_n ?_
              refine aw_seq ?_
              refine aw_seq ?_
              refine aw_text (by kernel_rfl) ?_
              refine al_ro' (ro_move s8_24) trivial rfl ?_
              refine al_ro' (ro_neq up_h ev_c) trivial rfl ?_
              refine al_ro' (ro_move up_h) trivial rfl ?_
              refine al_case up_h (fun hb_25 hq_25 => ?_) (fun hb_25 hq_25 => ?_)
              · (first | replace hq_25 := bnt hq_25 | replace hq_25 := bnf hq_25 | replace hq_25 := bt hq_25 | replace hq_25 := bf hq_25 | replace hq_25 := bt' hq_25 | replace hq_25 := bf' hq_25 | skip)
                first
                | (cases hq_25; done) | (exfalso; omega)
                | (
                   refine al_skip' ⟨_, rfl, .inl hb_25⟩ rfl ?_
                   refine al_skip' ⟨_, rfl, .inl (up_m rfl hb_25)⟩ rfl ?_
                   refine al_ro' (ro_pickT (u2 rfl hb_25) ev_c) trivial rfl ?_
                   refine al_ro' (ro_move up_h) trivial rfl ?_
                   refine al_skip' ⟨_, rfl, .inl up_h⟩ rfl ?_
                   refine al_skip' ⟨_, rfl, .inl (up_m rfl up_h)⟩ rfl ?_
                   refine al_ro' (ro_pickT (u2 rfl up_h) ev_c) trivial rfl ?_
                   refine al_ro' (ro_move up_h) trivial rfl ?_
                   refine al_skip' ⟨_, rfl, .inl up_h⟩ rfl ?_
                   refine al_skip' ⟨_, rfl, .inl (up_m rfl up_h)⟩ rfl ?_
                   refine al_skip' ⟨_, rfl, .inl (u2 rfl up_h)⟩ rfl ?_
                   refine al_skip' ⟨_, rfl, .inl (up_m rfl (u2 rfl up_h))⟩ rfl ?_
                   refine al_skip' ⟨_, rfl, .inl (u4 rfl up_h)⟩ rfl ?_
                   refine al_ro' (ro_pickT (up_m rfl (u4 rfl up_h)) ev_c) trivial rfl ?_
                   refine al_end (fun e_26 he_26 => ?_)
                   have s4_26 := ef 4 he_26 (up_m rfl (u16 rfl s4_24))
                   have s5_26 := ef 5 he_26 (up_m rfl (u16 rfl s5_24))
                   have s7_26 := ef 7 he_26 (up_m rfl (u16 rfl s7_24))
                   have s9_26 := ef 9 he_26 (up_m rfl (u16 rfl s9_24))
                   have s11_26 := ef 11 he_26 (up_m rfl (u16 rfl s11_24))
                   have s102_26 := ef 102 he_26 up_h
                   clear he_26 hb_25 s10_24 s11_24 s12_24 s3_24 s4_24 s5_24 s7_24 s8_24 s9_24
                   refine then_n ?_
                   refine aw_true s102_26 ?_
                   refine aw_seq ?_
                   refine aw_text (by kernel_rfl) ?_
                   refine al_ro' (ro_assign ev_c) trivial rfl ?_
                   refine al_end (fun e_28 he_28 => ?_)
                   have s6_28 := ef 6 he_28 up_h
                   clear he_28 s102_26 s11_26 s4_26 s5_26 s7_26 s9_26
                   refine then_n ?_
                   refine aw_ret ?_
                   refine then_r ?_
                   refine ret1 (.inr rfl) (by kernel_rfl) (resV_tmp s6_28) (.ro _ rfl) ?_
                   clear s6_28 mo3_3 mo2_3 mo1_3 mo0_3 ml_3
                   (first | rfl | (exfalso; rw [hanV_len] at *; omega)))
              · (first | replace hq_25 := bnt hq_25 | replace hq_25 := bnf hq_25 | replace hq_25 := bt hq_25 | replace hq_25 := bf hq_25 | replace hq_25 := bt' hq_25 | replace hq_25 := bf' hq_25 | skip)
                first
                | (cases hq_25; done) | (exfalso; omega)
                | (
                   refine al_ro' (ro_move (up_m rfl (u2 rfl s10_24))) ⟨_, rfl, hb_25⟩ rfl ?_
                   refine al_ro' (ro_neq up_h ev_c) ⟨_, rfl, (up_m rfl hb_25)⟩ rfl ?_
                   refine al_ro' (ro_pickF (u2 rfl hb_25) up_h) trivial rfl ?_
                   refine al_ro' (ro_move up_h) trivial rfl ?_
                   refine al_case up_h (fun hb_29 hq_29 => ?_) (fun hb_29 hq_29 => ?_)
                   · (first | replace hq_29 := bnt hq_29 | replace hq_29 := bnf hq_29 | replace hq_29 := bt hq_29 | replace hq_29 := bf hq_29 | replace hq_29 := bt' hq_29 | replace hq_29 := bf' hq_29 | skip)
                     first
                     | (cases hq_29; done) | (exfalso; omega)
                     | (
                        refine al_skip' ⟨_, rfl, .inl hb_29⟩ rfl ?_
                        refine al_skip' ⟨_, rfl, .inl (up_m rfl hb_29)⟩ rfl ?_
                        refine al_ro' (ro_pickT (u2 rfl hb_29) ev_c) trivial rfl ?_
                        refine al_ro' (ro_move up_h) trivial rfl ?_
                        refine al_skip' ⟨_, rfl, .inl up_h⟩ rfl ?_
                        refine al_skip' ⟨_, rfl, .inl (up_m rfl up_h)⟩ rfl ?_
                        refine al_skip' ⟨_, rfl, .inl (u2 rfl up_h)⟩ rfl ?_
                        refine al_skip' ⟨_, rfl, .inl (up_m rfl (u2 rfl up_h))⟩ rfl ?_
                        refine al_skip' ⟨_, rfl, .inl (u4 rfl up_h)⟩ rfl ?_
                        refine al_ro' (ro_pickT (up_m rfl (u4 rfl up_h)) ev_c) trivial rfl ?_
                        refine al_end (fun e_30 he_30 => ?_)
                        have s4_30 := ef 4 he_30 (up_m rfl (u16 rfl s4_24))
                        have s5_30 := ef 5 he_30 (up_m rfl (u16 rfl s5_24))
                        have s7_30 := ef 7 he_30 (up_m rfl (u16 rfl s7_24))
                        have s9_30 := ef 9 he_30 (up_m rfl (u16 rfl s9_24))
                        have s11_30 := ef 11 he_30 (up_m rfl (u16 rfl s11_24))
                        have s102_30 := ef 102 he_30 up_h
                        clear he_30 hb_25 hb_29 s10_24 s11_24 s12_24 s3_24 s4_24 s5_24 s7_24 s8_24 s9_24
                        refine then_n ?_
                        refine aw_true s102_30 ?_
                        refine aw_seq ?_
                        refine aw_text (by kernel_rfl) ?_
                        refine al_ro' (ro_assign ev_c) trivial rfl ?_
                        refine al_end (fun e_32 he_32 => ?_)
                        have s6_32 := ef 6 he_32 up_h
                        clear he_32 s102_30 s11_30 s4_30 s5_30 s7_30 s9_30
                        refine then_n ?_
                        refine aw_ret ?_
                        refine then_r ?_
                        refine ret1 (.inr rfl) (by kernel_rfl) (resV_tmp s6_32) (.ro _ rfl) ?_
                        clear s6_32 mo3_3 mo2_3 mo1_3 mo0_3 ml_3
                        (first | rfl | (exfalso; rw [hanV_len] at *; omega)))
                   · (first | replace hq_29 := bnt hq_29 | replace hq_29 := bnf hq_29 | replace hq_29 := bt hq_29 | replace hq_29 := bf hq_29 | replace hq_29 := bt' hq_29 | replace hq_29 := bf' hq_29 | skip)
                     first
                     | (cases hq_29; done) | (exfalso; omega)
                     | (
                        refine al_ro' (ro_move (up_m rfl (u2 rfl (u4 rfl s12_24)))) ⟨_, rfl, hb_29⟩ rfl ?_
                        refine al_ro' (ro_neq up_h ev_c) ⟨_, rfl, (up_m rfl hb_29)⟩ rfl ?_
                        refine al_ro' (ro_pickF (u2 rfl hb_29) up_h) trivial rfl ?_
                        refine al_ro' (ro_move up_h) trivial rfl ?_
                        refine al_case up_h (fun hb_33 hq_33 => ?_) (fun hb_33 hq_33 => ?_)
                        · (first | replace hq_33 := bnt hq_33 | replace hq_33 := bnf hq_33 | replace hq_33 := bt hq_33 | replace hq_33 := bf hq_33 | replace hq_33 := bt' hq_33 | replace hq_33 := bf' hq_33 | skip)
                          first
                          | (cases hq_33; done) | (exfalso; omega)
                          | (
                             refine al_skip' ⟨_, rfl, .inl hb_33⟩ rfl ?_
                             refine al_skip' ⟨_, rfl, .inl (up_m rfl hb_33)⟩ rfl ?_
                             refine al_skip' ⟨_, rfl, .inl (u2 rfl hb_33)⟩ rfl ?_
                             refine al_skip' ⟨_, rfl, .inl (up_m rfl (u2 rfl hb_33))⟩ rfl ?_
                             refine al_skip' ⟨_, rfl, .inl (u4 rfl hb_33)⟩ rfl ?_
                             refine al_ro' (ro_pickT (up_m rfl (u4 rfl hb_33)) ev_c) trivial rfl ?_
                             refine al_end (fun e_34 he_34 => ?_)
                             have s4_34 := ef 4 he_34 (up_m rfl (u16 rfl s4_24))
                             have s5_34 := ef 5 he_34 (up_m rfl (u16 rfl s5_24))
                             have s7_34 := ef 7 he_34 (up_m rfl (u16 rfl s7_24))
                             have s9_34 := ef 9 he_34 (up_m rfl (u16 rfl s9_24))
                             have s11_34 := ef 11 he_34 (up_m rfl (u16 rfl s11_24))
                             have s102_34 := ef 102 he_34 up_h
                             clear he_34 hb_25 hb_29 hb_33 s10_24 s11_24 s12_24 s3_24 s4_24 s5_24 s7_24 s8_24 s9_24
                             refine then_n ?_
                             refine aw_true s102_34 ?_
                             refine aw_seq ?_
                             refine aw_text (by kernel_rfl) ?_
                             refine al_ro' (ro_assign ev_c) trivial rfl ?_
                             refine al_end (fun e_36 he_36 => ?_)
                             have s6_36 := ef 6 he_36 up_h
                             clear he_36 s102_34 s11_34 s4_34 s5_34 s7_34 s9_34
                             refine then_n ?_
                             refine aw_ret ?_
                             refine then_r ?_
                             refine ret1 (.inr rfl) (by kernel_rfl) (resV_tmp s6_36) (.ro _ rfl) ?_
                             clear s6_36 mo3_3 mo2_3 mo1_3 mo0_3 ml_3
                             (first | rfl | (exfalso; rw [hanV_len] at *; omega)))
                        · (first | replace hq_33 := bnt hq_33 | replace hq_33 := bnf hq_33 | replace hq_33 := bt hq_33 | replace hq_33 := bf hq_33 | replace hq_33 := bt' hq_33 | replace hq_33 := bf' hq_33 | skip)
                          first
                          | (cases hq_33; done) | (exfalso; omega)
                          | (
                             refine al_ro' (ro_move (up_m rfl (u2 rfl (u8 rfl s11_24)))) ⟨_, rfl, hb_33⟩ rfl ?_
                             refine al_ro' (ro_eq (ro_len_row up_h rfl h16_sl43.1) (by first | (simp only [lnS] <;> rfl) | rfl)) ⟨_, rfl, (up_m rfl hb_33)⟩ rfl ?_
                             refine al_ro' (ro_fld_ptr h16_fl57_2 rfl (up_m rfl (u4 rfl (u8 rfl s3_24)))) ⟨_, rfl, (u2 rfl hb_33)⟩ rfl ?_
                             refine al_ro' (ro_eq (ro_ld_ptr h16_ty3 rfl mo1_3 up_h (by first | exact Nat.le_of_ble_eq_true rfl | omega | (simp only [lnS] <;> omega) | (simp <;> omega))) (by first | (simp only [packA_t, packA_f, iE, bE, setAt, cellsA, Value.cells, map_vc, map_vn, Nat.reduceAdd, qS, tE] <;> rfl) | rfl)) ⟨_, rfl, (up_m rfl (u2 rfl hb_33))⟩ rfl ?_
                             refine al_ro' (ro_neq (u2 rfl up_h) up_h) ⟨_, rfl, (u4 rfl hb_33)⟩ rfl ?_
                             refine al_ro' (ro_pickF (up_m rfl (u4 rfl hb_33)) up_h) trivial rfl ?_
                             refine al_end (fun e_37 he_37 => ?_)
                             have s4_37 := ef 4 he_37 (up_m rfl (u16 rfl s4_24))
                             have s5_37 := ef 5 he_37 (up_m rfl (u16 rfl s5_24))
                             have s7_37 := ef 7 he_37 (up_m rfl (u16 rfl s7_24))
                             have s9_37 := ef 9 he_37 (up_m rfl (u16 rfl s9_24))
                             have s11_37 := ef 11 he_37 (up_m rfl (u16 rfl s11_24))
                             have s102_37 := ef 102 he_37 up_h
                             clear he_37 hb_25 hb_29 hb_33 s10_24 s11_24 s12_24 s3_24 s4_24 s5_24 s7_24 s8_24 s9_24
                             refine then_n ?_
                             refine aw_case s102_37 (fun hq_38 => ?_) (fun hq_38 => ?_)
                             · (first | replace hq_38 := bnt hq_38 | replace hq_38 := bnf hq_38 | replace hq_38 := bt hq_38 | replace hq_38 := bf hq_38 | replace hq_38 := bt' hq_38 | replace hq_38 := bf' hq_38 | skip)
                               first
                               | (cases hq_38; done) | (exfalso; omega)
                               | (
                                  refine aw_seq ?_
                                  refine aw_text (by kernel_rfl) ?_
                                  refine al_ro' (ro_assign ev_c) trivial rfl ?_
                                  refine al_end (fun e_39 he_39 => ?_)
                                  have s6_39 := ef 6 he_39 up_h
                                  clear he_39 s102_37 s11_37 s4_37 s5_37 s7_37 s9_37
                                  refine then_n ?_
                                  refine aw_ret ?_
                                  refine then_r ?_
                                  refine ret1 (.inr rfl) (by kernel_rfl) (resV_tmp s6_39) (.ro _ rfl) ?_
                                  clear s6_39 mo3_3 mo2_3 mo1_3 mo0_3 ml_3
                                  (first | rfl | (exfalso; rw [hanV_len] at *; omega)))
                             · (first | replace hq_38 := bnt hq_38 | replace hq_38 := bnf hq_38 | replace hq_38 := bt hq_38 | replace hq_38 := bf hq_38 | replace hq_38 := bt' hq_38 | replace hq_38 := bf' hq_38 | skip)
                               first
                               | (cases hq_38; done) | (exfalso; omega)
                               | (
                                  (have hlk : (hanV u v k k.toNat).length = k.toNat := hanV_len _ _ _ _; obtain ⟨⟨f1, f2⟩, f3, f4⟩ := id hf)
                                  refine aw_skip ?_
                                  refine then_n ?_
                                  refine aw_seq ?_
                                  refine aw_seq ?_
                                  refine aw_text (by kernel_rfl) ?_
                                  refine al_ro' (ro_move s7_37) trivial rfl ?_
                                  refine al_ro' (ro_not up_h) trivial rfl ?_
                                  refine al_end (fun e_40 he_40 => ?_)
                                  have s4_40 := ef 4 he_40 (u2 rfl s4_37)
                                  have s5_40 := ef 5 he_40 (u2 rfl s5_37)
                                  have s9_40 := ef 9 he_40 (u2 rfl s9_37)
                                  have s11_40 := ef 11 he_40 (u2 rfl s11_37)
                                  have s104_40 := ef 104 he_40 up_h
                                  clear he_40 s102_37 s11_37 s4_37 s5_37 s7_37 s9_37
                                  refine then_n ?_
                                  refine aw_case s104_40 (fun hq_41 => ?_) (fun hq_41 => ?_)
                                  · (first | replace hq_41 := bnt hq_41 | replace hq_41 := bnf hq_41 | replace hq_41 := bt hq_41 | replace hq_41 := bf hq_41 | replace hq_41 := bt' hq_41 | replace hq_41 := bf' hq_41 | skip)
                                    first
                                    | (cases hq_41; done) | (exfalso; omega)
                                    | (
                                       refine aw_seq ?_
                                       refine aw_text (by kernel_rfl) ?_
                                       refine al_ro' (ro_assign ev_c) trivial rfl ?_
                                       refine al_end (fun e_42 he_42 => ?_)
                                       have s6_42 := ef 6 he_42 up_h
                                       clear he_42 s104_40 s11_40 s4_40 s5_40 s9_40
                                       refine then_n ?_
                                       refine aw_ret ?_
                                       refine then_r ?_
                                       refine ret1 (.inr rfl) (by kernel_rfl) (resV_tmp s6_42) (.ro _ rfl) ?_
                                       clear s6_42 mo3_3 mo2_3 mo1_3 mo0_3 ml_3
                                       (first | rfl | (exfalso; rw [hanV_len] at *; omega)))
                                  · (first | replace hq_41 := bnt hq_41 | replace hq_41 := bnf hq_41 | replace hq_41 := bt hq_41 | replace hq_41 := bf hq_41 | replace hq_41 := bt' hq_41 | replace hq_41 := bf' hq_41 | skip)
                                    first
                                    | (cases hq_41; done) | (exfalso; omega)
                                    | (
                                       (have hfv : (prodV v f).2 = (prodV u f).2 := evn_eq (by assumption); have hS0 : 0 ≤ sizeW f.1 + sizeW f.2 ∧ sizeW f.1 + sizeW f.2 ≤ 2000 := (by simp only [sizeW]; omega); have hS1 : 0 ≤ sizeW f.1 ∧ sizeW f.1 ≤ 1000 ∧ 0 ≤ sizeW f.2 ∧ sizeW f.2 ≤ 1000 := (by simp only [sizeW]; omega); have m0 := mulBd (A := 500) (B := 2000) (a := q) (b := sizeW f.1 + sizeW f.2) (by omega) (by omega); have q0 := force_bd (by decide) hu hf; have m1 := mulBd (A := 500) (B := 6000000) (a := q) (b := (prodV u f).2) (by omega) (by omega))
                                       refine aw_skip ?_
                                       refine then_n ?_
                                       refine aw_seq ?_
                                       refine aw_text (by kernel_rfl) ?_
                                       refine al_ro' (ro_lit h16_sl46 (evP_cons ev_c (evP_cons ev_c evP_nil)) rfl rfl rfl rfl) trivial rfl ?_
                                       refine al_ro' (ro_build (evP_cons up_h evP_nil) h16_bz64 h16_bu64 h16_bp64 rfl) trivial rfl ?_
                                       refine al_stm (st_alloc h16_az64 rfl ml_3) trivial rfl (fun m_43 hm_43 => ?_)
                                       have mo4_43 := m_push hm_43 ml_3
                                       (try simp only [packA_t, packA_f, iE, bE, setAt, cellsA, Value.cells, map_vc, map_vn, Nat.reduceAdd, qS, tE] at mo4_43)
                                       have mo3_43 := m_push_o hm_43 mo3_3
                                       have mo2_43 := m_push_o hm_43 mo2_3
                                       have mo1_43 := m_push_o hm_43 mo1_3
                                       have mo0_43 := m_push_o hm_43 mo0_3
                                       have ml_43 := m_push_l hm_43 ml_3
                                       have ml_43 : _ = 5 := ml_43
                                       clear hm_43 mo3_3 mo2_3 mo1_3 mo0_3
                                       refine al_stm (st_store up_h (up_m rfl up_h) rfl rfl mo4_43 h16_sz64 rfl (by first | exact Nat.le_of_ble_eq_true rfl | omega | (simp only [lnS] <;> omega) | (simp <;> omega))) trivial rfl (fun m_44 hm_44 => ?_)
                                       have mo4_44 := m_set hm_44 mo4_43
                                       (try simp only [packA_t, packA_f, iE, bE, setAt, cellsA, Value.cells, map_vc, map_vn, Nat.reduceAdd, qS, tE] at mo4_44)
                                       have mo3_44 := m_set_o hm_44 mo3_43 (by decide)
                                       have mo2_44 := m_set_o hm_44 mo2_43 (by decide)
                                       have mo1_44 := m_set_o hm_44 mo1_43 (by decide)
                                       have mo0_44 := m_set_o hm_44 mo0_43 (by decide)
                                       have ml_44 := m_set_l hm_44 ml_43
                                       clear hm_44 mo4_43 mo3_43 mo2_43 mo1_43 mo0_43
                                       refine al_end (fun e_45 he_45 => ?_)
                                       have s4_45 := ef 4 he_45 (up_n (up_m rfl (u2 rfl s4_40)))
                                       have s5_45 := ef 5 he_45 (up_n (up_m rfl (u2 rfl s5_40)))
                                       have s9_45 := ef 9 he_45 (up_n (up_m rfl (u2 rfl s9_40)))
                                       have s11_45 := ef 11 he_45 (up_n (up_m rfl (u2 rfl s11_40)))
                                       have s13_45 := ef 13 he_45 (up_n up_h)
                                       clear he_45 s104_40 s11_40 s4_40 s5_40 s9_40
                                       refine then_n ?_
                                       refine aw_seq ?_
                                       refine aw_draw 11 (by kernel_rfl) (by kernel_rfl) (by kernel_rfl) (by kernel_rfl) ?_
                                       refine ds_ro' (ro_ixa h16_ar58 s5_45 ev_c rfl) trivial rfl ?_
                                       refine ds_ro' (ro_eq (ro_ld_ptr h16_ty3 rfl mo3_44 up_h (by first | exact Nat.le_of_ble_eq_true rfl | omega | (simp only [lnS] <;> omega) | (simp <;> omega))) (by first | (simp only [packA_t, packA_f, iE, bE, setAt, cellsA, Value.cells, map_vc, map_vn, Nat.reduceAdd, qS, tE] <;> rfl) | rfl)) trivial rfl ?_
                                       refine ds_ro' (ro_fld_ptr h16_fl24_0 rfl (u2 rfl s4_45)) trivial rfl ?_
                                       refine ds_ro' (ro_eq (ro_ld_ptr h16_ty3 rfl mo2_44 up_h (by first | exact Nat.le_of_ble_eq_true rfl | omega | (simp only [lnS] <;> omega) | (simp <;> omega))) (by first | (simp only [packA_t, packA_f, iE, bE, setAt, cellsA, Value.cells, map_vc, map_vn, Nat.reduceAdd, qS, tE] <;> rfl) | rfl)) trivial rfl ?_
                                       refine ds_ro' (ro_call (evL_cons up_h evL_nil) rfl (bSize_ok _ (by first | omega | (simp only [sizeW]; omega))) h16_hcf29) trivial rfl ?_
                                       refine ds_ro' (ro_fld_ptr h16_fl24_1 rfl (up_m rfl (u4 rfl s4_45))) trivial rfl ?_
                                       refine ds_ro' (ro_eq (ro_ld_ptr h16_ty3 rfl mo2_44 up_h (by first | exact Nat.le_of_ble_eq_true rfl | omega | (simp only [lnS] <;> omega) | (simp <;> omega))) (by first | (simp only [packA_t, packA_f, iE, bE, setAt, cellsA, Value.cells, map_vc, map_vn, Nat.reduceAdd, qS, tE] <;> rfl) | rfl)) trivial rfl ?_
                                       refine ds_ro' (ro_call (evL_cons up_h evL_nil) rfl (bSize_ok _ (by first | omega | (simp only [sizeW]; omega))) h16_hcf29) trivial rfl ?_
                                       first | (refine ds_ro' (ro_add' (up_m rfl (u2 rfl up_h)) up_h ?_) trivial rfl ?_; · (unfold In64; omega)) | refine ds_ro' (ro_add (up_m rfl (u2 rfl up_h)) up_h) trivial rfl ?_
                                       first | (refine ds_ro' (ro_mul' (up_m rfl (u2 rfl (u4 rfl up_h))) up_h ?_) trivial rfl ?_; · (unfold In64; omega)) | refine ds_ro' (ro_mul (up_m rfl (u2 rfl (u4 rfl up_h))) up_h) trivial rfl ?_
                                       refine ds_ro' (ro_assign up_h) trivial rfl ?_
                                       refine ds_nil ?_
                                       refine al_end (fun e_46 he_46 => ?_)
                                       have s4_46 := ef 4 he_46 (up_m rfl (u2 rfl (u8 rfl s4_45)))
                                       have s5_46 := ef 5 he_46 (up_m rfl (u2 rfl (u8 rfl s5_45)))
                                       have s9_46 := ef 9 he_46 (up_m rfl (u2 rfl (u8 rfl s9_45)))
                                       have s11_46 := ef 11 he_46 (up_m rfl (u2 rfl (u8 rfl s11_45)))
                                       have s13_46 := ef 13 he_46 (up_m rfl (u2 rfl (u8 rfl s13_45)))
                                       have s14_46 := ef 14 he_46 up_h
                                       clear he_46 s11_45 s13_45 s4_45 s5_45 s9_45
                                       refine then_n ?_
                                       refine aw_seq ?_
                                       refine aw_seq ?_
                                       refine aw_text (by kernel_rfl) ?_
                                       refine al_ro' (ro_assign ev_c) trivial rfl ?_
                                       refine al_end (fun e_47 he_47 => ?_)
                                       have s4_47 := ef 4 he_47 (up_m rfl s4_46)
                                       have s5_47 := ef 5 he_47 (up_m rfl s5_46)
                                       have s9_47 := ef 9 he_47 (up_m rfl s9_46)
                                       have s11_47 := ef 11 he_47 (up_m rfl s11_46)
                                       have s13_47 := ef 13 he_47 (up_m rfl s13_46)
                                       have s14_47 := ef 14 he_47 (up_m rfl s14_46)
                                       have s15_47 := ef 15 he_47 up_h
                                       clear he_47 s11_46 s13_46 s14_46 s4_46 s5_46 s9_46
                                       refine then_n ?_
                                       refine aw_block ?_
                                       refine aw_loop (S := Int) (fun i e mem => (evA e (.tmp 15) = .v (.int .i64 i)) ∧ (evA e (.tmp 4) = evA e_47 (.tmp 4)) ∧ (evA e (.tmp 5) = evA e_47 (.tmp 5)) ∧ (evA e (.tmp 9) = evA e_47 (.tmp 9)) ∧ (evA e (.tmp 11) = evA e_47 (.tmp 11)) ∧ (evA e (.tmp 13) = evA e_47 (.tmp 13)) ∧ (evA e (.tmp 14) = evA e_47 (.tmp 14)) ∧ (mem[4]? = m_44[4]?) ∧ (mem[3]? = m_44[3]?) ∧ (mem[2]? = m_44[2]?) ∧ (mem[1]? = m_44[1]?) ∧ (mem[0]? = m_44[0]?) ∧ (∃ n, mem.length = n ∧ 5 ≤ n) ∧ ((0 ≤ i ∧ i ≤ (hanV u v k k.toNat).length))) (fun i => ((hanV u v k k.toNat).length - i).toNat) _ ⟨s15_47, rfl, rfl, rfl, rfl, rfl, rfl, rfl, rfl, rfl, rfl, rfl, ⟨_, ml_44, Nat.le_refl _⟩, ?_⟩ ?_
                                       · (exact ⟨by omega, by omega⟩)
                                       · rintro i e_48 m_48 ⟨s15_48, k4_48, k5_48, k9_48, k11_48, k13_48, k14_48, mk4_48, mk3_48, mk2_48, mk1_48, mk0_48, ⟨n_48, ml_48, hn_48⟩, hinv⟩
                                         have s4_48 := k4_48.trans s4_47
                                         have s5_48 := k5_48.trans s5_47
                                         have s9_48 := k9_48.trans s9_47
                                         have s11_48 := k11_48.trans s11_47
                                         have s13_48 := k13_48.trans s13_47
                                         have s14_48 := k14_48.trans s14_47
                                         have mo4_48 := mk4_48.trans mo4_44
                                         have mo3_48 := mk3_48.trans mo3_44
                                         have mo2_48 := mk2_48.trans mo2_44
                                         have mo1_48 := mk1_48.trans mo1_44
                                         have mo0_48 := mk0_48.trans mo0_44
                                         (obtain ⟨p1, p2⟩ := hinv)
                                         refine aw_seq ?_
                                         refine aw_seq ?_
                                         refine aw_text (by kernel_rfl) ?_
                                         refine al_ro' (ro_move s15_48) trivial rfl ?_
                                         refine al_ro' (ro_move (up_m rfl s11_48)) trivial rfl ?_
                                         refine al_ro' (ro_eq (ro_len_row up_h rfl h16_sl43.1) (by first | (simp only [lnS] <;> rfl) | rfl)) trivial rfl ?_
                                         refine al_ro' (ro_lss (u2 rfl up_h) up_h) trivial rfl ?_
                                         refine al_end (fun e_49 he_49 => ?_)
                                         have s4_49 := ef 4 he_49 (u4 rfl s4_48)
                                         have s5_49 := ef 5 he_49 (u4 rfl s5_48)
                                         have s9_49 := ef 9 he_49 (u4 rfl s9_48)
                                         have s11_49 := ef 11 he_49 (u4 rfl s11_48)
                                         have s13_49 := ef 13 he_49 (u4 rfl s13_48)
                                         have s14_49 := ef 14 he_49 (u4 rfl s14_48)
                                         have s15_49 := ef 15 he_49 (u4 rfl s15_48)
                                         have s120_49 := ef 120 he_49 up_h
                                         clear he_49 s11_48 s13_48 s14_48 s15_48 s4_48 s5_48 s9_48
                                         refine then_n ?_
                                         refine aw_case s120_49 (fun hq_50 => ?_) (fun hq_50 => ?_)
                                         · (first | replace hq_50 := bnt hq_50 | replace hq_50 := bnf hq_50 | replace hq_50 := bt hq_50 | replace hq_50 := bf hq_50 | replace hq_50 := bt' hq_50 | replace hq_50 := bf' hq_50 | skip)
                                           first
                                           | (cases hq_50; done) | (exfalso; omega)
                                           | (
                                              (have hle : ((hanV u v k k.toNat).getD i.toNat default) = hanAt u v k i.toNat := hanV_at _ _ _ _ _ (by omega); have hLb : Bd 1000 ((hanV u v k k.toNat).getD i.toNat default) := (by rw [hle]; exact hanAt_bd hu hv hk.1 (by omega)); have hnr := han_near hk.1 hfv i.toNat; rw [← hle] at hnr; have hR := two_right hp hq hLb hf; have ht1 := tur_right (z := i) (hLb.mono (by decide)) (by omega); have ht2 := tur_right (z := i) (hf.mono (by decide)) (by omega); have q1 := force_bd (by decide) hLb hf; have m2 := mulBd (A := 500) (B := 6000000) (a := q) (b := (prodV ((hanV u v k k.toNat).getD i.toNat default) f).2) (by omega) (by omega); have m3 := mul_near hq.1 hnr; obtain ⟨⟨l1, l2⟩, l3, l4⟩ := id hLb)
                                              refine aw_skip ?_
                                              refine then_n ?_
                                              refine aw_seq ?_
                                              refine aw_block ?_
                                              refine aw_seq ?_
                                              refine aw_seq ?_
                                              refine aw_cut (fun e mem => (evA e (.tmp 138) = .v (.bool false)) ∧ (evA e (.tmp 4) = evA e_49 (.tmp 4)) ∧ (evA e (.tmp 5) = evA e_49 (.tmp 5)) ∧ (evA e (.tmp 9) = evA e_49 (.tmp 9)) ∧ (evA e (.tmp 11) = evA e_49 (.tmp 11)) ∧ (evA e (.tmp 13) = evA e_49 (.tmp 13)) ∧ (evA e (.tmp 14) = evA e_49 (.tmp 14)) ∧ (evA e (.tmp 15) = evA e_49 (.tmp 15)) ∧ m_48 = mem) ?_ ?_
                                              ·
                                                refine aw_text (by kernel_rfl) ?_
                                                refine al_ro' (ro_move s11_49) trivial rfl ?_
                                                refine al_ro' (ro_move (up_m rfl s15_49)) trivial rfl ?_
                                                refine al_ro' (ro_eq (ro_ix h16_sl43 (up_m rfl up_h) up_h (by first | decide | omega | (simp <;> omega)) (by first | (refine idx_map ?_; first | omega | (simp only [lnS]; omega)) | (refine idx_mapI ?_; first | omega | (simp only [lnS]; omega)) | (refine idx_mapN ?_; first | omega | (simp only [lnS]; omega)) | rfl)) (by first | (simp only [packA_t, packA_f, iE, bE, setAt, cellsA, Value.cells, map_vc, map_vn, Nat.reduceAdd, qS, tE] <;> rfl) | rfl)) trivial rfl ?_
                                                refine al_ro' (ro_eq (ro_fld_ref h16_fl24_0 rfl up_h) (by first | (simp only [packA_t, packA_f, iE, bE, setAt, cellsA, Value.cells, map_vc, map_vn, Nat.reduceAdd, qS, tE] <;> rfl) | rfl)) trivial rfl ?_
                                                refine al_ro' (ro_eq (ro_ld_ref h16_ty3 rfl up_h (by first | exact Nat.le_of_ble_eq_true rfl | omega | (simp only [lnS] <;> omega) | (simp <;> omega))) (by first | (simp only [packA_t, packA_f, iE, bE, setAt, cellsA, Value.cells, map_vc, map_vn, Nat.reduceAdd, qS, tE] <;> rfl) | rfl)) trivial rfl ?_
                                                refine al_ro' (ro_call (evL_cons up_h (evL_cons ev_c (evL_cons ev_c evL_nil))) rfl (bWithin_ok _ _ _) h16_hcf18) trivial rfl ?_
                                                refine al_ro' (ro_not up_h) trivial rfl ?_
                                                refine al_ro' (ro_move up_h) trivial rfl ?_
                                                refine al_case up_h (fun hb_52 hq_52 => ?_) (fun hb_52 hq_52 => ?_)
                                                · (first | replace hq_52 := bnt hq_52 | replace hq_52 := bnf hq_52 | replace hq_52 := bt hq_52 | replace hq_52 := bf hq_52 | replace hq_52 := bt' hq_52 | replace hq_52 := bf' hq_52 | skip)
                                                  first
                                                  | (cases hq_52; done) | (exfalso; omega)
                                                  | (
                                                     refine al_skip' ⟨_, rfl, .inl hb_52⟩ rfl ?_
                                                     refine al_skip' ⟨_, rfl, .inl (up_m rfl hb_52)⟩ rfl ?_
                                                     refine al_skip' ⟨_, rfl, .inl (u2 rfl hb_52)⟩ rfl ?_
                                                     refine al_skip' ⟨_, rfl, .inl (up_m rfl (u2 rfl hb_52))⟩ rfl ?_
                                                     refine al_skip' ⟨_, rfl, .inl (u4 rfl hb_52)⟩ rfl ?_
                                                     refine al_skip' ⟨_, rfl, .inl (up_m rfl (u4 rfl hb_52))⟩ rfl ?_
                                                     refine al_skip' ⟨_, rfl, .inl (u2 rfl (u4 rfl hb_52))⟩ rfl ?_
                                                     refine al_ro' (ro_pickT (up_m rfl (u2 rfl (u4 rfl hb_52))) ev_c) trivial rfl ?_
                                                     refine al_end (fun e_53 he_53 => ?_)
                                                     have s4_53 := ef 4 he_53 (u16 rfl s4_49)
                                                     have s5_53 := ef 5 he_53 (u16 rfl s5_49)
                                                     have s9_53 := ef 9 he_53 (u16 rfl s9_49)
                                                     have s11_53 := ef 11 he_53 (u16 rfl s11_49)
                                                     have s13_53 := ef 13 he_53 (u16 rfl s13_49)
                                                     have s14_53 := ef 14 he_53 (u16 rfl s14_49)
                                                     have s15_53 := ef 15 he_53 (u16 rfl s15_49)
                                                     have s138_53 := ef 138 he_53 up_h
                                                     clear he_53
                                                     refine then_n ⟨(s138_53).trans (by (first | rfl | (refine avb ?_; simp [withinB, -List.getD_eq_getElem?_getD, -Int.default_eq_zero] at *; omega))), (s4_53).trans (s4_49).symm, (s5_53).trans (s5_49).symm, (s9_53).trans (s9_49).symm, (s11_53).trans (s11_49).symm, (s13_53).trans (s13_49).symm, (s14_53).trans (s14_49).symm, (s15_53).trans (s15_49).symm, rfl⟩)
                                                · (first | replace hq_52 := bnt hq_52 | replace hq_52 := bnf hq_52 | replace hq_52 := bt hq_52 | replace hq_52 := bf hq_52 | replace hq_52 := bt' hq_52 | replace hq_52 := bf' hq_52 | skip)
                                                  first
                                                  | (cases hq_52; done) | (exfalso; omega)
                                                  | (
                                                     refine al_ro' (ro_move (u8 rfl s11_49)) ⟨_, rfl, hb_52⟩ rfl ?_
                                                     refine al_ro' (ro_move (up_m rfl (u8 rfl s15_49))) ⟨_, rfl, (up_m rfl hb_52)⟩ rfl ?_
                                                     refine al_ro' (ro_eq (ro_ix h16_sl43 (up_m rfl up_h) up_h (by first | decide | omega | (simp <;> omega)) (by first | (refine idx_map ?_; first | omega | (simp only [lnS]; omega)) | (refine idx_mapI ?_; first | omega | (simp only [lnS]; omega)) | (refine idx_mapN ?_; first | omega | (simp only [lnS]; omega)) | rfl)) (by first | (simp only [packA_t, packA_f, iE, bE, setAt, cellsA, Value.cells, map_vc, map_vn, Nat.reduceAdd, qS, tE] <;> rfl) | rfl)) ⟨_, rfl, (u2 rfl hb_52)⟩ rfl ?_
                                                     refine al_ro' (ro_eq (ro_fld_ref h16_fl24_1 rfl up_h) (by first | (simp only [packA_t, packA_f, iE, bE, setAt, cellsA, Value.cells, map_vc, map_vn, Nat.reduceAdd, qS, tE] <;> rfl) | rfl)) ⟨_, rfl, (up_m rfl (u2 rfl hb_52))⟩ rfl ?_
                                                     refine al_ro' (ro_eq (ro_ld_ref h16_ty3 rfl up_h (by first | exact Nat.le_of_ble_eq_true rfl | omega | (simp only [lnS] <;> omega) | (simp <;> omega))) (by first | (simp only [packA_t, packA_f, iE, bE, setAt, cellsA, Value.cells, map_vc, map_vn, Nat.reduceAdd, qS, tE] <;> rfl) | rfl)) ⟨_, rfl, (u4 rfl hb_52)⟩ rfl ?_
                                                     refine al_ro' (ro_call (evL_cons up_h (evL_cons ev_c (evL_cons ev_c evL_nil))) rfl (bWithin_ok _ _ _) h16_hcf18) ⟨_, rfl, (up_m rfl (u4 rfl hb_52))⟩ rfl ?_
                                                     refine al_ro' (ro_not up_h) ⟨_, rfl, (u2 rfl (u4 rfl hb_52))⟩ rfl ?_
                                                     refine al_ro' (ro_pickF (up_m rfl (u2 rfl (u4 rfl hb_52))) up_h) trivial rfl ?_
                                                     refine al_end (fun e_54 he_54 => ?_)
                                                     have s4_54 := ef 4 he_54 (u16 rfl s4_49)
                                                     have s5_54 := ef 5 he_54 (u16 rfl s5_49)
                                                     have s9_54 := ef 9 he_54 (u16 rfl s9_49)
                                                     have s11_54 := ef 11 he_54 (u16 rfl s11_49)
                                                     have s13_54 := ef 13 he_54 (u16 rfl s13_49)
                                                     have s14_54 := ef 14 he_54 (u16 rfl s14_49)
                                                     have s15_54 := ef 15 he_54 (u16 rfl s15_49)
                                                     have s138_54 := ef 138 he_54 up_h
                                                     clear he_54
                                                     refine then_n ⟨(s138_54).trans (by (first | rfl | (refine avb ?_; simp [withinB, -List.getD_eq_getElem?_getD, -Int.default_eq_zero] at *; omega))), (s4_54).trans (s4_49).symm, (s5_54).trans (s5_49).symm, (s9_54).trans (s9_49).symm, (s11_54).trans (s11_49).symm, (s13_54).trans (s13_49).symm, (s14_54).trans (s14_49).symm, (s15_54).trans (s15_49).symm, rfl⟩)
                                              · rintro e_51 _ ⟨s138_51, k4_51, k5_51, k9_51, k11_51, k13_51, k14_51, k15_51, rfl⟩
                                                have s4_51 := k4_51.trans s4_49
                                                have s5_51 := k5_51.trans s5_49
                                                have s9_51 := k9_51.trans s9_49
                                                have s11_51 := k11_51.trans s11_49
                                                have s13_51 := k13_51.trans s13_49
                                                have s14_51 := k14_51.trans s14_49
                                                have s15_51 := k15_51.trans s15_49
                                                refine aw_case s138_51 (fun hq_55 => ?_) (fun hq_55 => ?_)
                                                · (first | replace hq_55 := bnt hq_55 | replace hq_55 := bnf hq_55 | replace hq_55 := bt hq_55 | replace hq_55 := bf hq_55 | replace hq_55 := bt' hq_55 | replace hq_55 := bf' hq_55 | skip)
                                                  first
                                                  | (cases hq_55; done) | (exfalso; omega)
                                                  | (
                                                     refine aw_seq ?_
                                                     refine aw_text (by kernel_rfl) ?_
                                                     refine al_ro' (ro_assign ev_c) trivial rfl ?_
                                                     refine al_end (fun e_56 he_56 => ?_)
                                                     have s6_56 := ef 6 he_56 up_h
                                                     clear he_56 s11_51 s138_51 s13_51 s14_51 s15_51 s4_51 s5_51 s9_51
                                                     refine then_n ?_
                                                     refine aw_ret ?_
                                                     refine then_r ?_
                                                     refine block_r ?_
                                                     refine then_r ?_
                                                     refine then_r ?_
                                                     refine block_r ?_
                                                     refine then_r ?_
                                                     refine ret1 (.inr rfl) (by kernel_rfl) (resV_tmp s6_56) (.ro _ rfl) ?_
                                                     clear s6_56 mo4_48 mo3_48 mo2_48 mo1_48 mo0_48 ml_48
                                                     (first | rfl | (exfalso; rw [hanV_len] at *; omega)))
                                                · (first | replace hq_55 := bnt hq_55 | replace hq_55 := bnf hq_55 | replace hq_55 := bt hq_55 | replace hq_55 := bf hq_55 | replace hq_55 := bt' hq_55 | replace hq_55 := bf' hq_55 | skip)
                                                  first
                                                  | (cases hq_55; done) | (exfalso; omega)
                                                  | (
                                                     refine aw_skip ?_
                                                     refine then_n ?_
                                                     refine aw_seq ?_
                                                     refine aw_draw 24 (by kernel_rfl) (by kernel_rfl) (by kernel_rfl) (by kernel_rfl) ?_
                                                     refine ds_ro' (ro_eq (ro_ld_ptr h16_ty64 rfl mo4_48 s13_51 (by first | exact Nat.le_of_ble_eq_true rfl | omega | (simp only [lnS] <;> omega) | (simp <;> omega))) (by first | (simp only [packA_t, packA_f, iE, bE, setAt, cellsA, Value.cells, map_vc, map_vn, Nat.reduceAdd, qS, tE] <;> rfl) | rfl)) trivial rfl ?_
                                                     refine ds_ro' (ro_call (evL_cons up_h evL_nil) rfl (copyTrack_ok [500, 500] (by decide)) h16_hcf31) trivial rfl ?_
                                                     refine ds_ro' (ro_ixa h16_ar58 (u2 rfl s5_51) ev_c rfl) trivial rfl ?_
                                                     refine ds_ro' (ro_eq (ro_ld_ptr h16_ty3 rfl mo3_48 up_h (by first | exact Nat.le_of_ble_eq_true rfl | omega | (simp only [lnS] <;> omega) | (simp <;> omega))) (by first | (simp only [packA_t, packA_f, iE, bE, setAt, cellsA, Value.cells, map_vc, map_vn, Nat.reduceAdd, qS, tE] <;> rfl) | rfl)) trivial rfl ?_
                                                     refine ds_ro' (ro_ixa h16_ar58 (u4 rfl s5_51) ev_c rfl) trivial rfl ?_
                                                     refine ds_ro' (ro_eq (ro_ld_ptr h16_ty3 rfl mo3_48 up_h (by first | exact Nat.le_of_ble_eq_true rfl | omega | (simp only [lnS] <;> omega) | (simp <;> omega))) (by first | (simp only [packA_t, packA_f, iE, bE, setAt, cellsA, Value.cells, map_vc, map_vn, Nat.reduceAdd, qS, tE] <;> rfl) | rfl)) trivial rfl ?_
                                                     refine ds_ro' (ro_build (evP_cons (u2 rfl up_h) (evP_cons up_h evP_nil)) h16_bz69 h16_bu69 h16_bp69 rfl) trivial rfl ?_
                                                     refine ds_ro' (ro_move (up_m rfl (u2 rfl (u4 rfl s11_51)))) trivial rfl ?_
                                                     refine ds_ro' (ro_move (u8 rfl s15_51)) trivial rfl ?_
                                                     refine ds_ro' (ro_eq (ro_ix h16_sl43 (up_m rfl up_h) up_h (by first | decide | omega | (simp <;> omega)) (by first | (refine idx_map ?_; first | omega | (simp only [lnS]; omega)) | (refine idx_mapI ?_; first | omega | (simp only [lnS]; omega)) | (refine idx_mapN ?_; first | omega | (simp only [lnS]; omega)) | rfl)) (by first | (simp only [packA_t, packA_f, iE, bE, setAt, cellsA, Value.cells, map_vc, map_vn, Nat.reduceAdd, qS, tE] <;> rfl) | rfl)) trivial rfl ?_
                                                     refine ds_ro' (ro_eq (ro_ld_ref h16_ty24 rfl up_h (by first | exact Nat.le_of_ble_eq_true rfl | omega | (simp only [lnS] <;> omega) | (simp <;> omega))) (by first | (simp only [packA_t, packA_f, iE, bE, setAt, cellsA, Value.cells, map_vc, map_vn, Nat.reduceAdd, qS, tE] <;> rfl) | rfl)) trivial rfl ?_
                                                     refine ds_ro' (ro_move (up_m rfl (u2 rfl (u8 rfl s11_51)))) trivial rfl ?_
                                                     refine ds_ro' (ro_move (u4 rfl (u8 rfl s15_51))) trivial rfl ?_
                                                     refine ds_ro' (ro_eq (ro_ix h16_sl43 (up_m rfl up_h) up_h (by first | decide | omega | (simp <;> omega)) (by first | (refine idx_map ?_; first | omega | (simp only [lnS]; omega)) | (refine idx_mapI ?_; first | omega | (simp only [lnS]; omega)) | (refine idx_mapN ?_; first | omega | (simp only [lnS]; omega)) | rfl)) (by first | (simp only [packA_t, packA_f, iE, bE, setAt, cellsA, Value.cells, map_vc, map_vn, Nat.reduceAdd, qS, tE] <;> rfl) | rfl)) trivial rfl ?_
                                                     refine ds_ro' (ro_eq (ro_ld_ref h16_ty24 rfl up_h (by first | exact Nat.le_of_ble_eq_true rfl | omega | (simp only [lnS] <;> omega) | (simp <;> omega))) (by first | (simp only [packA_t, packA_f, iE, bE, setAt, cellsA, Value.cells, map_vc, map_vn, Nat.reduceAdd, qS, tE] <;> rfl) | rfl)) trivial rfl ?_
                                                     refine ds_ro' (ro_lit h16_sl43 (evP_cons (u4 rfl up_h) (evP_cons up_h evP_nil)) rfl rfl rfl rfl) trivial rfl ?_
                                                     refine ds_ro' (ro_eq (ro_ld_ptr h16_ty24 rfl mo2_48 (u16 rfl s4_51) (by first | exact Nat.le_of_ble_eq_true rfl | omega | (simp only [lnS] <;> omega) | (simp <;> omega))) (by first | (simp only [packA_t, packA_f, iE, bE, setAt, cellsA, Value.cells, map_vc, map_vn, Nat.reduceAdd, qS, tE] <;> rfl) | rfl)) trivial rfl ?_
                                                     refine ds_ro' (ro_build (evP_cons (up_m rfl up_h) (evP_cons up_h evP_nil)) h16_bz71 h16_bu71 h16_bp71 rfl) trivial rfl ?_
                                                     refine ds_ro' (ro_call (evL_cons (u16 rfl up_h) (evL_cons (up_m rfl (u2 rfl (u8 rfl up_h))) (evL_cons up_h evL_nil))) rfl ((forceAt_ok [500, 500] (by decide) p q (by omega) (by omega) [((hanV u v k k.toNat).getD i.toNat default), ((hanV u v k k.toNat).getD i.toNat default)] (by simp) f 0).mono (fun q h => h.trans (by rw [hR.1, hR.2]))) h16_hcf30) trivial rfl ?_
                                                     refine ds_ro' (ro_move up_h) trivial rfl ?_
                                                     refine ds_ro' (ro_extract up_h rfl) trivial rfl ?_
                                                     refine ds_ro' (ro_extract (up_m rfl up_h) rfl) trivial rfl ?_
                                                     refine ds_ro' (ro_assign (up_m rfl up_h)) trivial rfl ?_
                                                     refine ds_ro' (ro_assign (up_m rfl up_h)) trivial rfl ?_
                                                     refine ds_nil ?_
                                                     refine al_end (fun e_57 he_57 => ?_)
                                                     have s4_57 := ef 4 he_57 (u8 rfl (u16 rfl s4_51))
                                                     have s5_57 := ef 5 he_57 (u8 rfl (u16 rfl s5_51))
                                                     have s9_57 := ef 9 he_57 (u8 rfl (u16 rfl s9_51))
                                                     have s11_57 := ef 11 he_57 (u8 rfl (u16 rfl s11_51))
                                                     have s13_57 := ef 13 he_57 (u8 rfl (u16 rfl s13_51))
                                                     have s14_57 := ef 14 he_57 (u8 rfl (u16 rfl s14_51))
                                                     have s15_57 := ef 15 he_57 (u8 rfl (u16 rfl s15_51))
                                                     have s16_57 := ef 16 he_57 (up_m rfl up_h)
                                                     have s17_57 := ef 17 he_57 up_h
                                                     clear he_57 s11_51 s138_51 s13_51 s14_51 s15_51 s4_51 s5_51 s9_51
                                                     refine then_n ?_
                                                     refine aw_seq ?_
                                                     refine aw_text (by kernel_rfl) ?_
                                                     refine al_ro' (ro_move s11_57) trivial rfl ?_
                                                     refine al_ro' (ro_move (up_m rfl s15_57)) trivial rfl ?_
                                                     refine al_ro' (ro_eq (ro_ix h16_sl43 (up_m rfl up_h) up_h (by first | decide | omega | (simp <;> omega)) (by first | (refine idx_map ?_; first | omega | (simp only [lnS]; omega)) | (refine idx_mapI ?_; first | omega | (simp only [lnS]; omega)) | (refine idx_mapN ?_; first | omega | (simp only [lnS]; omega)) | rfl)) (by first | (simp only [packA_t, packA_f, iE, bE, setAt, cellsA, Value.cells, map_vc, map_vn, Nat.reduceAdd, qS, tE] <;> rfl) | rfl)) trivial rfl ?_
                                                     refine al_ro' (ro_eq (ro_ld_ref h16_ty24 rfl up_h (by first | exact Nat.le_of_ble_eq_true rfl | omega | (simp only [lnS] <;> omega) | (simp <;> omega))) (by first | (simp only [packA_t, packA_f, iE, bE, setAt, cellsA, Value.cells, map_vc, map_vn, Nat.reduceAdd, qS, tE] <;> rfl) | rfl)) trivial rfl ?_
                                                     refine al_ro' (ro_move (u4 rfl s15_57)) trivial rfl ?_
                                                     refine al_ro' (ro_call (evL_cons (up_m rfl up_h) (evL_cons up_h evL_nil)) rfl ((sTurned_ok ((hanV u v k k.toNat).getD i.toNat default) i).mono (fun q h => h.trans (by rw [ht1.1, ht1.2]))) h16_hcf32) trivial rfl ?_
                                                     refine al_ro' (ro_move up_h) trivial rfl ?_
                                                     refine al_ro' (ro_extract up_h rfl) trivial rfl ?_
                                                     refine al_ro' (ro_extract (up_m rfl up_h) rfl) trivial rfl ?_
                                                     refine al_stm (st_alloc h16_az24 rfl ml_48) trivial rfl (fun m_58 hm_58 => ?_)
                                                     have mon_48_58 := m_push hm_58 ml_48
                                                     (try simp only [packA_t, packA_f, iE, bE, setAt, cellsA, Value.cells, map_vc, map_vn, Nat.reduceAdd, qS, tE] at mon_48_58)
                                                     have mo4_58 := m_push_o hm_58 mo4_48
                                                     have mo3_58 := m_push_o hm_58 mo3_48
                                                     have mo2_58 := m_push_o hm_58 mo2_48
                                                     have mo1_58 := m_push_o hm_58 mo1_48
                                                     have mo0_58 := m_push_o hm_58 mo0_48
                                                     have ml_58 := m_push_l hm_58 ml_48
                                                     clear hm_58 mo4_48 mo3_48 mo2_48 mo1_48 mo0_48
                                                     refine al_stm (st_store up_h (u2 rfl up_h) rfl rfl mon_48_58 h16_sz24 rfl (by first | exact Nat.le_of_ble_eq_true rfl | omega | (simp only [lnS] <;> omega) | (simp <;> omega))) trivial rfl (fun m_59 hm_59 => ?_)
                                                     have mon_48_59 := m_set hm_59 mon_48_58
                                                     (try simp only [packA_t, packA_f, iE, bE, setAt, cellsA, Value.cells, map_vc, map_vn, Nat.reduceAdd, qS, tE] at mon_48_59)
                                                     have mo4_59 := m_set_o hm_59 mo4_58 (by omega)
                                                     have mo3_59 := m_set_o hm_59 mo3_58 (by omega)
                                                     have mo2_59 := m_set_o hm_59 mo2_58 (by omega)
                                                     have mo1_59 := m_set_o hm_59 mo1_58 (by omega)
                                                     have mo0_59 := m_set_o hm_59 mo0_58 (by omega)
                                                     have ml_59 := m_set_l hm_59 ml_58
                                                     clear hm_59 mon_48_58 mo4_58 mo3_58 mo2_58 mo1_58 mo0_58
                                                     refine al_ro' (ro_assign (up_n (up_m rfl up_h))) trivial rfl ?_
                                                     refine al_end (fun e_60 he_60 => ?_)
                                                     have s4_60 := ef 4 he_60 (up_m rfl (up_n (u2 rfl (u8 rfl s4_57))))
                                                     have s5_60 := ef 5 he_60 (up_m rfl (up_n (u2 rfl (u8 rfl s5_57))))
                                                     have s9_60 := ef 9 he_60 (up_m rfl (up_n (u2 rfl (u8 rfl s9_57))))
                                                     have s11_60 := ef 11 he_60 (up_m rfl (up_n (u2 rfl (u8 rfl s11_57))))
                                                     have s13_60 := ef 13 he_60 (up_m rfl (up_n (u2 rfl (u8 rfl s13_57))))
                                                     have s14_60 := ef 14 he_60 (up_m rfl (up_n (u2 rfl (u8 rfl s14_57))))
                                                     have s15_60 := ef 15 he_60 (up_m rfl (up_n (u2 rfl (u8 rfl s15_57))))
                                                     have s16_60 := ef 16 he_60 (up_m rfl (up_n (u2 rfl (u8 rfl s16_57))))
                                                     have s17_60 := ef 17 he_60 (up_m rfl (up_n (u2 rfl (u8 rfl s17_57))))
                                                     have s18_60 := ef 18 he_60 (up_m rfl (up_n up_h))
                                                     have s19_60 := ef 19 he_60 up_h
                                                     clear he_60 s11_57 s13_57 s14_57 s15_57 s16_57 s17_57 s4_57 s5_57 s9_57
                                                     refine then_n ?_
                                                     refine aw_seq ?_
                                                     refine aw_text (by kernel_rfl) ?_
                                                     refine al_ro' (ro_eq (ro_ld_ptr h16_ty24 rfl mo2_59 s4_60 (by first | exact Nat.le_of_ble_eq_true rfl | omega | (simp only [lnS] <;> omega) | (simp <;> omega))) (by first | (simp only [packA_t, packA_f, iE, bE, setAt, cellsA, Value.cells, map_vc, map_vn, Nat.reduceAdd, qS, tE] <;> rfl) | rfl)) trivial rfl ?_
                                                     refine al_ro' (ro_move (up_m rfl s15_60)) trivial rfl ?_
                                                     refine al_ro' (ro_call (evL_cons (up_m rfl up_h) (evL_cons up_h evL_nil)) rfl ((sTurned_ok f i).mono (fun q h => h.trans (by rw [ht2.1, ht2.2]))) h16_hcf32) trivial rfl ?_
                                                     refine al_ro' (ro_move up_h) trivial rfl ?_
                                                     refine al_ro' (ro_extract up_h rfl) trivial rfl ?_
                                                     refine al_ro' (ro_extract (up_m rfl up_h) rfl) trivial rfl ?_
                                                     refine al_stm (st_alloc h16_az24 rfl ml_59) trivial rfl (fun m_61 hm_61 => ?_)
                                                     have mon_48_1_61 := m_push hm_61 ml_59
                                                     (try simp only [packA_t, packA_f, iE, bE, setAt, cellsA, Value.cells, map_vc, map_vn, Nat.reduceAdd, qS, tE] at mon_48_1_61)
                                                     have mon_48_61 := m_push_o hm_61 mon_48_59
                                                     have mo4_61 := m_push_o hm_61 mo4_59
                                                     have mo3_61 := m_push_o hm_61 mo3_59
                                                     have mo2_61 := m_push_o hm_61 mo2_59
                                                     have mo1_61 := m_push_o hm_61 mo1_59
                                                     have mo0_61 := m_push_o hm_61 mo0_59
                                                     have ml_61 := m_push_l hm_61 ml_59
                                                     clear hm_61 mon_48_59 mo4_59 mo3_59 mo2_59 mo1_59 mo0_59
                                                     refine al_stm (st_store up_h (u2 rfl up_h) rfl rfl mon_48_1_61 h16_sz24 rfl (by first | exact Nat.le_of_ble_eq_true rfl | omega | (simp only [lnS] <;> omega) | (simp <;> omega))) trivial rfl (fun m_62 hm_62 => ?_)
                                                     have mon_48_1_62 := m_set hm_62 mon_48_1_61
                                                     (try simp only [packA_t, packA_f, iE, bE, setAt, cellsA, Value.cells, map_vc, map_vn, Nat.reduceAdd, qS, tE] at mon_48_1_62)
                                                     have mon_48_62 := m_set_o hm_62 mon_48_61 (by omega)
                                                     have mo4_62 := m_set_o hm_62 mo4_61 (by omega)
                                                     have mo3_62 := m_set_o hm_62 mo3_61 (by omega)
                                                     have mo2_62 := m_set_o hm_62 mo2_61 (by omega)
                                                     have mo1_62 := m_set_o hm_62 mo1_61 (by omega)
                                                     have mo0_62 := m_set_o hm_62 mo0_61 (by omega)
                                                     have ml_62 := m_set_l hm_62 ml_61
                                                     clear hm_62 mon_48_1_61 mon_48_61 mo4_61 mo3_61 mo2_61 mo1_61 mo0_61
                                                     refine al_ro' (ro_assign (up_n (up_m rfl up_h))) trivial rfl ?_
                                                     refine al_end (fun e_63 he_63 => ?_)
                                                     have s4_63 := ef 4 he_63 (up_m rfl (up_n (up_m rfl (u2 rfl (u4 rfl s4_60)))))
                                                     have s5_63 := ef 5 he_63 (up_m rfl (up_n (up_m rfl (u2 rfl (u4 rfl s5_60)))))
                                                     have s9_63 := ef 9 he_63 (up_m rfl (up_n (up_m rfl (u2 rfl (u4 rfl s9_60)))))
                                                     have s11_63 := ef 11 he_63 (up_m rfl (up_n (up_m rfl (u2 rfl (u4 rfl s11_60)))))
                                                     have s13_63 := ef 13 he_63 (up_m rfl (up_n (up_m rfl (u2 rfl (u4 rfl s13_60)))))
                                                     have s14_63 := ef 14 he_63 (up_m rfl (up_n (up_m rfl (u2 rfl (u4 rfl s14_60)))))
                                                     have s15_63 := ef 15 he_63 (up_m rfl (up_n (up_m rfl (u2 rfl (u4 rfl s15_60)))))
                                                     have s16_63 := ef 16 he_63 (up_m rfl (up_n (up_m rfl (u2 rfl (u4 rfl s16_60)))))
                                                     have s17_63 := ef 17 he_63 (up_m rfl (up_n (up_m rfl (u2 rfl (u4 rfl s17_60)))))
                                                     have s18_63 := ef 18 he_63 (up_m rfl (up_n (up_m rfl (u2 rfl (u4 rfl s18_60)))))
                                                     have s19_63 := ef 19 he_63 (up_m rfl (up_n (up_m rfl (u2 rfl (u4 rfl s19_60)))))
                                                     have s20_63 := ef 20 he_63 (up_m rfl (up_n up_h))
                                                     have s21_63 := ef 21 he_63 up_h
                                                     clear he_63 s11_60 s13_60 s14_60 s15_60 s16_60 s17_60 s18_60 s19_60 s4_60 s5_60 s9_60
                                                     refine then_n ?_
                                                     refine aw_seq ?_
                                                     refine aw_text (by kernel_rfl) ?_
                                                     refine al_ro' (ro_eq (ro_ld_ptr h16_ty24 rfl mon_48_62 s18_63 (by first | exact Nat.le_of_ble_eq_true rfl | omega | (simp only [lnS] <;> omega) | (simp <;> omega))) (by first | (simp only [packA_t, packA_f, iE, bE, setAt, cellsA, Value.cells, map_vc, map_vn, Nat.reduceAdd, qS, tE] <;> rfl) | rfl)) trivial rfl ?_
                                                     refine al_ro' (ro_eq (ro_ld_ptr h16_ty24 rfl mon_48_1_62 (up_m rfl s20_63) (by first | exact Nat.le_of_ble_eq_true rfl | omega | (simp only [lnS] <;> omega) | (simp <;> omega))) (by first | (simp only [packA_t, packA_f, iE, bE, setAt, cellsA, Value.cells, map_vc, map_vn, Nat.reduceAdd, qS, tE] <;> rfl) | rfl)) trivial rfl ?_
                                                     refine al_ro' (ro_call (evL_cons (up_m rfl up_h) (evL_cons up_h evL_nil)) rfl ((forceOf_ok (turnV ((hanV u v k k.toNat).getD i.toNat default) i) (turnV f i) ((turnV_bd hLb i).mono (by decide)) ((turnV_bd hf i).mono (by decide))).mono (fun q h => h.trans (by rw [force_turn]))) h16_hcf25) trivial rfl ?_
                                                     refine al_ro' (ro_move up_h) trivial rfl ?_
                                                     refine al_ro' (ro_extract up_h rfl) trivial rfl ?_
                                                     refine al_ro' (ro_extract (up_m rfl up_h) rfl) trivial rfl ?_
                                                     refine al_ro' (ro_assign (up_m rfl up_h)) trivial rfl ?_
                                                     refine al_ro' (ro_assign (up_m rfl up_h)) trivial rfl ?_
                                                     refine al_end (fun e_64 he_64 => ?_)
                                                     have s4_64 := ef 4 he_64 (u8 rfl s4_63)
                                                     have s5_64 := ef 5 he_64 (u8 rfl s5_63)
                                                     have s9_64 := ef 9 he_64 (u8 rfl s9_63)
                                                     have s11_64 := ef 11 he_64 (u8 rfl s11_63)
                                                     have s13_64 := ef 13 he_64 (u8 rfl s13_63)
                                                     have s14_64 := ef 14 he_64 (u8 rfl s14_63)
                                                     have s15_64 := ef 15 he_64 (u8 rfl s15_63)
                                                     have s16_64 := ef 16 he_64 (u8 rfl s16_63)
                                                     have s17_64 := ef 17 he_64 (u8 rfl s17_63)
                                                     have s19_64 := ef 19 he_64 (u8 rfl s19_63)
                                                     have s21_64 := ef 21 he_64 (u8 rfl s21_63)
                                                     have s22_64 := ef 22 he_64 (up_m rfl up_h)
                                                     have s23_64 := ef 23 he_64 up_h
                                                     clear he_64 s11_63 s13_63 s14_63 s15_63 s16_63 s17_63 s18_63 s19_63 s20_63 s21_63 s4_63 s5_63 s9_63
                                                     refine then_n ?_
                                                     refine aw_seq ?_
                                                     refine aw_cut (fun e mem => (evA e (.tmp 214) = .v (.bool false)) ∧ (evA e (.tmp 4) = evA e_64 (.tmp 4)) ∧ (evA e (.tmp 5) = evA e_64 (.tmp 5)) ∧ (evA e (.tmp 9) = evA e_64 (.tmp 9)) ∧ (evA e (.tmp 11) = evA e_64 (.tmp 11)) ∧ (evA e (.tmp 13) = evA e_64 (.tmp 13)) ∧ (evA e (.tmp 14) = evA e_64 (.tmp 14)) ∧ (evA e (.tmp 15) = evA e_64 (.tmp 15)) ∧ m_62 = mem) ?_ ?_
                                                     ·
                                                       refine aw_text (by kernel_rfl) ?_
                                                       refine al_ro' (ro_move s17_64) trivial rfl ?_
                                                       refine al_ro' (ro_neq up_h ev_c) trivial rfl ?_
                                                       refine al_ro' (ro_move up_h) trivial rfl ?_
                                                       refine al_case up_h (fun hb_66 hq_66 => ?_) (fun hb_66 hq_66 => ?_)
                                                       · (first | replace hq_66 := bnt hq_66 | replace hq_66 := bnf hq_66 | replace hq_66 := bt hq_66 | replace hq_66 := bf hq_66 | replace hq_66 := bt' hq_66 | replace hq_66 := bf' hq_66 | skip)
                                                         first
                                                         | (cases hq_66; done) | (exfalso; omega)
                                                         | (
                                                            refine al_skip' ⟨_, rfl, .inl hb_66⟩ rfl ?_
                                                            refine al_skip' ⟨_, rfl, .inl (up_m rfl hb_66)⟩ rfl ?_
                                                            refine al_ro' (ro_pickT (u2 rfl hb_66) ev_c) trivial rfl ?_
                                                            refine al_ro' (ro_move up_h) trivial rfl ?_
                                                            refine al_skip' ⟨_, rfl, .inl up_h⟩ rfl ?_
                                                            refine al_skip' ⟨_, rfl, .inl (up_m rfl up_h)⟩ rfl ?_
                                                            refine al_ro' (ro_pickT (u2 rfl up_h) ev_c) trivial rfl ?_
                                                            refine al_ro' (ro_move up_h) trivial rfl ?_
                                                            refine al_skip' ⟨_, rfl, .inl up_h⟩ rfl ?_
                                                            refine al_skip' ⟨_, rfl, .inl (up_m rfl up_h)⟩ rfl ?_
                                                            refine al_ro' (ro_pickT (u2 rfl up_h) ev_c) trivial rfl ?_
                                                            refine al_ro' (ro_move up_h) trivial rfl ?_
                                                            refine al_skip' ⟨_, rfl, .inl up_h⟩ rfl ?_
                                                            refine al_skip' ⟨_, rfl, .inl (up_m rfl up_h)⟩ rfl ?_
                                                            refine al_skip' ⟨_, rfl, .inl (u2 rfl up_h)⟩ rfl ?_
                                                            refine al_skip' ⟨_, rfl, .inl (up_m rfl (u2 rfl up_h))⟩ rfl ?_
                                                            refine al_skip' ⟨_, rfl, .inl (u4 rfl up_h)⟩ rfl ?_
                                                            refine al_skip' ⟨_, rfl, .inl (up_m rfl (u4 rfl up_h))⟩ rfl ?_
                                                            refine al_skip' ⟨_, rfl, .inl (u2 rfl (u4 rfl up_h))⟩ rfl ?_
                                                            refine al_skip' ⟨_, rfl, .inl (up_m rfl (u2 rfl (u4 rfl up_h)))⟩ rfl ?_
                                                            refine al_skip' ⟨_, rfl, .inl (u8 rfl up_h)⟩ rfl ?_
                                                            refine al_ro' (ro_pickT (up_m rfl (u8 rfl up_h)) ev_c) trivial rfl ?_
                                                            refine al_ro' (ro_move up_h) trivial rfl ?_
                                                            refine al_skip' ⟨_, rfl, .inl up_h⟩ rfl ?_
                                                            refine al_skip' ⟨_, rfl, .inl (up_m rfl up_h)⟩ rfl ?_
                                                            refine al_skip' ⟨_, rfl, .inl (u2 rfl up_h)⟩ rfl ?_
                                                            refine al_skip' ⟨_, rfl, .inl (up_m rfl (u2 rfl up_h))⟩ rfl ?_
                                                            refine al_skip' ⟨_, rfl, .inl (u4 rfl up_h)⟩ rfl ?_
                                                            refine al_skip' ⟨_, rfl, .inl (up_m rfl (u4 rfl up_h))⟩ rfl ?_
                                                            refine al_ro' (ro_pickT (u2 rfl (u4 rfl up_h)) ev_c) trivial rfl ?_
                                                            refine al_end (fun e_67 he_67 => ?_)
                                                            have s4_67 := ef 4 he_67 (up_m rfl (u16 rfl (u16 rfl s4_64)))
                                                            have s5_67 := ef 5 he_67 (up_m rfl (u16 rfl (u16 rfl s5_64)))
                                                            have s9_67 := ef 9 he_67 (up_m rfl (u16 rfl (u16 rfl s9_64)))
                                                            have s11_67 := ef 11 he_67 (up_m rfl (u16 rfl (u16 rfl s11_64)))
                                                            have s13_67 := ef 13 he_67 (up_m rfl (u16 rfl (u16 rfl s13_64)))
                                                            have s14_67 := ef 14 he_67 (up_m rfl (u16 rfl (u16 rfl s14_64)))
                                                            have s15_67 := ef 15 he_67 (up_m rfl (u16 rfl (u16 rfl s15_64)))
                                                            have s214_67 := ef 214 he_67 up_h
                                                            clear he_67
                                                            refine then_n ⟨(s214_67).trans (by (first | rfl | (refine avb ?_; simp [sizeW, -List.getD_eq_getElem?_getD, -Int.default_eq_zero] at *; done) | (refine avb ?_; simp [sizeW, -List.getD_eq_getElem?_getD, -Int.default_eq_zero] at *; omega))), (s4_67).trans (s4_64).symm, (s5_67).trans (s5_64).symm, (s9_67).trans (s9_64).symm, (s11_67).trans (s11_64).symm, (s13_67).trans (s13_64).symm, (s14_67).trans (s14_64).symm, (s15_67).trans (s15_64).symm, rfl⟩)
                                                       · (first | replace hq_66 := bnt hq_66 | replace hq_66 := bnf hq_66 | replace hq_66 := bt hq_66 | replace hq_66 := bf hq_66 | replace hq_66 := bt' hq_66 | replace hq_66 := bf' hq_66 | skip)
                                                         first
                                                         | (cases hq_66; done) | (exfalso; omega)
                                                         | (
                                                            refine al_ro' (ro_move (up_m rfl (u2 rfl s19_64))) ⟨_, rfl, hb_66⟩ rfl ?_
                                                            refine al_ro' (ro_neq up_h ev_c) ⟨_, rfl, (up_m rfl hb_66)⟩ rfl ?_
                                                            refine al_ro' (ro_pickF (u2 rfl hb_66) up_h) trivial rfl ?_
                                                            refine al_ro' (ro_move up_h) trivial rfl ?_
                                                            refine al_case up_h (fun hb_68 hq_68 => ?_) (fun hb_68 hq_68 => ?_)
                                                            · (first | replace hq_68 := bnt hq_68 | replace hq_68 := bnf hq_68 | replace hq_68 := bt hq_68 | replace hq_68 := bf hq_68 | replace hq_68 := bt' hq_68 | replace hq_68 := bf' hq_68 | skip)
                                                              first
                                                              | (cases hq_68; done) | (exfalso; omega)
                                                              | (
                                                                 refine al_skip' ⟨_, rfl, .inl hb_68⟩ rfl ?_
                                                                 refine al_skip' ⟨_, rfl, .inl (up_m rfl hb_68)⟩ rfl ?_
                                                                 refine al_ro' (ro_pickT (u2 rfl hb_68) ev_c) trivial rfl ?_
                                                                 refine al_ro' (ro_move up_h) trivial rfl ?_
                                                                 refine al_skip' ⟨_, rfl, .inl up_h⟩ rfl ?_
                                                                 refine al_skip' ⟨_, rfl, .inl (up_m rfl up_h)⟩ rfl ?_
                                                                 refine al_ro' (ro_pickT (u2 rfl up_h) ev_c) trivial rfl ?_
                                                                 refine al_ro' (ro_move up_h) trivial rfl ?_
                                                                 refine al_skip' ⟨_, rfl, .inl up_h⟩ rfl ?_
                                                                 refine al_skip' ⟨_, rfl, .inl (up_m rfl up_h)⟩ rfl ?_
                                                                 refine al_skip' ⟨_, rfl, .inl (u2 rfl up_h)⟩ rfl ?_
                                                                 refine al_skip' ⟨_, rfl, .inl (up_m rfl (u2 rfl up_h))⟩ rfl ?_
                                                                 refine al_skip' ⟨_, rfl, .inl (u4 rfl up_h)⟩ rfl ?_
                                                                 refine al_skip' ⟨_, rfl, .inl (up_m rfl (u4 rfl up_h))⟩ rfl ?_
                                                                 refine al_skip' ⟨_, rfl, .inl (u2 rfl (u4 rfl up_h))⟩ rfl ?_
                                                                 refine al_skip' ⟨_, rfl, .inl (up_m rfl (u2 rfl (u4 rfl up_h)))⟩ rfl ?_
                                                                 refine al_skip' ⟨_, rfl, .inl (u8 rfl up_h)⟩ rfl ?_
                                                                 refine al_ro' (ro_pickT (up_m rfl (u8 rfl up_h)) ev_c) trivial rfl ?_
                                                                 refine al_ro' (ro_move up_h) trivial rfl ?_
                                                                 refine al_skip' ⟨_, rfl, .inl up_h⟩ rfl ?_
                                                                 refine al_skip' ⟨_, rfl, .inl (up_m rfl up_h)⟩ rfl ?_
                                                                 refine al_skip' ⟨_, rfl, .inl (u2 rfl up_h)⟩ rfl ?_
                                                                 refine al_skip' ⟨_, rfl, .inl (up_m rfl (u2 rfl up_h))⟩ rfl ?_
                                                                 refine al_skip' ⟨_, rfl, .inl (u4 rfl up_h)⟩ rfl ?_
                                                                 refine al_skip' ⟨_, rfl, .inl (up_m rfl (u4 rfl up_h))⟩ rfl ?_
                                                                 refine al_ro' (ro_pickT (u2 rfl (u4 rfl up_h)) ev_c) trivial rfl ?_
                                                                 refine al_end (fun e_69 he_69 => ?_)
                                                                 have s4_69 := ef 4 he_69 (up_m rfl (u16 rfl (u16 rfl s4_64)))
                                                                 have s5_69 := ef 5 he_69 (up_m rfl (u16 rfl (u16 rfl s5_64)))
                                                                 have s9_69 := ef 9 he_69 (up_m rfl (u16 rfl (u16 rfl s9_64)))
                                                                 have s11_69 := ef 11 he_69 (up_m rfl (u16 rfl (u16 rfl s11_64)))
                                                                 have s13_69 := ef 13 he_69 (up_m rfl (u16 rfl (u16 rfl s13_64)))
                                                                 have s14_69 := ef 14 he_69 (up_m rfl (u16 rfl (u16 rfl s14_64)))
                                                                 have s15_69 := ef 15 he_69 (up_m rfl (u16 rfl (u16 rfl s15_64)))
                                                                 have s214_69 := ef 214 he_69 up_h
                                                                 clear he_69
                                                                 refine then_n ⟨(s214_69).trans (by (first | rfl | (refine avb ?_; simp [sizeW, -List.getD_eq_getElem?_getD, -Int.default_eq_zero] at *; done) | (refine avb ?_; simp [sizeW, -List.getD_eq_getElem?_getD, -Int.default_eq_zero] at *; omega))), (s4_69).trans (s4_64).symm, (s5_69).trans (s5_64).symm, (s9_69).trans (s9_64).symm, (s11_69).trans (s11_64).symm, (s13_69).trans (s13_64).symm, (s14_69).trans (s14_64).symm, (s15_69).trans (s15_64).symm, rfl⟩)
                                                            · (first | replace hq_68 := bnt hq_68 | replace hq_68 := bnf hq_68 | replace hq_68 := bt hq_68 | replace hq_68 := bf hq_68 | replace hq_68 := bt' hq_68 | replace hq_68 := bf' hq_68 | skip)
                                                              first
                                                              | (cases hq_68; done) | (exfalso; omega)
                                                              | (
                                                                 refine al_ro' (ro_move (up_m rfl (u2 rfl (u4 rfl s21_64)))) ⟨_, rfl, hb_68⟩ rfl ?_
                                                                 refine al_ro' (ro_neq up_h ev_c) ⟨_, rfl, (up_m rfl hb_68)⟩ rfl ?_
                                                                 refine al_ro' (ro_pickF (u2 rfl hb_68) up_h) trivial rfl ?_
                                                                 refine al_ro' (ro_move up_h) trivial rfl ?_
                                                                 refine al_case up_h (fun hb_70 hq_70 => ?_) (fun hb_70 hq_70 => ?_)
                                                                 · (first | replace hq_70 := bnt hq_70 | replace hq_70 := bnf hq_70 | replace hq_70 := bt hq_70 | replace hq_70 := bf hq_70 | replace hq_70 := bt' hq_70 | replace hq_70 := bf' hq_70 | skip)
                                                                   first
                                                                   | (cases hq_70; done) | (exfalso; omega)
                                                                   | (
                                                                      refine al_skip' ⟨_, rfl, .inl hb_70⟩ rfl ?_
                                                                      refine al_skip' ⟨_, rfl, .inl (up_m rfl hb_70)⟩ rfl ?_
                                                                      refine al_ro' (ro_pickT (u2 rfl hb_70) ev_c) trivial rfl ?_
                                                                      refine al_ro' (ro_move up_h) trivial rfl ?_
                                                                      refine al_skip' ⟨_, rfl, .inl up_h⟩ rfl ?_
                                                                      refine al_skip' ⟨_, rfl, .inl (up_m rfl up_h)⟩ rfl ?_
                                                                      refine al_skip' ⟨_, rfl, .inl (u2 rfl up_h)⟩ rfl ?_
                                                                      refine al_skip' ⟨_, rfl, .inl (up_m rfl (u2 rfl up_h))⟩ rfl ?_
                                                                      refine al_skip' ⟨_, rfl, .inl (u4 rfl up_h)⟩ rfl ?_
                                                                      refine al_skip' ⟨_, rfl, .inl (up_m rfl (u4 rfl up_h))⟩ rfl ?_
                                                                      refine al_skip' ⟨_, rfl, .inl (u2 rfl (u4 rfl up_h))⟩ rfl ?_
                                                                      refine al_skip' ⟨_, rfl, .inl (up_m rfl (u2 rfl (u4 rfl up_h)))⟩ rfl ?_
                                                                      refine al_skip' ⟨_, rfl, .inl (u8 rfl up_h)⟩ rfl ?_
                                                                      refine al_ro' (ro_pickT (up_m rfl (u8 rfl up_h)) ev_c) trivial rfl ?_
                                                                      refine al_ro' (ro_move up_h) trivial rfl ?_
                                                                      refine al_skip' ⟨_, rfl, .inl up_h⟩ rfl ?_
                                                                      refine al_skip' ⟨_, rfl, .inl (up_m rfl up_h)⟩ rfl ?_
                                                                      refine al_skip' ⟨_, rfl, .inl (u2 rfl up_h)⟩ rfl ?_
                                                                      refine al_skip' ⟨_, rfl, .inl (up_m rfl (u2 rfl up_h))⟩ rfl ?_
                                                                      refine al_skip' ⟨_, rfl, .inl (u4 rfl up_h)⟩ rfl ?_
                                                                      refine al_skip' ⟨_, rfl, .inl (up_m rfl (u4 rfl up_h))⟩ rfl ?_
                                                                      refine al_ro' (ro_pickT (u2 rfl (u4 rfl up_h)) ev_c) trivial rfl ?_
                                                                      refine al_end (fun e_71 he_71 => ?_)
                                                                      have s4_71 := ef 4 he_71 (up_m rfl (u16 rfl (u16 rfl s4_64)))
                                                                      have s5_71 := ef 5 he_71 (up_m rfl (u16 rfl (u16 rfl s5_64)))
                                                                      have s9_71 := ef 9 he_71 (up_m rfl (u16 rfl (u16 rfl s9_64)))
                                                                      have s11_71 := ef 11 he_71 (up_m rfl (u16 rfl (u16 rfl s11_64)))
                                                                      have s13_71 := ef 13 he_71 (up_m rfl (u16 rfl (u16 rfl s13_64)))
                                                                      have s14_71 := ef 14 he_71 (up_m rfl (u16 rfl (u16 rfl s14_64)))
                                                                      have s15_71 := ef 15 he_71 (up_m rfl (u16 rfl (u16 rfl s15_64)))
                                                                      have s214_71 := ef 214 he_71 up_h
                                                                      clear he_71
                                                                      refine then_n ⟨(s214_71).trans (by (first | rfl | (refine avb ?_; simp [sizeW, -List.getD_eq_getElem?_getD, -Int.default_eq_zero] at *; done) | (refine avb ?_; simp [sizeW, -List.getD_eq_getElem?_getD, -Int.default_eq_zero] at *; omega))), (s4_71).trans (s4_64).symm, (s5_71).trans (s5_64).symm, (s9_71).trans (s9_64).symm, (s11_71).trans (s11_64).symm, (s13_71).trans (s13_64).symm, (s14_71).trans (s14_64).symm, (s15_71).trans (s15_64).symm, rfl⟩)
                                                                 · (first | replace hq_70 := bnt hq_70 | replace hq_70 := bnf hq_70 | replace hq_70 := bt hq_70 | replace hq_70 := bf hq_70 | replace hq_70 := bt' hq_70 | replace hq_70 := bf' hq_70 | skip)
                                                                   first
                                                                   | (cases hq_70; done) | (exfalso; omega)
                                                                   | (
                                                                      refine al_ro' (ro_move (up_m rfl (u2 rfl (u8 rfl s23_64)))) ⟨_, rfl, hb_70⟩ rfl ?_
                                                                      refine al_ro' (ro_neq up_h ev_c) ⟨_, rfl, (up_m rfl hb_70)⟩ rfl ?_
                                                                      refine al_ro' (ro_pickF (u2 rfl hb_70) up_h) trivial rfl ?_
                                                                      refine al_ro' (ro_move up_h) trivial rfl ?_
                                                                      refine al_case up_h (fun hb_72 hq_72 => ?_) (fun hb_72 hq_72 => ?_)
                                                                      · (first | replace hq_72 := bnt hq_72 | replace hq_72 := bnf hq_72 | replace hq_72 := bt hq_72 | replace hq_72 := bf hq_72 | replace hq_72 := bt' hq_72 | replace hq_72 := bf' hq_72 | skip)
                                                                        first
                                                                        | (cases hq_72; done) | (exfalso; omega)
                                                                        | (
                                                                           refine al_skip' ⟨_, rfl, .inl hb_72⟩ rfl ?_
                                                                           refine al_skip' ⟨_, rfl, .inl (up_m rfl hb_72)⟩ rfl ?_
                                                                           refine al_skip' ⟨_, rfl, .inl (u2 rfl hb_72)⟩ rfl ?_
                                                                           refine al_skip' ⟨_, rfl, .inl (up_m rfl (u2 rfl hb_72))⟩ rfl ?_
                                                                           refine al_skip' ⟨_, rfl, .inl (u4 rfl hb_72)⟩ rfl ?_
                                                                           refine al_skip' ⟨_, rfl, .inl (up_m rfl (u4 rfl hb_72))⟩ rfl ?_
                                                                           refine al_skip' ⟨_, rfl, .inl (u2 rfl (u4 rfl hb_72))⟩ rfl ?_
                                                                           refine al_skip' ⟨_, rfl, .inl (up_m rfl (u2 rfl (u4 rfl hb_72)))⟩ rfl ?_
                                                                           refine al_skip' ⟨_, rfl, .inl (u8 rfl hb_72)⟩ rfl ?_
                                                                           refine al_ro' (ro_pickT (up_m rfl (u8 rfl hb_72)) ev_c) trivial rfl ?_
                                                                           refine al_ro' (ro_move up_h) trivial rfl ?_
                                                                           refine al_skip' ⟨_, rfl, .inl up_h⟩ rfl ?_
                                                                           refine al_skip' ⟨_, rfl, .inl (up_m rfl up_h)⟩ rfl ?_
                                                                           refine al_skip' ⟨_, rfl, .inl (u2 rfl up_h)⟩ rfl ?_
                                                                           refine al_skip' ⟨_, rfl, .inl (up_m rfl (u2 rfl up_h))⟩ rfl ?_
                                                                           refine al_skip' ⟨_, rfl, .inl (u4 rfl up_h)⟩ rfl ?_
                                                                           refine al_skip' ⟨_, rfl, .inl (up_m rfl (u4 rfl up_h))⟩ rfl ?_
                                                                           refine al_ro' (ro_pickT (u2 rfl (u4 rfl up_h)) ev_c) trivial rfl ?_
                                                                           refine al_end (fun e_73 he_73 => ?_)
                                                                           have s4_73 := ef 4 he_73 (up_m rfl (u16 rfl (u16 rfl s4_64)))
                                                                           have s5_73 := ef 5 he_73 (up_m rfl (u16 rfl (u16 rfl s5_64)))
                                                                           have s9_73 := ef 9 he_73 (up_m rfl (u16 rfl (u16 rfl s9_64)))
                                                                           have s11_73 := ef 11 he_73 (up_m rfl (u16 rfl (u16 rfl s11_64)))
                                                                           have s13_73 := ef 13 he_73 (up_m rfl (u16 rfl (u16 rfl s13_64)))
                                                                           have s14_73 := ef 14 he_73 (up_m rfl (u16 rfl (u16 rfl s14_64)))
                                                                           have s15_73 := ef 15 he_73 (up_m rfl (u16 rfl (u16 rfl s15_64)))
                                                                           have s214_73 := ef 214 he_73 up_h
                                                                           clear he_73
                                                                           refine then_n ⟨(s214_73).trans (by (first | rfl | (refine avb ?_; simp [sizeW, -List.getD_eq_getElem?_getD, -Int.default_eq_zero] at *; done) | (refine avb ?_; simp [sizeW, -List.getD_eq_getElem?_getD, -Int.default_eq_zero] at *; omega))), (s4_73).trans (s4_64).symm, (s5_73).trans (s5_64).symm, (s9_73).trans (s9_64).symm, (s11_73).trans (s11_64).symm, (s13_73).trans (s13_64).symm, (s14_73).trans (s14_64).symm, (s15_73).trans (s15_64).symm, rfl⟩)
                                                                      · (first | replace hq_72 := bnt hq_72 | replace hq_72 := bnf hq_72 | replace hq_72 := bt hq_72 | replace hq_72 := bf hq_72 | replace hq_72 := bt' hq_72 | replace hq_72 := bf' hq_72 | skip)
                                                                        first
                                                                        | (cases hq_72; done) | (exfalso; omega)
                                                                        | (
                                                                           refine al_ro' (ro_move (up_m rfl (u2 rfl (u4 rfl (u8 rfl s16_64))))) ⟨_, rfl, hb_72⟩ rfl ?_
                                                                           refine al_ro' (ro_ixa h16_ar58 (u16 rfl s5_64) ev_c rfl) ⟨_, rfl, (up_m rfl hb_72)⟩ rfl ?_
                                                                           refine al_ro' (ro_eq (ro_ld_ptr h16_ty3 rfl mo3_62 up_h (by first | exact Nat.le_of_ble_eq_true rfl | omega | (simp only [lnS] <;> omega) | (simp <;> omega))) (by first | (simp only [packA_t, packA_f, iE, bE, setAt, cellsA, Value.cells, map_vc, map_vn, Nat.reduceAdd, qS, tE] <;> rfl) | rfl)) ⟨_, rfl, (u2 rfl hb_72)⟩ rfl ?_
                                                                           refine al_ro' (ro_move (u2 rfl (u16 rfl s9_64))) ⟨_, rfl, (up_m rfl (u2 rfl hb_72))⟩ rfl ?_
                                                                           first | (refine al_ro' (ro_mul' (up_m rfl up_h) up_h ?_) ⟨_, rfl, (u4 rfl hb_72)⟩ rfl ?_; · (unfold In64; omega)) | refine al_ro' (ro_mul (up_m rfl up_h) up_h) ⟨_, rfl, (u4 rfl hb_72)⟩ rfl ?_
                                                                           first | (refine al_ro' (ro_sub' (u4 rfl up_h) up_h ?_) ⟨_, rfl, (up_m rfl (u4 rfl hb_72))⟩ rfl ?_; · (unfold In64; omega)) | refine al_ro' (ro_sub (u4 rfl up_h) up_h) ⟨_, rfl, (up_m rfl (u4 rfl hb_72))⟩ rfl ?_
                                                                           refine al_ro' (ro_call (evL_cons up_h evL_nil) rfl (bSize_ok _ (by first | omega | (simp only [sizeW]; omega))) h16_hcf29) ⟨_, rfl, (u2 rfl (u4 rfl hb_72))⟩ rfl ?_
                                                                           refine al_ro' (ro_move (u2 rfl (u4 rfl (u16 rfl s14_64)))) ⟨_, rfl, (up_m rfl (u2 rfl (u4 rfl hb_72)))⟩ rfl ?_
                                                                           refine al_ro' (ro_gtr (up_m rfl up_h) up_h) ⟨_, rfl, (u8 rfl hb_72)⟩ rfl ?_
                                                                           refine al_ro' (ro_pickF (up_m rfl (u8 rfl hb_72)) up_h) trivial rfl ?_
                                                                           refine al_ro' (ro_move up_h) trivial rfl ?_
                                                                           refine al_case up_h (fun hb_74 hq_74 => ?_) (fun hb_74 hq_74 => ?_)
                                                                           · (first | replace hq_74 := bnt hq_74 | replace hq_74 := bnf hq_74 | replace hq_74 := bt hq_74 | replace hq_74 := bf hq_74 | replace hq_74 := bt' hq_74 | replace hq_74 := bf' hq_74 | skip)
                                                                             first
                                                                             | (cases hq_74; done) | (exfalso; omega)
                                                                             | (
                                                                                refine al_skip' ⟨_, rfl, .inl hb_74⟩ rfl ?_
                                                                                refine al_skip' ⟨_, rfl, .inl (up_m rfl hb_74)⟩ rfl ?_
                                                                                refine al_skip' ⟨_, rfl, .inl (u2 rfl hb_74)⟩ rfl ?_
                                                                                refine al_skip' ⟨_, rfl, .inl (up_m rfl (u2 rfl hb_74))⟩ rfl ?_
                                                                                refine al_skip' ⟨_, rfl, .inl (u4 rfl hb_74)⟩ rfl ?_
                                                                                refine al_skip' ⟨_, rfl, .inl (up_m rfl (u4 rfl hb_74))⟩ rfl ?_
                                                                                refine al_ro' (ro_pickT (u2 rfl (u4 rfl hb_74)) ev_c) trivial rfl ?_
                                                                                refine al_end (fun e_75 he_75 => ?_)
                                                                                have s4_75 := ef 4 he_75 (up_m rfl (u16 rfl (u16 rfl s4_64)))
                                                                                have s5_75 := ef 5 he_75 (up_m rfl (u16 rfl (u16 rfl s5_64)))
                                                                                have s9_75 := ef 9 he_75 (up_m rfl (u16 rfl (u16 rfl s9_64)))
                                                                                have s11_75 := ef 11 he_75 (up_m rfl (u16 rfl (u16 rfl s11_64)))
                                                                                have s13_75 := ef 13 he_75 (up_m rfl (u16 rfl (u16 rfl s13_64)))
                                                                                have s14_75 := ef 14 he_75 (up_m rfl (u16 rfl (u16 rfl s14_64)))
                                                                                have s15_75 := ef 15 he_75 (up_m rfl (u16 rfl (u16 rfl s15_64)))
                                                                                have s214_75 := ef 214 he_75 up_h
                                                                                clear he_75
                                                                                refine then_n ⟨(s214_75).trans (by (first | rfl | (refine avb ?_; simp [sizeW, -List.getD_eq_getElem?_getD, -Int.default_eq_zero] at *; done) | (refine avb ?_; simp [sizeW, -List.getD_eq_getElem?_getD, -Int.default_eq_zero] at *; omega))), (s4_75).trans (s4_64).symm, (s5_75).trans (s5_64).symm, (s9_75).trans (s9_64).symm, (s11_75).trans (s11_64).symm, (s13_75).trans (s13_64).symm, (s14_75).trans (s14_64).symm, (s15_75).trans (s15_64).symm, rfl⟩)
                                                                           · (first | replace hq_74 := bnt hq_74 | replace hq_74 := bnf hq_74 | replace hq_74 := bt hq_74 | replace hq_74 := bf hq_74 | replace hq_74 := bt' hq_74 | replace hq_74 := bf' hq_74 | skip)
                                                                             first
                                                                             | (cases hq_74; done) | (exfalso; omega)
                                                                             | (
                                                                                refine al_ro' (ro_move (u2 rfl (u8 rfl (u16 rfl s16_64)))) ⟨_, rfl, hb_74⟩ rfl ?_
                                                                                refine al_ro' (ro_ixa h16_ar58 (up_m rfl (u2 rfl (u8 rfl (u16 rfl s5_64)))) ev_c rfl) ⟨_, rfl, (up_m rfl hb_74)⟩ rfl ?_
                                                                                refine al_ro' (ro_eq (ro_ld_ptr h16_ty3 rfl mo3_62 up_h (by first | exact Nat.le_of_ble_eq_true rfl | omega | (simp only [lnS] <;> omega) | (simp <;> omega))) (by first | (simp only [packA_t, packA_f, iE, bE, setAt, cellsA, Value.cells, map_vc, map_vn, Nat.reduceAdd, qS, tE] <;> rfl) | rfl)) ⟨_, rfl, (u2 rfl hb_74)⟩ rfl ?_
                                                                                refine al_ro' (ro_move (up_m rfl (u4 rfl (u8 rfl (u16 rfl s22_64))))) ⟨_, rfl, (up_m rfl (u2 rfl hb_74))⟩ rfl ?_
                                                                                first | (refine al_ro' (ro_mul' (up_m rfl up_h) up_h ?_) ⟨_, rfl, (u4 rfl hb_74)⟩ rfl ?_; · (unfold In64; omega)) | refine al_ro' (ro_mul (up_m rfl up_h) up_h) ⟨_, rfl, (u4 rfl hb_74)⟩ rfl ?_
                                                                                refine al_ro' (ro_neq (u4 rfl up_h) up_h) ⟨_, rfl, (up_m rfl (u4 rfl hb_74))⟩ rfl ?_
                                                                                refine al_ro' (ro_pickF (u2 rfl (u4 rfl hb_74)) up_h) trivial rfl ?_
                                                                                refine al_end (fun e_76 he_76 => ?_)
                                                                                have s4_76 := ef 4 he_76 (up_m rfl (u16 rfl (u16 rfl s4_64)))
                                                                                have s5_76 := ef 5 he_76 (up_m rfl (u16 rfl (u16 rfl s5_64)))
                                                                                have s9_76 := ef 9 he_76 (up_m rfl (u16 rfl (u16 rfl s9_64)))
                                                                                have s11_76 := ef 11 he_76 (up_m rfl (u16 rfl (u16 rfl s11_64)))
                                                                                have s13_76 := ef 13 he_76 (up_m rfl (u16 rfl (u16 rfl s13_64)))
                                                                                have s14_76 := ef 14 he_76 (up_m rfl (u16 rfl (u16 rfl s14_64)))
                                                                                have s15_76 := ef 15 he_76 (up_m rfl (u16 rfl (u16 rfl s15_64)))
                                                                                have s214_76 := ef 214 he_76 up_h
                                                                                clear he_76
                                                                                refine then_n ⟨(s214_76).trans (by (first | rfl | (refine avb ?_; simp [sizeW, -List.getD_eq_getElem?_getD, -Int.default_eq_zero] at *; done) | (refine avb ?_; simp [sizeW, -List.getD_eq_getElem?_getD, -Int.default_eq_zero] at *; omega))), (s4_76).trans (s4_64).symm, (s5_76).trans (s5_64).symm, (s9_76).trans (s9_64).symm, (s11_76).trans (s11_64).symm, (s13_76).trans (s13_64).symm, (s14_76).trans (s14_64).symm, (s15_76).trans (s15_64).symm, rfl⟩)))))
                                                     · rintro e_65 _ ⟨s214_65, k4_65, k5_65, k9_65, k11_65, k13_65, k14_65, k15_65, rfl⟩
                                                       have s4_65 := k4_65.trans s4_64
                                                       have s5_65 := k5_65.trans s5_64
                                                       have s9_65 := k9_65.trans s9_64
                                                       have s11_65 := k11_65.trans s11_64
                                                       have s13_65 := k13_65.trans s13_64
                                                       have s14_65 := k14_65.trans s14_64
                                                       have s15_65 := k15_65.trans s15_64
                                                       refine aw_case s214_65 (fun hq_77 => ?_) (fun hq_77 => ?_)
                                                       · (first | replace hq_77 := bnt hq_77 | replace hq_77 := bnf hq_77 | replace hq_77 := bt hq_77 | replace hq_77 := bf hq_77 | replace hq_77 := bt' hq_77 | replace hq_77 := bf' hq_77 | skip)
                                                         first
                                                         | (cases hq_77; done) | (exfalso; omega)
                                                         | (
                                                            refine aw_seq ?_
                                                            refine aw_text (by kernel_rfl) ?_
                                                            refine al_ro' (ro_assign ev_c) trivial rfl ?_
                                                            refine al_end (fun e_78 he_78 => ?_)
                                                            have s6_78 := ef 6 he_78 up_h
                                                            clear he_78 s11_65 s13_65 s14_65 s15_65 s214_65 s4_65 s5_65 s9_65
                                                            refine then_n ?_
                                                            refine aw_ret ?_
                                                            refine block_r ?_
                                                            refine then_r ?_
                                                            refine then_r ?_
                                                            refine block_r ?_
                                                            refine then_r ?_
                                                            refine ret1 (.inr rfl) (by kernel_rfl) (resV_tmp s6_78) (.ro _ rfl) ?_
                                                            clear s6_78 mon_48_1_62 mon_48_62 mo4_62 mo3_62 mo2_62 mo1_62 mo0_62 ml_62
                                                            (first | rfl | (exfalso; rw [hanV_len] at *; omega)))
                                                       · (first | replace hq_77 := bnt hq_77 | replace hq_77 := bnf hq_77 | replace hq_77 := bt hq_77 | replace hq_77 := bf hq_77 | replace hq_77 := bt' hq_77 | replace hq_77 := bf' hq_77 | skip)
                                                         first
                                                         | (cases hq_77; done) | (exfalso; omega)
                                                         | (
                                                            refine aw_skip ?_
                                                            refine block_n ?_
                                                            refine then_n ?_
                                                            refine aw_text (by kernel_rfl) ?_
                                                            refine al_ro' (ro_move s15_65) trivial rfl ?_
                                                            first | (refine al_ro' (ro_add' up_h ev_c ?_) trivial rfl ?_; · (unfold In64; omega)) | refine al_ro' (ro_add up_h ev_c) trivial rfl ?_
                                                            refine al_ro' (ro_assign up_h) trivial rfl ?_
                                                            refine al_end (fun e_79 he_79 => ?_)
                                                            have s4_79 := ef 4 he_79 (up_m rfl (u2 rfl s4_65))
                                                            have s5_79 := ef 5 he_79 (up_m rfl (u2 rfl s5_65))
                                                            have s9_79 := ef 9 he_79 (up_m rfl (u2 rfl s9_65))
                                                            have s11_79 := ef 11 he_79 (up_m rfl (u2 rfl s11_65))
                                                            have s13_79 := ef 13 he_79 (up_m rfl (u2 rfl s13_65))
                                                            have s14_79 := ef 14 he_79 (up_m rfl (u2 rfl s14_65))
                                                            have s15_79 := ef 15 he_79 up_h
                                                            clear he_79 s11_65 s13_65 s14_65 s15_65 s214_65 s4_65 s5_65 s9_65
                                                            refine then_n ?_
                                                            refine ⟨_, ⟨s15_79, (s4_79.trans s4_47.symm), (s5_79.trans s5_47.symm), (s9_79.trans s9_47.symm), (s11_79.trans s11_47.symm), (s13_79.trans s13_47.symm), (s14_79.trans s14_47.symm), (mo4_62.trans mo4_44.symm), (mo3_62.trans mo3_44.symm), (mo2_62.trans mo2_44.symm), (mo1_62.trans mo1_44.symm), (mo0_62.trans mo0_44.symm), ⟨_, ml_62, by omega⟩, ?_⟩, ?_⟩
                                                            · (exact ⟨by omega, by omega⟩)
                                                            · ((try dsimp only); omega))))
                                         · (first | replace hq_50 := bnt hq_50 | replace hq_50 := bnf hq_50 | replace hq_50 := bt hq_50 | replace hq_50 := bf hq_50 | replace hq_50 := bt' hq_50 | replace hq_50 := bf' hq_50 | skip)
                                           first
                                           | (cases hq_50; done) | (exfalso; omega)
                                           | (
                                              refine aw_exit ?_
                                              refine then_x ?_
                                              refine then_x ?_
                                              refine block_hit ?_
                                              refine then_n ?_
                                              refine aw_seq ?_
                                              refine aw_text (by kernel_rfl) ?_
                                              refine al_ro' (ro_assign ev_c) trivial rfl ?_
                                              refine al_end (fun e_80 he_80 => ?_)
                                              have s6_80 := ef 6 he_80 up_h
                                              clear he_80 s11_49 s120_49 s13_49 s14_49 s15_49 s4_49 s5_49 s9_49
                                              refine then_n ?_
                                              refine aw_ret ?_
                                              refine ret1 (.inr rfl) (by kernel_rfl) (resV_tmp s6_80) (.ro _ rfl) ?_
                                              clear s6_80 mo4_48 mo3_48 mo2_48 mo1_48 mo0_48 ml_48
                                              (first | rfl | (exfalso; rw [hanV_len] at *; omega))))))))))
end Go.Proofs.YtgiiedpambimoaaDoor
