/- Chapter 4: the examples, and plain facts of the law on vanes and wheels. No conditions on a program. -/
import Derived.Test.YtgiiedpambimoaaQ7
namespace Go.Proofs.Ytgiiedpambimoaa
open Go Go.RowKit Go.Proofs
set_option linter.unusedSimpArgs false
set_option linter.unusedVariables false
theorem q8_az32 : (Try.prog.info? 32).bind (·.zero) = some (.agg #[.int .i64 0, .int .i64 0]) := by kernel_rfl
theorem q8_az42 : (Try.prog.info? 42).bind (·.zero) = some (.agg #[.int .i64 0, .int .i64 0]) := by kernel_rfl
theorem q8_bz32 : (Try.prog.info? 32).bind (·.zero) = some (.agg #[.int .i64 0, .int .i64 0]) := by kernel_rfl
theorem q8_bu32 : Try.prog.underlying 32 = some (.struct (fsOf Try.prog 32)) := by kernel_rfl
theorem q8_bp32 : ∀ w, ((fsOf Try.prog 32).mapM fun f => Prod.mk f.offset <$> sizeOf f.type : Sem (Array (Nat × Nat))).run Try.prog w = .ok (#[(0, 1), (1, 1)]) w := fun _ => by kernel_rfl
theorem q8_bz42 : (Try.prog.info? 42).bind (·.zero) = some (.agg #[.int .i64 0, .int .i64 0]) := by kernel_rfl
theorem q8_bu42 : Try.prog.underlying 42 = some (.struct (fsOf Try.prog 42)) := by kernel_rfl
theorem q8_bp42 : ∀ w, ((fsOf Try.prog 42).mapM fun f => Prod.mk f.offset <$> sizeOf f.type : Sem (Array (Nat × Nat))).run Try.prog w = .ok (#[(0, 1), (1, 1)]) w := fun _ => by kernel_rfl
theorem q8_bz46 : (Try.prog.info? 46).bind (·.zero) = some (.agg #[.slice none 0 0, .int .i64 0]) := by kernel_rfl
theorem q8_bu46 : Try.prog.underlying 46 = some (.struct (fsOf Try.prog 46)) := by kernel_rfl
theorem q8_bp46 : ∀ w, ((fsOf Try.prog 46).mapM fun f => Prod.mk f.offset <$> sizeOf f.type : Sem (Array (Nat × Nat))).run Try.prog w = .ok (#[(0, 1), (1, 1)]) w := fun _ => by kernel_rfl
theorem q8_hcf11 : ∀ args w, (callFunc 11 args).run Try.prog w = .ok (.enter 11 args) w := fun _ _ => by kernel_rfl
theorem q8_hcf15 : ∀ args w, (callFunc 15 args).run Try.prog w = .ok (.enter 15 args) w := fun _ _ => by kernel_rfl
theorem q8_hcf37 : ∀ args w, (callFunc 37 args).run Try.prog w = .ok (.enter 37 args) w := fun _ _ => by kernel_rfl
theorem q8_sl22 : SlIs Try.prog 22 3 1 8 (.int .i64 0) := ⟨by kernel_rfl, by kernel_rfl, by kernel_rfl⟩
theorem q8_sl29 : SlIs Try.prog 29 32 2 16 (.agg #[.int .i64 0, .int .i64 0]) := ⟨by kernel_rfl, by kernel_rfl, by kernel_rfl⟩
theorem q8_gq32 : Try.prog.eqGuardType Try.prog.depth 32 = false := by kernel_rfl
theorem q8_sq32 {a0 b0 : Int} {a1 b1 : Int} : EqV Try.prog 2 32 (.agg #[.int .i64 a0, .int .i64 a1]) (.agg #[.int .i64 b0, .int .i64 b1]) (decide (a0 = b0) && (decide (a1 = b1) && true)) := (eqs_struct [(3, 0), (3, 1)] (by kernel_rfl) (by kernel_rfl) (by kernel_rfl) (by kernel_rfl) (.cons (fun _ => by kernel_rfl) (fun _ => by kernel_rfl) (eqv_int (k := .i64) (k' := .i64) (by kernel_rfl) a0 b0) (.cons (fun _ => by kernel_rfl) (fun _ => by kernel_rfl) (eqv_int (k := .i64) (k' := .i64) (by kernel_rfl) a1 b1) .nil)))
theorem q8_gq42 : Try.prog.eqGuardType Try.prog.depth 42 = false := by kernel_rfl
theorem q8_sq42 {a0 b0 : Int} {a1 b1 : Int} : EqV Try.prog 2 42 (.agg #[.int .i64 a0, .int .i64 a1]) (.agg #[.int .i64 b0, .int .i64 b1]) (decide (a0 = b0) && (decide (a1 = b1) && true)) := (eqs_struct [(3, 0), (3, 1)] (by kernel_rfl) (by kernel_rfl) (by kernel_rfl) (by kernel_rfl) (.cons (fun _ => by kernel_rfl) (fun _ => by kernel_rfl) (eqv_int (k := .i64) (k' := .i64) (by kernel_rfl) a0 b0) (.cons (fun _ => by kernel_rfl) (fun _ => by kernel_rfl) (eqv_int (k := .i64) (k' := .i64) (by kernel_rfl) a1 b1) .nil)))
theorem q8_sz32 : (Try.prog.info? 32).map (·.size) = some 2 := by kernel_rfl
theorem q8_sz42 : (Try.prog.info? 42).map (·.size) = some 2 := by kernel_rfl
theorem q8_ty32 : TyIs Try.prog 32 true 2 := ⟨by kernel_rfl, by kernel_rfl⟩
theorem q8_ty42 : TyIs Try.prog 42 true 2 := ⟨by kernel_rfl, by kernel_rfl⟩

theorem rdT_right : RT rdT := rt_of (by decide +kernel)
theorem one0 : OneT rdT [0, 2, 1] 1 1 := by
  have hn : neaV rdT [0, 2, 1] (wnd rdT).toNat = [0, 1] := by decide +kernel
  refine ⟨by decide +kernel, by rw [hn]; decide +kernel, fun w hw k h1 h2 => ?_⟩
  rw [hn] at hw
  have hp : rdT.per = 2 := rfl
  rw [hp] at h1 h2
  have hk : k = 0 ∨ k = 1 ∨ k = 2 ∨ k = 3 := by
    simp at hw
    rcases hw with rfl | rfl <;> omega
  unfold pasB
  rcases hk with rfl | rfl | rfl | rfl <;> decide +kernel
theorem place0_ok : FnOk Try.prog 15 [qA rdT, .agg [.row 1 (([0, 2, 1] : List Int).map iE), zA 1]] (fun q => q = .tuple [raA 1100 1199, zA 0]) :=
  (placeOf_ok rdT rdT_right [0, 2, 1] rfl (fun j hj => by
    match j, hj with
    | 0, _ => rfl
    | 1, _ => rfl
    | 2, _ => rfl) 1 1 (by decide) one0).mono fun q h => h.trans (by kernel_rfl)
theorem joined0_ok : FnOk Try.prog 11 [.row 2 [[zA 4, zA 2], [zA 6, zA 4]]] (fun q => q = .tuple [.agg [zA 12, zA 10], zA 0]) := by
  have h := joined4_ok [4, 6] 10 (by decide) (by decide) (fun j hj => by
    match j, hj with
    | 0, _ => decide
    | 1, _ => decide) (fun j hj => by
    match j, hj with
    | 0, _ => decide +kernel
    | 1, _ => decide +kernel
    | 2, _ => decide +kernel)
  have e1 : (reL [4, 6] 10).map rE = [[zA 4, zA 2], [zA 6, zA 4]] := by kernel_rfl
  rw [e1] at h
  exact h.mono fun q hq => hq.trans (by kernel_rfl)
set_option maxRecDepth 100000 in
set_option maxHeartbeats 1000000 in
theorem lAwake_ok : FnOk Try.prog 6 [] (fun q => q = yA true) := by
  refine fnOk_of (fn := Try.f6) 35 (by kernel_rfl) rfl (by kernel_rfl) (Nat.le_of_ble_eq_true rfl) ?_
  intro e_0 m_0 hA hm_0
  have ml_0 : m_0.length = 0 := by rw [hm_0]; rfl
  clear hA hm_0
  refine aw_seq ?_
  refine aw_text (by kernel_rfl) ?_
  refine al_ro' (ro_assign ev_c) trivial rfl ?_
  refine al_end (fun e_1 he_1 => ?_)
  clear he_1
  refine then_n ?_
  refine aw_seq ?_
  refine aw_text (by kernel_rfl) ?_
  refine al_ro' (ro_call evL_nil rfl (lqRound_ok) q8_hcf37) trivial rfl ?_
  refine al_ro' (ro_lit q8_sl22 (evP_cons ev_c (evP_cons ev_c (evP_cons ev_c evP_nil))) rfl rfl rfl rfl) trivial rfl ?_
  refine al_ro' (ro_build (evP_cons up_h (evP_cons ev_c evP_nil)) q8_bz46 q8_bu46 q8_bp46 rfl) trivial rfl ?_
  refine al_ro' (ro_call (evL_cons (u2 rfl up_h) (evL_cons up_h evL_nil)) rfl (place0_ok) q8_hcf15) trivial rfl ?_
  refine al_ro' (ro_move up_h) trivial rfl ?_
  refine al_ro' (ro_extract up_h rfl) trivial rfl ?_
  refine al_ro' (ro_extract (up_m rfl up_h) rfl) trivial rfl ?_
  refine al_stm (st_alloc q8_az42 rfl ml_0) trivial rfl (fun m_2 hm_2 => ?_)
  have mo0_2 := m_push hm_2 ml_0
  (try simp only [packA_t, packA_f, iE, bE, setAt, cellsA, Value.cells, map_vc, map_vn, Nat.reduceAdd, qS] at mo0_2)
  have ml_2 := m_push_l hm_2 ml_0
  have ml_2 : _ = 1 := ml_2
  clear hm_2
  refine al_stm (st_store up_h (u2 rfl up_h) rfl rfl mo0_2 q8_sz42 rfl (by first | exact Nat.le_of_ble_eq_true rfl | omega | (simp only [lnS] <;> omega) | (simp <;> omega))) trivial rfl (fun m_3 hm_3 => ?_)
  have mo0_3 := m_set hm_3 mo0_2
  (try simp only [packA_t, packA_f, iE, bE, setAt, cellsA, Value.cells, map_vc, map_vn, Nat.reduceAdd, qS] at mo0_3)
  have ml_3 := m_set_l hm_3 ml_2
  clear hm_3 mo0_2
  refine al_ro' (ro_assign (up_n (up_m rfl up_h))) trivial rfl ?_
  refine al_end (fun e_4 he_4 => ?_)
  have s1_4 := ef 1 he_4 (up_m rfl (up_n up_h))
  have s2_4 := ef 2 he_4 up_h
  clear he_4
  refine then_n ?_
  refine aw_seq ?_
  refine aw_text (by kernel_rfl) ?_
  refine al_ro' (ro_build (evP_cons ev_c (evP_cons ev_c evP_nil)) q8_bz32 q8_bu32 q8_bp32 rfl) trivial rfl ?_
  refine al_ro' (ro_build (evP_cons ev_c (evP_cons ev_c evP_nil)) q8_bz32 q8_bu32 q8_bp32 rfl) trivial rfl ?_
  refine al_ro' (ro_lit q8_sl29 (evP_cons (up_m rfl up_h) (evP_cons up_h evP_nil)) rfl rfl rfl rfl) trivial rfl ?_
  refine al_ro' (ro_call (evL_cons up_h evL_nil) rfl (joined0_ok) q8_hcf11) trivial rfl ?_
  refine al_ro' (ro_move up_h) trivial rfl ?_
  refine al_ro' (ro_extract up_h rfl) trivial rfl ?_
  refine al_ro' (ro_extract (up_m rfl up_h) rfl) trivial rfl ?_
  refine al_stm (st_alloc q8_az32 rfl ml_3) trivial rfl (fun m_5 hm_5 => ?_)
  have mo1_5 := m_push hm_5 ml_3
  (try simp only [packA_t, packA_f, iE, bE, setAt, cellsA, Value.cells, map_vc, map_vn, Nat.reduceAdd, qS] at mo1_5)
  have mo0_5 := m_push_o hm_5 mo0_3
  have ml_5 := m_push_l hm_5 ml_3
  have ml_5 : _ = 2 := ml_5
  clear hm_5 mo0_3
  refine al_stm (st_store up_h (u2 rfl up_h) rfl rfl mo1_5 q8_sz32 rfl (by first | exact Nat.le_of_ble_eq_true rfl | omega | (simp only [lnS] <;> omega) | (simp <;> omega))) trivial rfl (fun m_6 hm_6 => ?_)
  have mo1_6 := m_set hm_6 mo1_5
  (try simp only [packA_t, packA_f, iE, bE, setAt, cellsA, Value.cells, map_vc, map_vn, Nat.reduceAdd, qS] at mo1_6)
  have mo0_6 := m_set_o hm_6 mo0_5 (by decide)
  have ml_6 := m_set_l hm_6 ml_5
  clear hm_6 mo1_5 mo0_5
  refine al_ro' (ro_assign (up_n (up_m rfl up_h))) trivial rfl ?_
  refine al_end (fun e_7 he_7 => ?_)
  have s1_7 := ef 1 he_7 (up_m rfl (up_n (u8 rfl s1_4)))
  have s2_7 := ef 2 he_7 (up_m rfl (up_n (u8 rfl s2_4)))
  have s3_7 := ef 3 he_7 (up_m rfl (up_n up_h))
  have s4_7 := ef 4 he_7 up_h
  clear he_7 s1_4 s2_4
  refine then_n ?_
  refine aw_seq ?_
  refine aw_text (by kernel_rfl) ?_
  refine al_ro' (ro_move s2_7) trivial rfl ?_
  refine al_ro' (ro_eql up_h ev_c) trivial rfl ?_
  refine al_ro' (ro_move up_h) trivial rfl ?_
  refine al_case up_h (fun hb_8 hq_8 => ?_) (fun hb_8 hq_8 => ?_)
  · (first | replace hq_8 := bnt hq_8 | replace hq_8 := bnf hq_8 | replace hq_8 := bt hq_8 | replace hq_8 := bf hq_8 | replace hq_8 := bt' hq_8 | replace hq_8 := bf' hq_8 | skip)
    first
    | (cases hq_8; done) | (exfalso; omega)
    | (
       refine al_ro' (ro_eq (ro_ld_ptr q8_ty42 rfl mo0_6 (up_m rfl (u2 rfl s1_7)) (by first | exact Nat.le_of_ble_eq_true rfl | omega | (simp only [lnS] <;> omega) | (simp <;> omega))) (by first | (simp only [packA_t, packA_f, iE, bE, setAt, cellsA, Value.cells, map_vc, map_vn, Nat.reduceAdd, qS] <;> rfl) | rfl)) ⟨_, rfl, hb_8⟩ rfl ?_
       refine al_ro' (ro_build (evP_cons ev_c (evP_cons ev_c evP_nil)) q8_bz42 q8_bu42 q8_bp42 rfl) ⟨_, rfl, (up_m rfl hb_8)⟩ rfl ?_
       refine al_ro' (ro_sqeql (up_m rfl up_h) up_h rfl rfl q8_gq42 q8_sq42 (by decide)) ⟨_, rfl, (u2 rfl hb_8)⟩ rfl ?_
       refine al_ro' (ro_pickT (up_m rfl (u2 rfl hb_8)) up_h) trivial rfl ?_
       refine al_ro' (ro_move up_h) trivial rfl ?_
       refine al_case up_h (fun hb_9 hq_9 => ?_) (fun hb_9 hq_9 => ?_)
       · (first | replace hq_9 := bnt hq_9 | replace hq_9 := bnf hq_9 | replace hq_9 := bt hq_9 | replace hq_9 := bf hq_9 | replace hq_9 := bt' hq_9 | replace hq_9 := bf' hq_9 | skip)
         first
         | (cases hq_9; done) | (exfalso; omega)
         | (
            refine al_ro' (ro_move (u8 rfl s4_7)) ⟨_, rfl, hb_9⟩ rfl ?_
            refine al_ro' (ro_eql up_h ev_c) ⟨_, rfl, (up_m rfl hb_9)⟩ rfl ?_
            refine al_ro' (ro_pickT (u2 rfl hb_9) up_h) trivial rfl ?_
            refine al_ro' (ro_move up_h) trivial rfl ?_
            refine al_case up_h (fun hb_10 hq_10 => ?_) (fun hb_10 hq_10 => ?_)
            · (first | replace hq_10 := bnt hq_10 | replace hq_10 := bnf hq_10 | replace hq_10 := bt hq_10 | replace hq_10 := bf hq_10 | replace hq_10 := bt' hq_10 | replace hq_10 := bf' hq_10 | skip)
              first
              | (cases hq_10; done) | (exfalso; omega)
              | (
                 refine al_ro' (ro_eq (ro_ld_ptr q8_ty32 rfl mo1_6 (u4 rfl (u8 rfl s3_7)) (by first | exact Nat.le_of_ble_eq_true rfl | omega | (simp only [lnS] <;> omega) | (simp <;> omega))) (by first | (simp only [packA_t, packA_f, iE, bE, setAt, cellsA, Value.cells, map_vc, map_vn, Nat.reduceAdd, qS] <;> rfl) | rfl)) ⟨_, rfl, hb_10⟩ rfl ?_
                 refine al_ro' (ro_build (evP_cons ev_c (evP_cons ev_c evP_nil)) q8_bz32 q8_bu32 q8_bp32 rfl) ⟨_, rfl, (up_m rfl hb_10)⟩ rfl ?_
                 refine al_ro' (ro_sqeql (up_m rfl up_h) up_h rfl rfl q8_gq32 q8_sq32 (by decide)) ⟨_, rfl, (u2 rfl hb_10)⟩ rfl ?_
                 refine al_ro' (ro_pickT (up_m rfl (u2 rfl hb_10)) up_h) trivial rfl ?_
                 refine al_ro' (ro_assign up_h) trivial rfl ?_
                 refine al_end (fun e_11 he_11 => ?_)
                 have s0_11 := ef 0 he_11 up_h
                 clear he_11 hb_10 hb_8 hb_9 s1_7 s2_7 s3_7 s4_7
                 refine then_n ?_
                 refine aw_ret ?_
                 refine ret1 (.inr rfl) (by kernel_rfl) (resV_tmp s0_11) (.ro _ rfl) ?_
                 clear s0_11 mo1_6 mo0_6 ml_6
                 (first | rfl | (simp; done) | (exfalso; simp_all; done)))
            · (first | replace hq_10 := bnt hq_10 | replace hq_10 := bnf hq_10 | replace hq_10 := bt hq_10 | replace hq_10 := bf hq_10 | replace hq_10 := bt' hq_10 | replace hq_10 := bf' hq_10 | skip)
              first
              | (cases hq_10; done) | (exfalso; omega)
              | (
                 refine al_skip' ⟨_, rfl, .inl hb_10⟩ rfl ?_
                 refine al_skip' ⟨_, rfl, .inl (up_m rfl hb_10)⟩ rfl ?_
                 refine al_skip' ⟨_, rfl, .inl (u2 rfl hb_10)⟩ rfl ?_
                 refine al_ro' (ro_pickF (up_m rfl (u2 rfl hb_10)) ev_c) trivial rfl ?_
                 refine al_ro' (ro_assign up_h) trivial rfl ?_
                 refine al_end (fun e_12 he_12 => ?_)
                 have s0_12 := ef 0 he_12 up_h
                 clear he_12 hb_10 hb_8 hb_9 s1_7 s2_7 s3_7 s4_7
                 refine then_n ?_
                 refine aw_ret ?_
                 refine ret1 (.inr rfl) (by kernel_rfl) (resV_tmp s0_12) (.ro _ rfl) ?_
                 clear s0_12 mo1_6 mo0_6 ml_6
                 (first | rfl | (simp; done) | (exfalso; simp_all; done))))
       · (first | replace hq_9 := bnt hq_9 | replace hq_9 := bnf hq_9 | replace hq_9 := bt hq_9 | replace hq_9 := bf hq_9 | replace hq_9 := bt' hq_9 | replace hq_9 := bf' hq_9 | skip)
         first
         | (cases hq_9; done) | (exfalso; omega)
         | (
            refine al_skip' ⟨_, rfl, .inl hb_9⟩ rfl ?_
            refine al_skip' ⟨_, rfl, .inl (up_m rfl hb_9)⟩ rfl ?_
            refine al_ro' (ro_pickF (u2 rfl hb_9) ev_c) trivial rfl ?_
            refine al_ro' (ro_move up_h) trivial rfl ?_
            refine al_skip' ⟨_, rfl, .inl up_h⟩ rfl ?_
            refine al_skip' ⟨_, rfl, .inl (up_m rfl up_h)⟩ rfl ?_
            refine al_skip' ⟨_, rfl, .inl (u2 rfl up_h)⟩ rfl ?_
            refine al_ro' (ro_pickF (up_m rfl (u2 rfl up_h)) ev_c) trivial rfl ?_
            refine al_ro' (ro_assign up_h) trivial rfl ?_
            refine al_end (fun e_13 he_13 => ?_)
            have s0_13 := ef 0 he_13 up_h
            clear he_13 hb_8 hb_9 s1_7 s2_7 s3_7 s4_7
            refine then_n ?_
            refine aw_ret ?_
            refine ret1 (.inr rfl) (by kernel_rfl) (resV_tmp s0_13) (.ro _ rfl) ?_
            clear s0_13 mo1_6 mo0_6 ml_6
            (first | rfl | (simp; done) | (exfalso; simp_all; done))))
  · (first | replace hq_8 := bnt hq_8 | replace hq_8 := bnf hq_8 | replace hq_8 := bt hq_8 | replace hq_8 := bf hq_8 | replace hq_8 := bt' hq_8 | replace hq_8 := bf' hq_8 | skip)
    first
    | (cases hq_8; done) | (exfalso; omega)
    | (
       refine al_skip' ⟨_, rfl, .inl hb_8⟩ rfl ?_
       refine al_skip' ⟨_, rfl, .inl (up_m rfl hb_8)⟩ rfl ?_
       refine al_skip' ⟨_, rfl, .inl (u2 rfl hb_8)⟩ rfl ?_
       refine al_ro' (ro_pickF (up_m rfl (u2 rfl hb_8)) ev_c) trivial rfl ?_
       refine al_ro' (ro_move up_h) trivial rfl ?_
       refine al_skip' ⟨_, rfl, .inl up_h⟩ rfl ?_
       refine al_skip' ⟨_, rfl, .inl (up_m rfl up_h)⟩ rfl ?_
       refine al_ro' (ro_pickF (u2 rfl up_h) ev_c) trivial rfl ?_
       refine al_ro' (ro_move up_h) trivial rfl ?_
       refine al_skip' ⟨_, rfl, .inl up_h⟩ rfl ?_
       refine al_skip' ⟨_, rfl, .inl (up_m rfl up_h)⟩ rfl ?_
       refine al_skip' ⟨_, rfl, .inl (u2 rfl up_h)⟩ rfl ?_
       refine al_ro' (ro_pickF (up_m rfl (u2 rfl up_h)) ev_c) trivial rfl ?_
       refine al_ro' (ro_assign up_h) trivial rfl ?_
       refine al_end (fun e_14 he_14 => ?_)
       have s0_14 := ef 0 he_14 up_h
       clear he_14 hb_8 s1_7 s2_7 s3_7 s4_7
       refine then_n ?_
       refine aw_ret ?_
       refine ret1 (.inr rfl) (by kernel_rfl) (resV_tmp s0_14) (.ro _ rfl) ?_
       clear s0_14 mo1_6 mo0_6 ml_6
       (first | rfl | (simp; done) | (exfalso; simp_all; done)))
theorem lcmP_bd {ws : List Int} (h : ∀ j : Nat, j < ws.length → 1 ≤ ws.getD j default ∧ ws.getD j default ≤ 1000) : ∀ {n : Nat}, n ≤ ws.length → lcmP ws n ≤ 1000 ^ n
  | 0, _ => by simp [lcmP]
  | n + 1, hn => by
    have h1 := lcmP_bd h (n := n) (by omega)
    have h2 := h n (by omega)
    have h3 := lcmP_pos h (n := n) (by omega)
    have h4 := (lcmS_facts h3 (show 0 < ws.getD n default by omega)).2.2.2.1
    have h5 := Int.mul_le_mul h1 h2.2 (by omega) (by omega)
    rw [Int.pow_succ]
    exact Int.le_trans h4 h5
theorem lcmP_le {ws : List Int} (h : ∀ j : Nat, j < ws.length → 1 ≤ ws.getD j default ∧ ws.getD j default ≤ 1000) (hl : ws.length ≤ 3) (j : Nat) (hj : j ≤ ws.length) : lcmP ws j ≤ 1000000000 := by
  have h1 := lcmP_bd h hj
  have hj3 : j = 0 ∨ j = 1 ∨ j = 2 ∨ j = 3 := by omega
  rcases hj3 with rfl | rfl | rfl | rfl <;> refine Int.le_trans h1 (by decide)
/-- The track with another modulus. -/
def ownT (t : Trk) (L : Int) : Trk := { t with mod := L, sla := 0 }
theorem own_right {t : Trk} (h : RT t) {L : Int} (hL : 1 ≤ L ∧ L ≤ 1000) : RT (ownT t L) := ⟨h.win, h.len, h.van, h.too, h.per, h.fst, hL, ⟨Int.le_refl 0, by show (0 : Int) ≤ L; omega⟩, h.err⟩
def seeW (t : Trk) (w : Int) : List Int := (wat t w).take t.win.toNat
theorem seeW_len {t : Trk} (h : RT t) (w : Int) : ((seeW t w).length : Int) = t.win := by
  have := h.win
  simp only [seeW, List.length_take, wat_len]; omega
theorem wat_bit {t : Trk} (h : RT t) (w : Int) {j : Nat} (hj : j < 12) : seeB ((wat t w).getD j default) = true := by
  rw [wat_at t w hj]
  unfold seeB
  split
  · rw [bit_of h]; rfl
  · rfl
theorem seeW_see {t : Trk} (h : RT t) (w : Int) (j : Nat) (hj : j < (seeW t w).length) : seeB ((seeW t w).getD j default) = true := by
  have hl := hj
  simp only [seeW, List.length_take, wat_len] at hl
  rw [seeW, List.getD_eq_getElem?_getD, List.getElem?_take_of_lt (by omega), ← List.getD_eq_getElem?_getD]
  exact wat_bit h w (by omega)
theorem z12_at {j : Nat} (h : j < 12) : z12.getD j default = 0 := by
  match j, h with
  | 0, _ => rfl
  | 1, _ => rfl
  | 2, _ => rfl
  | 3, _ => rfl
  | 4, _ => rfl
  | 5, _ => rfl
  | 6, _ => rfl
  | 7, _ => rfl
  | 8, _ => rfl
  | 9, _ => rfl
  | 10, _ => rfl
  | 11, _ => rfl
theorem pad_see {t : Trk} (h : RT t) (w : Int) : padW (seeW t w) = wat t w := by
  have hw := h.win
  have hl := seeW_len h w
  refine list_extI (by rw [padW_len (by omega), wat_len]) fun j hj => ?_
  rw [padW_len (by omega)] at hj
  unfold padW
  by_cases hj2 : j < (seeW t w).length
  · rw [List.getD_eq_getElem?_getD, List.getElem?_append_left hj2, seeW, List.getElem?_take_of_lt (by omega), ← List.getD_eq_getElem?_getD]
  · rw [List.getD_eq_getElem?_getD, List.getElem?_append_right (by omega), List.getElem?_drop, show (seeW t w).length + (j - (seeW t w).length) = j by omega, ← List.getD_eq_getElem?_getD, z12_at hj, wat_at t w hj, if_neg (by omega)]
theorem dfN_self (a : List Int) : ∀ n : Nat, dfN a a n = 0
  | 0 => rfl
  | n + 1 => by simp [dfN, dfN_self a n, dfB]
theorem own_one {t : Trk} (h : RT t) {L T : Int} (hL : 1 ≤ L ∧ L ≤ 1000) (hT : 0 ≤ T ∧ T < tee t) (hn : tee t ≤ L) : OneT (ownT t L) (seeW (ownT t L) (T / t.per)) T T := by
  have hR := own_right h hL
  have hp := h.per
  have hq := Int.ediv_nonneg hT.1 (show 0 ≤ t.per by omega)
  have hq2 : T / t.per < wnd t := (Int.ediv_lt_iff_lt_mul (by omega)).2 hT.2
  refine ⟨hT, ?_, fun w hw k h1 h2 => ?_⟩
  · have hk : (((T / t.per).toNat : Nat) : Int) = T / t.per := Int.toNat_of_nonneg hq
    have hm := neaV_mem (t := ownT t L) (xs := seeW (ownT t L) (T / t.per)) (k := (T / t.per).toNat) (by
      rw [pad_see hR, hk, dfN_self]; exact h.err.1) (n := (wnd (ownT t L)).toNat) (by
      show (T / t.per).toNat < (wnd t).toNat
      omega)
    rw [hk] at hm
    exact hm
  · have hwl := neaV_lt _ _ hw
    have hwm := mul_per hR hwl.1 (by have := hR.wnd; omega)
    have hk0 : 0 ≤ k := by omega
    have hkL : k < L := by
      have : tee (ownT t L) = tee t := rfl
      have e : (ownT t L).per = t.per := rfl
      omega
    have e1 : k.tmod L = k := by rw [Int.tmod_eq_emod_of_nonneg hk0]; exact Int.emod_eq_of_lt hk0 hkL
    have e2 : offW (ownT t L) T k = (k + L - T) % L := by
      show ((k.tmod L) + L - T).tmod L = _
      rw [e1, Int.tmod_eq_emod_of_nonneg (by omega)]
    have e3 : (k + L - T) % L = if T ≤ k then k - T else k + L - T := by
      split
      · rw [show k + L - T = (k - T) + L by omega, Int.add_emod_right]; exact Int.emod_eq_of_lt (by omega) (by omega)
      · exact Int.emod_eq_of_lt (by omega) (by omega)
    unfold pasB
    rw [e2, e3]
    show (¬ (0 : Int) < min _ (L - _)) ↔ _
    split <;> omega
end Go.Proofs.Ytgiiedpambimoaa
