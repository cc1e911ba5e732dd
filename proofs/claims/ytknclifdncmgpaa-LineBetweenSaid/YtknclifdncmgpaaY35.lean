/- The law of chapter 1 along the beams. No conditions on a program. -/
import Derived.Test.YtknclifdncmgpaaM6
import Derived.Test.YtknclifdncmgpaaM7
namespace Go.Proofs.Ytknclifdncmgpaa
open Go Go.RowKit Go.Proofs
set_option linter.unusedSimpArgs false
set_option linter.unusedVariables false
theorem y35_az35 : (Try.prog.info? 35).bind (·.zero) = some (.agg #[.int .i64 0, .int .i64 0]) := by kernel_rfl
theorem y35_az42 : (Try.prog.info? 42).bind (·.zero) = some (.agg #[.int .i64 0, .int .i64 0, .int .i64 0, .int .i64 0]) := by kernel_rfl
theorem y35_bz35 : (Try.prog.info? 35).bind (·.zero) = some (.agg #[.int .i64 0, .int .i64 0]) := by kernel_rfl
theorem y35_bu35 : Try.prog.underlying 35 = some (.struct (fsOf Try.prog 35)) := by kernel_rfl
theorem y35_bp35 : ∀ w, ((fsOf Try.prog 35).mapM fun f => Prod.mk f.offset <$> sizeOf f.type : Sem (Array (Nat × Nat))).run Try.prog w = .ok (#[(0, 1), (1, 1)]) w := fun _ => by kernel_rfl
theorem y35_fl26_1 : FldIs Try.prog 26 1 1 false 1 := by unfold FldIs; kernel_rfl
theorem y35_fl26_2 : FldIs Try.prog 26 2 2 false 1 := by unfold FldIs; kernel_rfl
theorem y35_fl35_0 : FldIs Try.prog 35 0 0 false 1 := by unfold FldIs; kernel_rfl
theorem y35_fl35_1 : FldIs Try.prog 35 1 1 false 1 := by unfold FldIs; kernel_rfl
theorem y35_fl42_0 : FldIs Try.prog 42 0 0 false 1 := by unfold FldIs; kernel_rfl
theorem y35_fl42_1 : FldIs Try.prog 42 1 1 false 1 := by unfold FldIs; kernel_rfl
theorem y35_fl47_0 : FldIs Try.prog 47 0 0 false 1 := by unfold FldIs; kernel_rfl
theorem y35_hcf13 : ∀ args w, (callFunc 13 args).run Try.prog w = .ok (.enter 13 args) w := fun _ _ => by kernel_rfl
theorem y35_hcf14 : ∀ args w, (callFunc 14 args).run Try.prog w = .ok (.enter 14 args) w := fun _ _ => by kernel_rfl
theorem y35_hcf15 : ∀ args w, (callFunc 15 args).run Try.prog w = .ok (.enter 15 args) w := fun _ _ => by kernel_rfl
theorem y35_hcf16 : ∀ args w, (callFunc 16 args).run Try.prog w = .ok (.enter 16 args) w := fun _ _ => by kernel_rfl
theorem y35_hcf17 : ∀ args w, (callFunc 17 args).run Try.prog w = .ok (.enter 17 args) w := fun _ _ => by kernel_rfl
theorem y35_hcf18 : ∀ args w, (callFunc 18 args).run Try.prog w = .ok (.enter 18 args) w := fun _ _ => by kernel_rfl
theorem y35_hcf19 : ∀ args w, (callFunc 19 args).run Try.prog w = .ok (.enter 19 args) w := fun _ _ => by kernel_rfl
theorem y35_hcf20 : ∀ args w, (callFunc 20 args).run Try.prog w = .ok (.enter 20 args) w := fun _ _ => by kernel_rfl
theorem y35_hcf21 : ∀ args w, (callFunc 21 args).run Try.prog w = .ok (.enter 21 args) w := fun _ _ => by kernel_rfl
theorem y35_hcf22 : ∀ args w, (callFunc 22 args).run Try.prog w = .ok (.enter 22 args) w := fun _ _ => by kernel_rfl
theorem y35_hcf23 : ∀ args w, (callFunc 23 args).run Try.prog w = .ok (.enter 23 args) w := fun _ _ => by kernel_rfl
theorem y35_hcf24 : ∀ args w, (callFunc 24 args).run Try.prog w = .ok (.enter 24 args) w := fun _ _ => by kernel_rfl
theorem y35_hcf25 : ∀ args w, (callFunc 25 args).run Try.prog w = .ok (.enter 25 args) w := fun _ _ => by kernel_rfl
theorem y35_hcf74 : ∀ args w, (callFunc 74 args).run Try.prog w = .ok (.enter 74 args) w := fun _ _ => by kernel_rfl
theorem y35_hcf75 : ∀ args w, (callFunc 75 args).run Try.prog w = .ok (.enter 75 args) w := fun _ _ => by kernel_rfl
theorem y35_sl22 : SlIs Try.prog 22 42 4 32 (.agg #[.int .i64 0, .int .i64 0, .int .i64 0, .int .i64 0]) := ⟨by kernel_rfl, by kernel_rfl, by kernel_rfl⟩
theorem y35_sl23 : SlIs Try.prog 23 47 2 16 (.agg #[.int .i64 0, .int .i64 0]) := ⟨by kernel_rfl, by kernel_rfl, by kernel_rfl⟩
theorem y35_gq35 : Try.prog.eqGuardType Try.prog.depth 35 = false := by kernel_rfl
theorem y35_sq35 {a0 b0 : Int} {a1 b1 : Int} : EqV Try.prog 2 35 (.agg #[.int .i64 a0, .int .i64 a1]) (.agg #[.int .i64 b0, .int .i64 b1]) (decide (a0 = b0) && (decide (a1 = b1) && true)) := (eqs_struct [(3, 0), (3, 1)] (by kernel_rfl) (by kernel_rfl) (by kernel_rfl) (by kernel_rfl) (.cons (fun _ => by kernel_rfl) (fun _ => by kernel_rfl) (eqv_int (k := .i64) (k' := .i64) (by kernel_rfl) a0 b0) (.cons (fun _ => by kernel_rfl) (fun _ => by kernel_rfl) (eqv_int (k := .i64) (k' := .i64) (by kernel_rfl) a1 b1) .nil)))
theorem y35_sz35 : (Try.prog.info? 35).map (·.size) = some 2 := by kernel_rfl
theorem y35_sz42 : (Try.prog.info? 42).map (·.size) = some 4 := by kernel_rfl
theorem y35_ty22 : TyIs Try.prog 22 false 1 := ⟨by kernel_rfl, by kernel_rfl⟩
theorem y35_ty23 : TyIs Try.prog 23 false 1 := ⟨by kernel_rfl, by kernel_rfl⟩
theorem y35_ty26 : TyIs Try.prog 26 true 4 := ⟨by kernel_rfl, by kernel_rfl⟩
theorem y35_ty3 : TyIs Try.prog 3 false 1 := ⟨by kernel_rfl, by kernel_rfl⟩
theorem y35_ty35 : TyIs Try.prog 35 true 2 := ⟨by kernel_rfl, by kernel_rfl⟩
theorem y35_ty42 : TyIs Try.prog 42 true 4 := ⟨by kernel_rfl, by kernel_rfl⟩

set_option maxRecDepth 100000 in
set_option maxHeartbeats 1000000 in
theorem whole_ok (n : Int) : FnOk Try.prog 20 [mA n] (fun q => q = frA n 1) := by
  refine fnOk_of (fn := Try.f20) 5 (by kernel_rfl) rfl (by kernel_rfl) (Nat.le_of_ble_eq_true rfl) ?_
  intro e_0 m_0 hA hm_0
  have s0_0 : evA e_0 (.tmp 0) = _ := hA 0 _ rfl
  have ml_0 : m_0.length = 0 := by rw [hm_0]; rfl
  clear hA hm_0
  refine aw_seq ?_
  refine aw_text (by kernel_rfl) ?_
  refine al_stm (st_alloc y35_az35 rfl ml_0) trivial rfl (fun m_1 hm_1 => ?_)
  have mo0_1 := m_push hm_1 ml_0
  simp only [packA_t, packA_f, iE, bE, setAt, cellsA, Value.cells, map_vc, map_vn, Nat.reduceAdd, qS] at mo0_1
  have ml_1 := m_push_l hm_1 ml_0
  have ml_1 : _ = 1 := ml_1
  clear hm_1
  refine al_end (fun e_2 he_2 => ?_)
  have s0_2 := ef 0 he_2 (up_m rfl s0_0)
  have s2_2 := ef 2 he_2 up_h
  clear he_2 s0_0
  refine then_n ?_
  refine aw_seq ?_
  refine aw_text (by kernel_rfl) ?_
  refine al_ro' (ro_move s0_2) trivial rfl ?_
  refine al_ro' (ro_build (evP_cons up_h (evP_cons ev_c evP_nil)) y35_bz35 y35_bu35 y35_bp35 rfl) trivial rfl ?_
  refine al_stm (st_store (u2 rfl s2_2) up_h rfl rfl mo0_1 y35_sz35 rfl (by exact Nat.le_of_ble_eq_true rfl)) trivial rfl (fun m_3 hm_3 => ?_)
  have mo0_3 := m_set hm_3 mo0_1
  simp only [packA_t, packA_f, iE, bE, setAt, cellsA, Value.cells, map_vc, map_vn, Nat.reduceAdd, qS] at mo0_3
  have ml_3 := m_set_l hm_3 ml_1
  clear hm_3 mo0_1
  refine al_end (fun e_4 he_4 => ?_)
  have s2_4 := ef 2 he_4 (up_n (u2 rfl s2_2))
  clear he_4 s0_2 s2_2
  refine then_n ?_
  refine aw_ret ?_
  refine ret1 (.inr rfl) (by kernel_rfl) (resV_cell s2_4 mo0_3 y35_ty35 (by exact Nat.le_of_ble_eq_true rfl) (by simp)) (vw_r (.ro _ rfl)) ?_
  clear s2_4 mo0_3 ml_3
  rfl
set_option maxRecDepth 100000 in
set_option maxHeartbeats 4000000 in
theorem isLowest_yes (f t a L : Int) (hf : f.natAbs ≤ 20000) (ht : t.natAbs ≤ 20000) (h0 : 0 ≤ a) (hL : 0 < L ∧ L ≤ 30000) (haL : a ≤ L) : FnOk Try.prog 23 [betA f t a L] (fun q => q = tbA true) := by
  unfold betA
  have hb := bet_bd hf ht h0 hL haL
  have hl := fra_low (n := betN f t a L) (b := L) hL.1
  refine fnOk_of (fn := Try.f23) 14 (by kernel_rfl) rfl (by kernel_rfl) (Nat.le_of_ble_eq_true rfl) ?_
  intro e_0 m_0 hA hm_0
  have s0_0 : evA e_0 (.tmp 0) = _ := hA 0 _ rfl
  have ml_0 : m_0.length = 0 := by rw [hm_0]; rfl
  clear hA hm_0
  refine aw_seq ?_
  refine aw_text (by kernel_rfl) ?_
  refine al_stm (st_box s0_0 rfl ml_0) trivial rfl (fun m_1 hm_1 => ?_)
  have mo0_1 := m_push hm_1 ml_0
  have ml_1 := m_push_l hm_1 ml_0
  have ml_1 : _ = 1 := ml_1
  clear hm_1
  refine al_ro' (ro_assign ev_c) trivial rfl ?_
  refine al_end (fun e_2 he_2 => ?_)
  have s1_2 := ef 1 he_2 (up_m rfl up_h)
  clear he_2 s0_0
  refine then_n ?_
  refine aw_seq ?_
  refine aw_text (by kernel_rfl) ?_
  refine al_ro' (ro_fld_ptr y35_fl35_1 rfl s1_2) trivial rfl ?_
  refine al_ro' (ro_eq (ro_ld_ptr y35_ty3 rfl mo0_1 up_h (by exact Nat.le_of_ble_eq_true rfl)) (by simp only [packA_t, packA_f, iE, bE, setAt, cellsA, Value.cells, map_vc, map_vn, Nat.reduceAdd, qS] <;> rfl)) trivial rfl ?_
  refine al_ro' (ro_gtr up_h ev_c) trivial rfl ?_
  refine al_ro' (ro_move up_h) trivial rfl ?_
  refine al_case up_h (fun hb_3 hq_3 => ?_) (fun hb_3 hq_3 => ?_)
  ·replace hq_3 := bt hq_3
   refine al_ro' (ro_fld_ptr y35_fl35_0 rfl (u4 rfl s1_2)) ⟨_, rfl, hb_3⟩ rfl ?_
   refine al_ro' (ro_eq (ro_ld_ptr y35_ty3 rfl mo0_1 up_h (by exact Nat.le_of_ble_eq_true rfl)) (by simp only [packA_t, packA_f, iE, bE, setAt, cellsA, Value.cells, map_vc, map_vn, Nat.reduceAdd, qS] <;> rfl)) ⟨_, rfl, (up_m rfl hb_3)⟩ rfl ?_
   refine al_ro' (ro_fld_ptr y35_fl35_1 rfl (u2 rfl (u4 rfl s1_2))) ⟨_, rfl, (u2 rfl hb_3)⟩ rfl ?_
   refine al_ro' (ro_eq (ro_ld_ptr y35_ty3 rfl mo0_1 up_h (by exact Nat.le_of_ble_eq_true rfl)) (by simp only [packA_t, packA_f, iE, bE, setAt, cellsA, Value.cells, map_vc, map_vn, Nat.reduceAdd, qS] <;> rfl)) ⟨_, rfl, (up_m rfl (u2 rfl hb_3))⟩ rfl ?_
   refine al_ro' (ro_call (evL_cons (u2 rfl up_h) (evL_cons up_h evL_nil)) rfl (gcd_ok _ _ (by omega) (by omega)) y35_hcf74) ⟨_, rfl, (u4 rfl hb_3)⟩ rfl ?_
   refine al_ro' (ro_eql up_h ev_c) ⟨_, rfl, (up_m rfl (u4 rfl hb_3))⟩ rfl ?_
   refine al_ro' (ro_pickT (u2 rfl (u4 rfl hb_3)) up_h) trivial rfl ?_
   refine al_ro' (ro_assign up_h) trivial rfl ?_
   refine al_end (fun e_4 he_4 => ?_)
   have s2_4 := ef 2 he_4 up_h
   clear he_4 hb_3 s1_2
   refine then_n ?_
   refine aw_ret ?_
   refine ret1 (.inr rfl) (by kernel_rfl) (resV_tmp s2_4) (.ro _ rfl) ?_
   clear s2_4 mo0_1 ml_1
   (first | rfl | (rw [hl]; rfl))
  · replace hq_3 := bf hq_3; exfalso; omega
theorem isSmall_yes (f t a L : Int) (hf : f.natAbs ≤ 20000) (ht : t.natAbs ≤ 20000) (h0 : 0 ≤ a) (hL : 0 < L ∧ L ≤ 30000) (haL : a ≤ L) : FnOk Try.prog 24 [betA f t a L] (fun q => q = tbA true) := by
  have hb := bet_bd hf ht h0 hL haL
  refine (isSmall_ok _ _).mono fun q h => h.trans ?_
  have h1 : withinB (fraN (betN f t a L) L) (-1000000000) 1000000000 = true := withinB_iff.2 (by omega)
  have h2 : withinB (fraD (betN f t a L) L) 1 1000000000 = true := withinB_iff.2 (by omega)
  rw [h1, h2]; rfl
theorem cmp_le (a b c d : Int) (h1 : -4000000000000000000 ≤ a * d ∧ a * d ≤ 4000000000000000000) (h2 : -4000000000000000000 ≤ c * b ∧ c * b ≤ 4000000000000000000) (h : a * d ≤ c * b) : FnOk Try.prog 75 [frA a b, frA c d] (fun q => q = mA (if a * d < c * b then -1 else 0)) :=
  (cmp_ok a b c d h1 h2).mono fun q hq => hq.trans (by
    by_cases hl : a * d < c * b
    · rw [if_pos hl, if_pos hl]
    · rw [if_neg hl, if_neg hl, if_neg (by omega)])
set_option maxRecDepth 100000 in
set_option maxHeartbeats 4000000 in
theorem inside_yes (f t a L : Int) (hf : f.natAbs ≤ 20000) (ht : t.natAbs ≤ 20000) (h0 : 0 ≤ a) (hL : 0 < L ∧ L ≤ 30000) (haL : a ≤ L) : FnOk Try.prog 25 [betA f t a L, mA f, mA t] (fun q => q = tbA true) := by
  unfold betA
  have hb := bet_bd hf ht h0 hL haL
  obtain ⟨e1, e2⟩ := bet_in (f := f) (t := t) hL.1 h0 haL
  have m1 := nat2 (mul_in (x := min f t) (y := fraD (betN f t a L) L) 20000 30000 (by omega) (by omega))
  have m2 := nat2 (mul_in (x := max f t) (y := fraD (betN f t a L) L) 20000 30000 (by omega) (by omega))
  generalize fraN (betN f t a L) L = X at *
  generalize fraD (betN f t a L) L = Y at *
  refine fnOk_of (fn := Try.f25) 23 (by kernel_rfl) rfl (by kernel_rfl) (Nat.le_of_ble_eq_true rfl) ?_
  intro e_0 m_0 hA hm_0
  have s0_0 : evA e_0 (.tmp 0) = _ := hA 0 _ rfl
  have s1_0 : evA e_0 (.tmp 1) = _ := hA 1 _ rfl
  have s2_0 : evA e_0 (.tmp 2) = _ := hA 2 _ rfl
  have ml_0 : m_0.length = 0 := by rw [hm_0]; rfl
  clear hA hm_0
  refine aw_seq ?_
  refine aw_text (by kernel_rfl) ?_
  refine al_stm (st_box s0_0 rfl ml_0) trivial rfl (fun m_1 hm_1 => ?_)
  have mo0_1 := m_push hm_1 ml_0
  have ml_1 := m_push_l hm_1 ml_0
  have ml_1 : _ = 1 := ml_1
  clear hm_1
  refine al_ro' (ro_assign ev_c) trivial rfl ?_
  refine al_end (fun e_2 he_2 => ?_)
  have s1_2 := ef 1 he_2 (u2 rfl s1_0)
  have s2_2 := ef 2 he_2 (u2 rfl s2_0)
  have s3_2 := ef 3 he_2 (up_m rfl up_h)
  clear he_2 s0_0 s1_0 s2_0
  refine then_n ?_
  refine aw_seq ?_
  refine aw_draw 17 (by kernel_rfl) (by kernel_rfl) (by kernel_rfl) (by kernel_rfl) ?_
  refine ds_ro' (ro_move s1_2) trivial rfl ?_
  refine ds_ro' (ro_move (up_m rfl s2_2)) trivial rfl ?_
  refine ds_ro' (ro_min (up_m rfl up_h) up_h) trivial rfl ?_
  refine ds_ro' (ro_call (evL_cons up_h evL_nil) rfl (whole_ok _) y35_hcf20) trivial rfl ?_
  refine ds_ro' (ro_eq (ro_ld_ptr y35_ty35 rfl mo0_1 (u4 rfl s3_2) (by exact Nat.le_of_ble_eq_true rfl)) (by simp only [packA_t, packA_f, iE, bE, setAt, cellsA, Value.cells, map_vc, map_vn, Nat.reduceAdd, qS] <;> rfl)) trivial rfl ?_
  refine ds_ro' (ro_call (evL_cons (up_m rfl up_h) (evL_cons up_h evL_nil)) rfl (cmp_le (min f t) 1 X Y (by omega) (by omega) (by omega)) y35_hcf75) trivial rfl ?_
  refine ds_ro' (ro_leq up_h ev_c) trivial rfl ?_
  refine ds_ro' (ro_move up_h) trivial rfl ?_
  refine ds_case up_h (fun hb_3 hq_3 => ?_) (fun hb_3 hq_3 => ?_)
  ·replace hq_3 := bt hq_3
   refine ds_ro' (ro_eq (ro_ld_ptr y35_ty35 rfl mo0_1 (u8 rfl s3_2) (by exact Nat.le_of_ble_eq_true rfl)) (by simp only [packA_t, packA_f, iE, bE, setAt, cellsA, Value.cells, map_vc, map_vn, Nat.reduceAdd, qS] <;> rfl)) ⟨_, rfl, hb_3⟩ rfl ?_
   refine ds_ro' (ro_move (up_m rfl (u8 rfl s1_2))) ⟨_, rfl, (up_m rfl hb_3)⟩ rfl ?_
   refine ds_ro' (ro_move (u2 rfl (u8 rfl s2_2))) ⟨_, rfl, (u2 rfl hb_3)⟩ rfl ?_
   refine ds_ro' (ro_max (up_m rfl up_h) up_h) ⟨_, rfl, (up_m rfl (u2 rfl hb_3))⟩ rfl ?_
   refine ds_ro' (ro_call (evL_cons up_h evL_nil) rfl (whole_ok _) y35_hcf20) ⟨_, rfl, (u4 rfl hb_3)⟩ rfl ?_
   refine ds_ro' (ro_call (evL_cons (u4 rfl up_h) (evL_cons up_h evL_nil)) rfl (cmp_le X Y (max f t) 1 (by omega) (by omega) (by omega)) y35_hcf75) ⟨_, rfl, (up_m rfl (u4 rfl hb_3))⟩ rfl ?_
   refine ds_ro' (ro_leq up_h ev_c) ⟨_, rfl, (u2 rfl (u4 rfl hb_3))⟩ rfl ?_
   refine ds_ro' (ro_pickT (up_m rfl (u2 rfl (u4 rfl hb_3))) up_h) trivial rfl ?_
   refine ds_ro' (ro_assign up_h) trivial rfl ?_
   refine ds_nil ?_
   refine al_end (fun e_4 he_4 => ?_)
   have s6_4 := ef 6 he_4 up_h
   clear he_4 hb_3 s1_2 s2_2 s3_2
   refine then_n ?_
   refine aw_ret ?_
   refine ret1 (.inr rfl) (by kernel_rfl) (resV_tmp s6_4) (.ro _ rfl) ?_
   clear s6_4 mo0_1 ml_1
   first | rfl | (refine avb ?_; split <;> simp; done) | (split <;> rfl)
  · replace hq_3 := bf hq_3; exfalso; omega
theorem placeOf_in (l : Lin) (hl : Sho l) (hg : (linM l).2 = 0) (i : Nat) (hi : i ≤ l.bs.length) : FnOk Try.prog 16 [lnA l, mA i] (fun q => q = .tuple [mA (plaP l.bs i), mA 0]) :=
  (placeOf_good l hl hg i).mono fun q h => by
    have hm : misE (i : Int) 0 (l.js.length - 1) = 0 := misE_z.2 (by have := (rgt_of hg).js; omega)
    rw [hm, if_pos rfl, Int.toNat_natCast] at h; exact h
theorem acrossAt_joint (l : Lin) (hl : Sho l) (hg : (linM l).2 = 0) (i : Nat) (hi : i ≤ l.bs.length) : FnOk Try.prog 18 [lnA l, mA (plaP l.bs i)] (fun q => q = .tuple [frA (l.js.getD i default).acr 1, mA 0]) :=
  (AcrossAt_in l hl hg _ (pla_ok (rgt_of hg) hi)).mono fun q h => h.trans (by rw [bet_joint (rgt_of hg) Jnt.acr hi])
theorem upAt_joint (l : Lin) (hl : Sho l) (hg : (linM l).2 = 0) (i : Nat) (hi : i ≤ l.bs.length) : FnOk Try.prog 19 [lnA l, mA (plaP l.bs i)] (fun q => q = .tuple [frA (l.js.getD i default).up 1, mA 0]) :=
  (UpAt_in l hl hg _ (pla_ok (rgt_of hg) hi)).mono fun q h => h.trans (by rw [bet_joint (rgt_of hg) Jnt.up hi])
set_option maxRecDepth 100000 in
set_option maxHeartbeats 4000000 in
theorem lineBetween_many (l : Lin) (hf : fewL l = false) (p : Int) : FnOk Try.prog 3 [lnA l, mA p] (fun q => q = tbA true) := by
  refine fnOk_of (fn := Try.f3) 196 (by kernel_rfl) rfl (by kernel_rfl) (Nat.le_of_ble_eq_true rfl) ?_
  intro e_0 m_0 hA hm_0
  have s0_0 : evA e_0 (.tmp 0) = _ := hA 0 _ rfl
  have s1_0 : evA e_0 (.tmp 1) = _ := hA 1 _ rfl
  have ml_0 : m_0.length = 0 := by rw [hm_0]; rfl
  clear hA hm_0
  refine aw_seq ?_
  refine aw_text (by kernel_rfl) ?_
  refine al_stm (st_box s0_0 rfl ml_0) trivial rfl (fun m_1 hm_1 => ?_)
  have mo0_1 := m_push hm_1 ml_0
  have ml_1 := m_push_l hm_1 ml_0
  have ml_1 : _ = 1 := ml_1
  clear hm_1
  refine al_ro' (ro_assign ev_c) trivial rfl ?_
  refine al_end (fun e_2 he_2 => ?_)
  have s1_2 := ef 1 he_2 (u2 rfl s1_0)
  have s2_2 := ef 2 he_2 (up_m rfl up_h)
  clear he_2 s0_0 s1_0
  refine then_n ?_
  refine aw_seq ?_
  refine aw_seq ?_
  refine aw_text (by kernel_rfl) ?_
  refine al_ro' (ro_call evL_nil rfl (awake_ok) y35_hcf13) trivial rfl ?_
  refine al_ro' (ro_not up_h) trivial rfl ?_
  refine al_end (fun e_3 he_3 => ?_)
  have s1_3 := ef 1 he_3 (u2 rfl s1_2)
  have s2_3 := ef 2 he_3 (u2 rfl s2_2)
  have s22_3 := ef 22 he_3 up_h
  clear he_3 s1_2 s2_2
  refine then_n ?_
  refine aw_case s22_3 (fun hq_4 => ?_) (fun hq_4 => ?_)
  · replace hq_4 := bt' hq_4; cases hq_4
  replace hq_4 := bf' hq_4
  refine aw_skip ?_
  refine then_n ?_
  refine aw_seq ?_
  refine aw_seq ?_
  refine aw_text (by kernel_rfl) ?_
  refine al_ro' (ro_eq (ro_ld_ptr y35_ty26 rfl mo0_1 s2_3 (by exact Nat.le_of_ble_eq_true rfl)) (by simp only [packA_t, packA_f, iE, bE, setAt, cellsA, Value.cells, map_vc, map_vn, Nat.reduceAdd, qS, jnE, beE, Int.toNat_natCast, toNat_suc] <;> rfl)) trivial rfl ?_
  refine al_ro' (ro_call (evL_cons up_h evL_nil) rfl ((fewL_ok l).mono (fun q h => h.trans (by rw [hf]))) y35_hcf14) trivial rfl ?_
  refine al_ro' (ro_not up_h) trivial rfl ?_
  refine al_ro' (ro_move up_h) trivial rfl ?_
  refine al_case up_h (fun hb_5 hq_5 => ?_) (fun hb_5 hq_5 => ?_)
  ·replace hq_5 := bt' hq_5
   refine al_skip' ⟨_, rfl, .inl hb_5⟩ rfl ?_
   refine al_skip' ⟨_, rfl, .inl (up_m rfl hb_5)⟩ rfl ?_
   refine al_skip' ⟨_, rfl, .inl (u2 rfl hb_5)⟩ rfl ?_
   refine al_ro' (ro_pickT (up_m rfl (u2 rfl hb_5)) ev_c) trivial rfl ?_
   refine al_end (fun e_6 he_6 => ?_)
   have s1_6 := ef 1 he_6 (u8 rfl s1_3)
   have s2_6 := ef 2 he_6 (u8 rfl s2_3)
   have s30_6 := ef 30 he_6 up_h
   clear he_6 hb_5 s1_3 s22_3 s2_3
   refine then_n ?_
   refine aw_true s30_6 ?_
   refine aw_seq ?_
   refine aw_text (by kernel_rfl) ?_
   refine al_ro' (ro_assign ev_c) trivial rfl ?_
   refine al_end (fun e_8 he_8 => ?_)
   have s4_8 := ef 4 he_8 up_h
   clear he_8 s1_6 s2_6 s30_6
   refine then_n ?_
   refine aw_ret ?_
   refine then_r ?_
   refine ret1 (.inr rfl) (by kernel_rfl) (resV_tmp s4_8) (.ro _ rfl) ?_
   clear s4_8 mo0_1 ml_1
   first | rfl | simp_all
  · replace hq_5 := bf' hq_5; cases hq_5
set_option maxRecDepth 100000 in
set_option maxHeartbeats 4000000 in
theorem lineBetween_bad (l : Lin) (hf : fewL l = true) (hb : (linM l).2 ≠ 0) (p : Int) : FnOk Try.prog 3 [lnA l, mA p] (fun q => q = tbA true) := by
  refine fnOk_of (fn := Try.f3) 196 (by kernel_rfl) rfl (by kernel_rfl) (Nat.le_of_ble_eq_true rfl) ?_
  intro e_0 m_0 hA hm_0
  have s0_0 : evA e_0 (.tmp 0) = _ := hA 0 _ rfl
  have s1_0 : evA e_0 (.tmp 1) = _ := hA 1 _ rfl
  have ml_0 : m_0.length = 0 := by rw [hm_0]; rfl
  clear hA hm_0
  have hl := fewL_sho hf
  refine aw_seq ?_
  refine aw_text (by kernel_rfl) ?_
  refine al_stm (st_box s0_0 rfl ml_0) trivial rfl (fun m_1 hm_1 => ?_)
  have mo0_1 := m_push hm_1 ml_0
  have ml_1 := m_push_l hm_1 ml_0
  have ml_1 : _ = 1 := ml_1
  clear hm_1
  refine al_ro' (ro_assign ev_c) trivial rfl ?_
  refine al_end (fun e_2 he_2 => ?_)
  have s1_2 := ef 1 he_2 (u2 rfl s1_0)
  have s2_2 := ef 2 he_2 (up_m rfl up_h)
  clear he_2 s0_0 s1_0
  refine then_n ?_
  refine aw_seq ?_
  refine aw_seq ?_
  refine aw_text (by kernel_rfl) ?_
  refine al_ro' (ro_call evL_nil rfl (awake_ok) y35_hcf13) trivial rfl ?_
  refine al_ro' (ro_not up_h) trivial rfl ?_
  refine al_end (fun e_3 he_3 => ?_)
  have s1_3 := ef 1 he_3 (u2 rfl s1_2)
  have s2_3 := ef 2 he_3 (u2 rfl s2_2)
  have s22_3 := ef 22 he_3 up_h
  clear he_3 s1_2 s2_2
  refine then_n ?_
  refine aw_case s22_3 (fun hq_4 => ?_) (fun hq_4 => ?_)
  · cases hq_4
  replace hq_4 := bf' hq_4
  refine aw_skip ?_
  refine then_n ?_
  refine aw_seq ?_
  refine aw_seq ?_
  refine aw_text (by kernel_rfl) ?_
  refine al_ro' (ro_eq (ro_ld_ptr y35_ty26 rfl mo0_1 s2_3 (by exact Nat.le_of_ble_eq_true rfl)) (by simp only [packA_t, packA_f, iE, bE, setAt, cellsA, Value.cells, map_vc, map_vn, Nat.reduceAdd, qS, jnE, beE, Int.toNat_natCast, toNat_suc] <;> rfl)) trivial rfl ?_
  refine al_ro' (ro_call (evL_cons up_h evL_nil) rfl ((fewL_ok l).mono (fun q h => h.trans (by rw [hf]))) y35_hcf14) trivial rfl ?_
  refine al_ro' (ro_not up_h) trivial rfl ?_
  refine al_ro' (ro_move up_h) trivial rfl ?_
  refine al_case up_h (fun hb_5 hq_5 => ?_) (fun hb_5 hq_5 => ?_)
  · cases hq_5
  replace hq_5 := bf' hq_5
  refine al_ro' (ro_eq (ro_ld_ptr y35_ty26 rfl mo0_1 (u4 rfl s2_3) (by exact Nat.le_of_ble_eq_true rfl)) (by simp only [packA_t, packA_f, iE, bE, setAt, cellsA, Value.cells, map_vc, map_vn, Nat.reduceAdd, qS, jnE, beE, Int.toNat_natCast, toNat_suc] <;> rfl)) ⟨_, rfl, hb_5⟩ rfl ?_
  refine al_ro' (ro_call (evL_cons up_h evL_nil) rfl (lineErr_ok l hl) y35_hcf15) ⟨_, rfl, (up_m rfl hb_5)⟩ rfl ?_
  refine al_ro' (ro_neq up_h ev_c) ⟨_, rfl, (u2 rfl hb_5)⟩ rfl ?_
  refine al_ro' (ro_pickF (up_m rfl (u2 rfl hb_5)) up_h) trivial rfl ?_
  refine al_end (fun e_6 he_6 => ?_)
  have s1_6 := ef 1 he_6 (u8 rfl s1_3)
  have s2_6 := ef 2 he_6 (u8 rfl s2_3)
  have s30_6 := ef 30 he_6 up_h
  clear he_6 hb_5 s1_3 s22_3 s2_3
  refine then_n ?_
  refine aw_case s30_6 (fun hq_7 => ?_) (fun hq_7 => ?_)
  ·replace hq_7 := bnt hq_7
   refine aw_seq ?_
   refine aw_text (by kernel_rfl) ?_
   refine al_ro' (ro_assign ev_c) trivial rfl ?_
   refine al_end (fun e_8 he_8 => ?_)
   have s4_8 := ef 4 he_8 up_h
   clear he_8 s1_6 s2_6 s30_6
   refine then_n ?_
   refine aw_ret ?_
   refine then_r ?_
   refine ret1 (.inr rfl) (by kernel_rfl) (resV_tmp s4_8) (.ro _ rfl) ?_
   clear s4_8 mo0_1 ml_1
   first | rfl | simp_all
  · replace hq_7 := bnf hq_7; exfalso; omega
set_option maxRecDepth 100000 in
set_option maxHeartbeats 4000000 in
theorem lineBetween_out (l : Lin) (hf : fewL l = true) (hg : (linM l).2 = 0) (p : Int) (hm : plaE l p ≠ 0) : FnOk Try.prog 3 [lnA l, mA p] (fun q => q = tbA true) := by
  refine fnOk_of (fn := Try.f3) 196 (by kernel_rfl) rfl (by kernel_rfl) (Nat.le_of_ble_eq_true rfl) ?_
  intro e_0 m_0 hA hm_0
  have s0_0 : evA e_0 (.tmp 0) = _ := hA 0 _ rfl
  have s1_0 : evA e_0 (.tmp 1) = _ := hA 1 _ rfl
  have ml_0 : m_0.length = 0 := by rw [hm_0]; rfl
  clear hA hm_0
  have hl := fewL_sho hf; have hr := rgt_of hg; have hn0 := hr.n0; have hn1 := hr.n1; have hjs := hr.js; have he : plaE l p = 2 := (by unfold plaE unlessE at hm ⊢; cases hw : withinB p 0 (plaP l.bs l.bs.length) <;> simp_all)
  refine aw_seq ?_
  refine aw_text (by kernel_rfl) ?_
  refine al_stm (st_box s0_0 rfl ml_0) trivial rfl (fun m_1 hm_1 => ?_)
  have mo0_1 := m_push hm_1 ml_0
  have ml_1 := m_push_l hm_1 ml_0
  have ml_1 : _ = 1 := ml_1
  clear hm_1
  refine al_ro' (ro_assign ev_c) trivial rfl ?_
  refine al_end (fun e_2 he_2 => ?_)
  have s1_2 := ef 1 he_2 (u2 rfl s1_0)
  have s2_2 := ef 2 he_2 (up_m rfl up_h)
  clear he_2 s0_0 s1_0
  refine then_n ?_
  refine aw_seq ?_
  refine aw_seq ?_
  refine aw_text (by kernel_rfl) ?_
  refine al_ro' (ro_call evL_nil rfl (awake_ok) y35_hcf13) trivial rfl ?_
  refine al_ro' (ro_not up_h) trivial rfl ?_
  refine al_end (fun e_3 he_3 => ?_)
  have s1_3 := ef 1 he_3 (u2 rfl s1_2)
  have s2_3 := ef 2 he_3 (u2 rfl s2_2)
  have s22_3 := ef 22 he_3 up_h
  clear he_3 s1_2 s2_2
  refine then_n ?_
  refine aw_case s22_3 (fun hq_4 => ?_) (fun hq_4 => ?_)
  · cases hq_4
  replace hq_4 := bf' hq_4
  refine aw_skip ?_
  refine then_n ?_
  refine aw_seq ?_
  refine aw_seq ?_
  refine aw_text (by kernel_rfl) ?_
  refine al_ro' (ro_eq (ro_ld_ptr y35_ty26 rfl mo0_1 s2_3 (by exact Nat.le_of_ble_eq_true rfl)) (by simp only [packA_t, packA_f, iE, bE, setAt, cellsA, Value.cells, map_vc, map_vn, Nat.reduceAdd, qS, jnE, beE, Int.toNat_natCast, toNat_suc] <;> rfl)) trivial rfl ?_
  refine al_ro' (ro_call (evL_cons up_h evL_nil) rfl ((fewL_ok l).mono (fun q h => h.trans (by rw [hf]))) y35_hcf14) trivial rfl ?_
  refine al_ro' (ro_not up_h) trivial rfl ?_
  refine al_ro' (ro_move up_h) trivial rfl ?_
  refine al_case up_h (fun hb_5 hq_5 => ?_) (fun hb_5 hq_5 => ?_)
  · cases hq_5
  replace hq_5 := bf' hq_5
  refine al_ro' (ro_eq (ro_ld_ptr y35_ty26 rfl mo0_1 (u4 rfl s2_3) (by exact Nat.le_of_ble_eq_true rfl)) (by simp only [packA_t, packA_f, iE, bE, setAt, cellsA, Value.cells, map_vc, map_vn, Nat.reduceAdd, qS, jnE, beE, Int.toNat_natCast, toNat_suc] <;> rfl)) ⟨_, rfl, hb_5⟩ rfl ?_
  refine al_ro' (ro_call (evL_cons up_h evL_nil) rfl (lineErr_ok l hl) y35_hcf15) ⟨_, rfl, (up_m rfl hb_5)⟩ rfl ?_
  refine al_ro' (ro_neq up_h ev_c) ⟨_, rfl, (u2 rfl hb_5)⟩ rfl ?_
  refine al_ro' (ro_pickF (up_m rfl (u2 rfl hb_5)) up_h) trivial rfl ?_
  refine al_end (fun e_6 he_6 => ?_)
  have s1_6 := ef 1 he_6 (u8 rfl s1_3)
  have s2_6 := ef 2 he_6 (u8 rfl s2_3)
  have s30_6 := ef 30 he_6 up_h
  clear he_6 hb_5 s1_3 s22_3 s2_3
  refine then_n ?_
  refine aw_case s30_6 (fun hq_7 => ?_) (fun hq_7 => ?_)
  · replace hq_7 := bnt hq_7; exfalso; omega
  replace hq_7 := bnf hq_7
  refine aw_skip ?_
  refine then_n ?_
  refine aw_seq ?_
  refine aw_seq ?_
  refine aw_text (by kernel_rfl) ?_
  refine al_ro' (ro_assign ev_c) trivial rfl ?_
  refine al_end (fun e_8 he_8 => ?_)
  have s1_8 := ef 1 he_8 (up_m rfl s1_6)
  have s2_8 := ef 2 he_8 (up_m rfl s2_6)
  have s5_8 := ef 5 he_8 up_h
  clear he_8 s1_6 s2_6 s30_6
  refine then_n ?_
  refine aw_block ?_
  refine aw_loop (S := Int) (fun k e mem => (evA e (.tmp 5) = .v (.int .i64 k)) ∧ (evA e (.tmp 1) = evA e_8 (.tmp 1)) ∧ (evA e (.tmp 2) = evA e_8 (.tmp 2)) ∧ (mem[0]? = m_1[0]?) ∧ (∃ n, mem.length = n ∧ 1 ≤ n) ∧ ((0 ≤ k ∧ k ≤ l.js.length))) (fun k => (l.js.length - k).toNat) _ ⟨s5_8, rfl, rfl, rfl, ⟨_, ml_1, Nat.le_refl _⟩, ?_⟩ ?_
  · (exact ⟨by omega, by omega⟩)
  · rintro k e_9 m_9 ⟨s5_9, k1_9, k2_9, mk0_9, ⟨n_9, ml_9, hn_9⟩, hinv⟩
    have s1_9 := k1_9.trans s1_8
    have s2_9 := k2_9.trans s2_8
    have mo0_9 := mk0_9.trans mo0_1
    (obtain ⟨p1, p2⟩ := hinv)
    refine aw_seq ?_
    refine aw_seq ?_
    refine aw_text (by kernel_rfl) ?_
    refine al_ro' (ro_move s5_9) trivial rfl ?_
    refine al_ro' (ro_fld_ptr y35_fl26_1 rfl (up_m rfl s2_9)) trivial rfl ?_
    refine al_ro' (ro_eq (ro_ld_ptr y35_ty22 rfl mo0_9 up_h (by exact Nat.le_of_ble_eq_true rfl)) (by simp only [packA_t, packA_f, iE, bE, setAt, cellsA, Value.cells, map_vc, map_vn, Nat.reduceAdd, qS, jnE, beE, Int.toNat_natCast, toNat_suc] <;> rfl)) trivial rfl ?_
    refine al_ro' (ro_eq (ro_len_row up_h rfl y35_sl22.1) (by simp only [lnS] <;> rfl)) trivial rfl ?_
    refine al_ro' (ro_lss (up_m rfl (u2 rfl up_h)) up_h) trivial rfl ?_
    refine al_end (fun e_10 he_10 => ?_)
    have s1_10 := ef 1 he_10 (up_m rfl (u4 rfl s1_9))
    have s2_10 := ef 2 he_10 (up_m rfl (u4 rfl s2_9))
    have s5_10 := ef 5 he_10 (up_m rfl (u4 rfl s5_9))
    have s35_10 := ef 35 he_10 up_h
    clear he_10 s1_9 s2_9 s5_9
    refine then_n ?_
    refine aw_case s35_10 (fun hq_11 => ?_) (fun hq_11 => ?_)
    ·replace hq_11 := bt hq_11
     (have hk : k.toNat ≤ l.bs.length := (by omega); have pl := placeOf_in l hl hg k.toNat hk; rw [show ((k.toNat : Nat) : Int) = k by omega] at pl; have ac := acrossAt_joint l hl hg k.toNat hk; have up_ := upAt_joint l hl hg k.toNat hk)
     refine aw_skip ?_
     refine then_n ?_
     refine aw_seq ?_
     refine aw_block ?_
     refine aw_seq ?_
     refine aw_text (by kernel_rfl) ?_
     refine al_ro' (ro_eq (ro_ld_ptr y35_ty26 rfl mo0_9 s2_10 (by exact Nat.le_of_ble_eq_true rfl)) (by simp only [packA_t, packA_f, iE, bE, setAt, cellsA, Value.cells, map_vc, map_vn, Nat.reduceAdd, qS, jnE, beE, Int.toNat_natCast, toNat_suc] <;> rfl)) trivial rfl ?_
     refine al_ro' (ro_call (evL_cons up_h evL_nil) rfl (yCopy_ok l hl) y35_hcf17) trivial rfl ?_
     refine al_ro' (ro_move (u2 rfl s5_10)) trivial rfl ?_
     refine al_ro' (ro_call (evL_cons (up_m rfl up_h) (evL_cons up_h evL_nil)) rfl (pl) y35_hcf16) trivial rfl ?_
     refine al_ro' (ro_move up_h) trivial rfl ?_
     refine al_ro' (ro_extract up_h rfl) trivial rfl ?_
     refine al_ro' (ro_extract (up_m rfl up_h) rfl) trivial rfl ?_
     refine al_ro' (ro_assign (up_m rfl up_h)) trivial rfl ?_
     refine al_ro' (ro_assign (up_m rfl up_h)) trivial rfl ?_
     refine al_end (fun e_12 he_12 => ?_)
     have s1_12 := ef 1 he_12 (up_m rfl (u8 rfl s1_10))
     have s2_12 := ef 2 he_12 (up_m rfl (u8 rfl s2_10))
     have s5_12 := ef 5 he_12 (up_m rfl (u8 rfl s5_10))
     have s6_12 := ef 6 he_12 (up_m rfl up_h)
     have s7_12 := ef 7 he_12 up_h
     clear he_12 s1_10 s2_10 s35_10 s5_10
     refine then_n ?_
     refine aw_seq ?_
     refine aw_text (by kernel_rfl) ?_
     refine al_ro' (ro_eq (ro_ld_ptr y35_ty26 rfl mo0_9 s2_12 (by exact Nat.le_of_ble_eq_true rfl)) (by simp only [packA_t, packA_f, iE, bE, setAt, cellsA, Value.cells, map_vc, map_vn, Nat.reduceAdd, qS, jnE, beE, Int.toNat_natCast, toNat_suc] <;> rfl)) trivial rfl ?_
     refine al_ro' (ro_call (evL_cons up_h evL_nil) rfl (yCopy_ok l hl) y35_hcf17) trivial rfl ?_
     refine al_ro' (ro_move (u2 rfl s6_12)) trivial rfl ?_
     refine al_ro' (ro_call (evL_cons (up_m rfl up_h) (evL_cons up_h evL_nil)) rfl (ac) y35_hcf18) trivial rfl ?_
     refine al_ro' (ro_move up_h) trivial rfl ?_
     refine al_ro' (ro_extract up_h rfl) trivial rfl ?_
     refine al_ro' (ro_extract (up_m rfl up_h) rfl) trivial rfl ?_
     refine al_stm (st_alloc y35_az35 rfl ml_9) trivial rfl (fun m_13 hm_13 => ?_)
     have mon_9_13 := m_push hm_13 ml_9
     simp only [packA_t, packA_f, iE, bE, setAt, cellsA, Value.cells, map_vc, map_vn, Nat.reduceAdd, qS, jnE, beE, Int.toNat_natCast, toNat_suc] at mon_9_13
     have mo0_13 := m_push_o hm_13 mo0_9
     have ml_13 := m_push_l hm_13 ml_9
     clear hm_13 mo0_9
     refine al_stm (st_store up_h (u2 rfl up_h) rfl rfl mon_9_13 y35_sz35 rfl (by exact Nat.le_of_ble_eq_true rfl)) trivial rfl (fun m_14 hm_14 => ?_)
     have mon_9_14 := m_set hm_14 mon_9_13
     simp only [packA_t, packA_f, iE, bE, setAt, cellsA, Value.cells, map_vc, map_vn, Nat.reduceAdd, qS, jnE, beE, Int.toNat_natCast, toNat_suc] at mon_9_14
     have mo0_14 := m_set_o hm_14 mo0_13 (by omega)
     have ml_14 := m_set_l hm_14 ml_13
     clear hm_14 mon_9_13 mo0_13
     refine al_ro' (ro_assign (up_n (up_m rfl up_h))) trivial rfl ?_
     refine al_end (fun e_15 he_15 => ?_)
     have s1_15 := ef 1 he_15 (up_m rfl (up_n (u8 rfl s1_12)))
     have s2_15 := ef 2 he_15 (up_m rfl (up_n (u8 rfl s2_12)))
     have s5_15 := ef 5 he_15 (up_m rfl (up_n (u8 rfl s5_12)))
     have s6_15 := ef 6 he_15 (up_m rfl (up_n (u8 rfl s6_12)))
     have s7_15 := ef 7 he_15 (up_m rfl (up_n (u8 rfl s7_12)))
     have s8_15 := ef 8 he_15 (up_m rfl (up_n up_h))
     have s9_15 := ef 9 he_15 up_h
     clear he_15 s1_12 s2_12 s5_12 s6_12 s7_12
     refine then_n ?_
     refine aw_seq ?_
     refine aw_text (by kernel_rfl) ?_
     refine al_ro' (ro_eq (ro_ld_ptr y35_ty26 rfl mo0_14 s2_15 (by exact Nat.le_of_ble_eq_true rfl)) (by simp only [packA_t, packA_f, iE, bE, setAt, cellsA, Value.cells, map_vc, map_vn, Nat.reduceAdd, qS, jnE, beE, Int.toNat_natCast, toNat_suc] <;> rfl)) trivial rfl ?_
     refine al_ro' (ro_call (evL_cons up_h evL_nil) rfl (yCopy_ok l hl) y35_hcf17) trivial rfl ?_
     refine al_ro' (ro_move (u2 rfl s6_15)) trivial rfl ?_
     refine al_ro' (ro_call (evL_cons (up_m rfl up_h) (evL_cons up_h evL_nil)) rfl (up_) y35_hcf19) trivial rfl ?_
     refine al_ro' (ro_move up_h) trivial rfl ?_
     refine al_ro' (ro_extract up_h rfl) trivial rfl ?_
     refine al_ro' (ro_extract (up_m rfl up_h) rfl) trivial rfl ?_
     refine al_stm (st_alloc y35_az35 rfl ml_14) trivial rfl (fun m_16 hm_16 => ?_)
     have mon_9_1_16 := m_push hm_16 ml_14
     simp only [packA_t, packA_f, iE, bE, setAt, cellsA, Value.cells, map_vc, map_vn, Nat.reduceAdd, qS, jnE, beE, Int.toNat_natCast, toNat_suc] at mon_9_1_16
     have mon_9_16 := m_push_o hm_16 mon_9_14
     have mo0_16 := m_push_o hm_16 mo0_14
     have ml_16 := m_push_l hm_16 ml_14
     clear hm_16 mon_9_14 mo0_14
     refine al_stm (st_store up_h (u2 rfl up_h) rfl rfl mon_9_1_16 y35_sz35 rfl (by exact Nat.le_of_ble_eq_true rfl)) trivial rfl (fun m_17 hm_17 => ?_)
     have mon_9_1_17 := m_set hm_17 mon_9_1_16
     simp only [packA_t, packA_f, iE, bE, setAt, cellsA, Value.cells, map_vc, map_vn, Nat.reduceAdd, qS, jnE, beE, Int.toNat_natCast, toNat_suc] at mon_9_1_17
     have mon_9_17 := m_set_o hm_17 mon_9_16 (by omega)
     have mo0_17 := m_set_o hm_17 mo0_16 (by omega)
     have ml_17 := m_set_l hm_17 ml_16
     clear hm_17 mon_9_1_16 mon_9_16 mo0_16
     refine al_ro' (ro_assign (up_n (up_m rfl up_h))) trivial rfl ?_
     refine al_end (fun e_18 he_18 => ?_)
     have s1_18 := ef 1 he_18 (up_m rfl (up_n (u8 rfl s1_15)))
     have s2_18 := ef 2 he_18 (up_m rfl (up_n (u8 rfl s2_15)))
     have s5_18 := ef 5 he_18 (up_m rfl (up_n (u8 rfl s5_15)))
     have s7_18 := ef 7 he_18 (up_m rfl (up_n (u8 rfl s7_15)))
     have s8_18 := ef 8 he_18 (up_m rfl (up_n (u8 rfl s8_15)))
     have s9_18 := ef 9 he_18 (up_m rfl (up_n (u8 rfl s9_15)))
     have s10_18 := ef 10 he_18 (up_m rfl (up_n up_h))
     have s11_18 := ef 11 he_18 up_h
     clear he_18 s1_15 s2_15 s5_15 s6_15 s7_15 s8_15 s9_15
     refine then_n ?_
     refine aw_seq ?_
     refine aw_draw 32 (by kernel_rfl) (by kernel_rfl) (by kernel_rfl) (by kernel_rfl) ?_
     refine ds_ro' (ro_move s7_18) trivial rfl ?_
     refine ds_ro' (ro_neq up_h ev_c) trivial rfl ?_
     refine ds_ro' (ro_move up_h) trivial rfl ?_
     refine ds_case up_h (fun hb_19 hq_19 => ?_) (fun hb_19 hq_19 => ?_)
     · cases hq_19
     replace hq_19 := bnf hq_19
     refine ds_ro' (ro_move (up_m rfl (u2 rfl s9_18))) ⟨_, rfl, hb_19⟩ rfl ?_
     refine ds_ro' (ro_neq up_h ev_c) ⟨_, rfl, (up_m rfl hb_19)⟩ rfl ?_
     refine ds_ro' (ro_pickF (u2 rfl hb_19) up_h) trivial rfl ?_
     refine ds_ro' (ro_move up_h) trivial rfl ?_
     refine ds_case up_h (fun hb_20 hq_20 => ?_) (fun hb_20 hq_20 => ?_)
     · cases hq_20
     replace hq_20 := bnf hq_20
     refine ds_ro' (ro_move (up_m rfl (u2 rfl (u4 rfl s11_18)))) ⟨_, rfl, hb_20⟩ rfl ?_
     refine ds_ro' (ro_neq up_h ev_c) ⟨_, rfl, (up_m rfl hb_20)⟩ rfl ?_
     refine ds_ro' (ro_pickF (u2 rfl hb_20) up_h) trivial rfl ?_
     refine ds_ro' (ro_move up_h) trivial rfl ?_
     refine ds_case up_h (fun hb_21 hq_21 => ?_) (fun hb_21 hq_21 => ?_)
     · cases hq_21
     replace hq_21 := bnf hq_21
     refine ds_ro' (ro_eq (ro_ld_ptr y35_ty35 rfl mon_9_17 (up_m rfl (u2 rfl (u8 rfl s8_18))) (by exact Nat.le_of_ble_eq_true rfl)) (by simp only [packA_t, packA_f, iE, bE, setAt, cellsA, Value.cells, map_vc, map_vn, Nat.reduceAdd, qS, jnE, beE, Int.toNat_natCast, toNat_suc] <;> rfl)) ⟨_, rfl, hb_21⟩ rfl ?_
     refine ds_ro' (ro_fld_ptr y35_fl26_1 rfl (u4 rfl (u8 rfl s2_18))) ⟨_, rfl, (up_m rfl hb_21)⟩ rfl ?_
     refine ds_ro' (ro_eq (ro_ld_ptr y35_ty22 rfl mo0_17 up_h (by exact Nat.le_of_ble_eq_true rfl)) (by simp only [packA_t, packA_f, iE, bE, setAt, cellsA, Value.cells, map_vc, map_vn, Nat.reduceAdd, qS, jnE, beE, Int.toNat_natCast, toNat_suc] <;> rfl)) ⟨_, rfl, (u2 rfl hb_21)⟩ rfl ?_
     refine ds_ro' (ro_move (u2 rfl (u4 rfl (u8 rfl s5_18)))) ⟨_, rfl, (up_m rfl (u2 rfl hb_21))⟩ rfl ?_
     refine ds_ro' (ro_eq (ro_ix y35_sl22 (up_m rfl up_h) up_h (by omega) (by first | (refine idx_map ?_; first | omega | (simp only [lnS]; omega)) | (refine idx_mapI ?_; first | omega | (simp only [lnS]; omega)) | (refine idx_mapN ?_; first | omega | (simp only [lnS]; omega)) | rfl)) (by simp only [packA_t, packA_f, iE, bE, setAt, cellsA, Value.cells, map_vc, map_vn, Nat.reduceAdd, qS, jnE, beE, Int.toNat_natCast, toNat_suc] <;> rfl)) ⟨_, rfl, (u4 rfl hb_21)⟩ rfl ?_
     refine ds_ro' (ro_eq (ro_fld_ref y35_fl42_0 rfl up_h) (by simp only [packA_t, packA_f, iE, bE, setAt, cellsA, Value.cells, map_vc, map_vn, Nat.reduceAdd, qS, jnE, beE, Int.toNat_natCast, toNat_suc] <;> rfl)) ⟨_, rfl, (up_m rfl (u4 rfl hb_21))⟩ rfl ?_
     refine ds_ro' (ro_eq (ro_ld_ref y35_ty3 rfl up_h (by exact Nat.le_of_ble_eq_true rfl)) (by simp only [packA_t, packA_f, iE, bE, setAt, cellsA, Value.cells, map_vc, map_vn, Nat.reduceAdd, qS, jnE, beE, Int.toNat_natCast, toNat_suc] <;> rfl)) ⟨_, rfl, (u2 rfl (u4 rfl hb_21))⟩ rfl ?_
     refine ds_ro' (ro_call (evL_cons up_h evL_nil) rfl (whole_ok _) y35_hcf20) ⟨_, rfl, (up_m rfl (u2 rfl (u4 rfl hb_21)))⟩ rfl ?_
     refine ds_ro' (ro_sqneq (up_m rfl (u2 rfl (u4 rfl up_h))) up_h rfl rfl y35_gq35 y35_sq35 (by decide)) ⟨_, rfl, (u8 rfl hb_21)⟩ rfl ?_
     refine ds_ro' (ro_pickF (up_m rfl (u8 rfl hb_21)) up_h) trivial rfl ?_
     refine ds_ro' (ro_move up_h) trivial rfl ?_
     refine ds_case up_h (fun hb_22 hq_22 => ?_) (fun hb_22 hq_22 => ?_)
     · first | (simp at hq_22; done) | (exact absurd hg hq_22) | (exact absurd hq_22 hm) | (exact absurd hm hq_22) | (exact absurd hm (by simpa using hq_22)) | (exact absurd (by simpa using hq_22) hm) | (rw [hwi] at hq_22; simp at hq_22; done) | (rw [hwa] at hq_22; simp at hq_22; done)
     replace hq_22 := bf' hq_22
     refine ds_ro' (ro_eq (ro_ld_ptr y35_ty35 rfl mon_9_1_17 (u2 rfl (u4 rfl (u16 rfl s10_18))) (by exact Nat.le_of_ble_eq_true rfl)) (by simp only [packA_t, packA_f, iE, bE, setAt, cellsA, Value.cells, map_vc, map_vn, Nat.reduceAdd, qS, jnE, beE, Int.toNat_natCast, toNat_suc] <;> rfl)) ⟨_, rfl, hb_22⟩ rfl ?_
     refine ds_ro' (ro_fld_ptr y35_fl26_1 rfl (up_m rfl (u2 rfl (u4 rfl (u16 rfl s2_18))))) ⟨_, rfl, (up_m rfl hb_22)⟩ rfl ?_
     refine ds_ro' (ro_eq (ro_ld_ptr y35_ty22 rfl mo0_17 up_h (by exact Nat.le_of_ble_eq_true rfl)) (by simp only [packA_t, packA_f, iE, bE, setAt, cellsA, Value.cells, map_vc, map_vn, Nat.reduceAdd, qS, jnE, beE, Int.toNat_natCast, toNat_suc] <;> rfl)) ⟨_, rfl, (u2 rfl hb_22)⟩ rfl ?_
     refine ds_ro' (ro_move (up_m rfl (u8 rfl (u16 rfl s5_18)))) ⟨_, rfl, (up_m rfl (u2 rfl hb_22))⟩ rfl ?_
     refine ds_ro' (ro_eq (ro_ix y35_sl22 (up_m rfl up_h) up_h (by omega) (by first | (refine idx_map ?_; first | omega | (simp only [lnS]; omega)) | (refine idx_mapI ?_; first | omega | (simp only [lnS]; omega)) | (refine idx_mapN ?_; first | omega | (simp only [lnS]; omega)) | rfl)) (by simp only [packA_t, packA_f, iE, bE, setAt, cellsA, Value.cells, map_vc, map_vn, Nat.reduceAdd, qS, jnE, beE, Int.toNat_natCast, toNat_suc] <;> rfl)) ⟨_, rfl, (u4 rfl hb_22)⟩ rfl ?_
     refine ds_ro' (ro_eq (ro_fld_ref y35_fl42_1 rfl up_h) (by simp only [packA_t, packA_f, iE, bE, setAt, cellsA, Value.cells, map_vc, map_vn, Nat.reduceAdd, qS, jnE, beE, Int.toNat_natCast, toNat_suc] <;> rfl)) ⟨_, rfl, (up_m rfl (u4 rfl hb_22))⟩ rfl ?_
     refine ds_ro' (ro_eq (ro_ld_ref y35_ty3 rfl up_h (by exact Nat.le_of_ble_eq_true rfl)) (by simp only [packA_t, packA_f, iE, bE, setAt, cellsA, Value.cells, map_vc, map_vn, Nat.reduceAdd, qS, jnE, beE, Int.toNat_natCast, toNat_suc] <;> rfl)) ⟨_, rfl, (u2 rfl (u4 rfl hb_22))⟩ rfl ?_
     refine ds_ro' (ro_call (evL_cons up_h evL_nil) rfl (whole_ok _) y35_hcf20) ⟨_, rfl, (up_m rfl (u2 rfl (u4 rfl hb_22)))⟩ rfl ?_
     refine ds_ro' (ro_sqneq (up_m rfl (u2 rfl (u4 rfl up_h))) up_h rfl rfl y35_gq35 y35_sq35 (by decide)) ⟨_, rfl, (u8 rfl hb_22)⟩ rfl ?_
     refine ds_ro' (ro_pickF (up_m rfl (u8 rfl hb_22)) up_h) trivial rfl ?_
     refine ds_nil ?_
     refine al_end (fun e_23 he_23 => ?_)
     have s1_23 := ef 1 he_23 (u16 rfl (u16 rfl s1_18))
     have s2_23 := ef 2 he_23 (u16 rfl (u16 rfl s2_18))
     have s5_23 := ef 5 he_23 (u16 rfl (u16 rfl s5_18))
     have s90_23 := ef 90 he_23 up_h
     clear he_23 hb_19 hb_20 hb_21 hb_22 s10_18 s11_18 s1_18 s2_18 s5_18 s7_18 s8_18 s9_18
     refine then_n ?_
     refine aw_case s90_23 (fun hq_24 => ?_) (fun hq_24 => ?_)
     · first | (simp at hq_24; done) | (exact absurd hg hq_24) | (exact absurd hq_24 hm) | (exact absurd hm hq_24) | (exact absurd hm (by simpa using hq_24)) | (exact absurd (by simpa using hq_24) hm) | (rw [hwi] at hq_24; simp at hq_24; done) | (rw [hwa] at hq_24; simp at hq_24; done)
     replace hq_24 := bf' hq_24
     refine aw_skip ?_
     refine block_n ?_
     refine then_n ?_
     refine aw_text (by kernel_rfl) ?_
     refine al_ro' (ro_move s5_23) trivial rfl ?_
     (refine al_ro' (ro_add' up_h ev_c ?_) trivial rfl ?_; · (unfold In64; omega))
     refine al_ro' (ro_assign up_h) trivial rfl ?_
     refine al_end (fun e_25 he_25 => ?_)
     have s1_25 := ef 1 he_25 (up_m rfl (u2 rfl s1_23))
     have s2_25 := ef 2 he_25 (up_m rfl (u2 rfl s2_23))
     have s5_25 := ef 5 he_25 up_h
     clear he_25 s1_23 s2_23 s5_23 s90_23
     refine then_n ?_
     refine ⟨_, ⟨s5_25, (s1_25.trans s1_8.symm), (s2_25.trans s2_8.symm), (mo0_17.trans mo0_1.symm), ⟨_, ml_17, by omega⟩, ?_⟩, ?_⟩
     · (exact ⟨by omega, by omega⟩)
     · ((try dsimp only); omega)
    replace hq_11 := bf hq_11
    refine aw_exit ?_
    refine then_x ?_
    refine then_x ?_
    refine block_hit ?_
    refine then_n ?_
    refine aw_seq ?_
    refine aw_text (by kernel_rfl) ?_
    refine al_ro' (ro_eq (ro_ld_ptr y35_ty26 rfl mo0_9 s2_10 (by exact Nat.le_of_ble_eq_true rfl)) (by simp only [packA_t, packA_f, iE, bE, setAt, cellsA, Value.cells, map_vc, map_vn, Nat.reduceAdd, qS, jnE, beE, Int.toNat_natCast, toNat_suc] <;> rfl)) trivial rfl ?_
    refine al_ro' (ro_call (evL_cons up_h evL_nil) rfl (yCopy_ok l hl) y35_hcf17) trivial rfl ?_
    refine al_ro' (ro_move (u2 rfl s1_10)) trivial rfl ?_
    refine al_ro' (ro_call (evL_cons (up_m rfl up_h) (evL_cons up_h evL_nil)) rfl (beamAt_out l hl hg p hm) y35_hcf21) trivial rfl ?_
    refine al_ro' (ro_move up_h) trivial rfl ?_
    refine al_ro' (ro_extract up_h rfl) trivial rfl ?_
    refine al_ro' (ro_extract (up_m rfl up_h) rfl) trivial rfl ?_
    refine al_ro' (ro_extract (u2 rfl up_h) rfl) trivial rfl ?_
    refine al_ro' (ro_assign (u2 rfl up_h)) trivial rfl ?_
    refine al_ro' (ro_assign (u2 rfl up_h)) trivial rfl ?_
    refine al_ro' (ro_assign (u2 rfl up_h)) trivial rfl ?_
    refine al_end (fun e_26 he_26 => ?_)
    have s1_26 := ef 1 he_26 (up_m rfl (u2 rfl (u8 rfl s1_10)))
    have s2_26 := ef 2 he_26 (up_m rfl (u2 rfl (u8 rfl s2_10)))
    have s12_26 := ef 12 he_26 (u2 rfl up_h)
    have s13_26 := ef 13 he_26 (up_m rfl up_h)
    have s14_26 := ef 14 he_26 up_h
    clear he_26 s1_10 s2_10 s35_10 s5_10
    refine then_n ?_
    refine aw_seq ?_
    refine aw_seq ?_
    refine aw_text (by kernel_rfl) ?_
    refine al_ro' (ro_move s14_26) trivial rfl ?_
    refine al_ro' (ro_neq up_h ev_c) trivial rfl ?_
    refine al_end (fun e_27 he_27 => ?_)
    have s1_27 := ef 1 he_27 (u2 rfl s1_26)
    have s2_27 := ef 2 he_27 (u2 rfl s2_26)
    have s12_27 := ef 12 he_27 (u2 rfl s12_26)
    have s13_27 := ef 13 he_27 (u2 rfl s13_26)
    have s14_27 := ef 14 he_27 (u2 rfl s14_26)
    have s100_27 := ef 100 he_27 up_h
    clear he_27 s12_26 s13_26 s14_26 s1_26 s2_26
    refine then_n ?_
    refine aw_case s100_27 (fun hq_28 => ?_) (fun hq_28 => ?_)
    ·replace hq_28 := bnt hq_28
     refine aw_seq ?_
     refine aw_text (by kernel_rfl) ?_
     refine al_ro' (ro_move s14_27) trivial rfl ?_
     refine al_ro' (ro_eql up_h ev_c) trivial rfl ?_
     refine al_ro' (ro_move up_h) trivial rfl ?_
     refine al_case up_h (fun hb_29 hq_29 => ?_) (fun hb_29 hq_29 => ?_)
     ·replace hq_29 := bt hq_29
      refine al_ro' (ro_move (up_m rfl (u2 rfl s12_27))) ⟨_, rfl, hb_29⟩ rfl ?_
      refine al_ro' (ro_eql up_h ev_c) ⟨_, rfl, (up_m rfl hb_29)⟩ rfl ?_
      refine al_ro' (ro_pickT (u2 rfl hb_29) up_h) trivial rfl ?_
      refine al_ro' (ro_move up_h) trivial rfl ?_
      refine al_case up_h (fun hb_30 hq_30 => ?_) (fun hb_30 hq_30 => ?_)
      ·replace hq_30 := bt hq_30
       refine al_ro' (ro_move (up_m rfl (u2 rfl (u4 rfl s13_27)))) ⟨_, rfl, hb_30⟩ rfl ?_
       refine al_ro' (ro_eql up_h ev_c) ⟨_, rfl, (up_m rfl hb_30)⟩ rfl ?_
       refine al_ro' (ro_pickT (u2 rfl hb_30) up_h) trivial rfl ?_
       refine al_ro' (ro_assign up_h) trivial rfl ?_
       refine al_end (fun e_31 he_31 => ?_)
       have s4_31 := ef 4 he_31 up_h
       clear he_31 hb_29 hb_30 s100_27 s12_27 s13_27 s14_27 s1_27 s2_27
       refine then_n ?_
       refine aw_ret ?_
       refine then_r ?_
       refine ret1 (.inr rfl) (by kernel_rfl) (resV_tmp s4_31) (.ro _ rfl) ?_
       clear s4_31 mo0_9 ml_9
       first | rfl | simp_all
      · cases hq_30
     · replace hq_29 := bf hq_29; exfalso; omega
    · replace hq_28 := bnf hq_28; exfalso; omega
set_option maxRecDepth 100000 in
set_option maxHeartbeats 4000000 in
theorem lineBetween_in (l : Lin) (hf : fewL l = true) (hg : (linM l).2 = 0) (p : Int) (hm : plaE l p = 0) : FnOk Try.prog 3 [lnA l, mA p] (fun q => q = tbA true) := by
  refine fnOk_of (fn := Try.f3) 196 (by kernel_rfl) rfl (by kernel_rfl) (Nat.le_of_ble_eq_true rfl) ?_
  intro e_0 m_0 hA hm_0
  have s0_0 : evA e_0 (.tmp 0) = _ := hA 0 _ rfl
  have s1_0 : evA e_0 (.tmp 1) = _ := hA 1 _ rfl
  have ml_0 : m_0.length = 0 := by rw [hm_0]; rfl
  clear hA hm_0
  have hl := fewL_sho hf; have hr := rgt_of hg; have hn0 := hr.n0; have hn1 := hr.n1; have hjs := hr.js; have hp := plaE_z.1 hm; obtain ⟨a1, a2, a3⟩ := at_bd hr hp; have j1 := hr.jnt (atI l p) (by omega); have j2 := hr.jnt (atI l p + 1) (by omega); have b1 := hr.bea (atI l p) a1; have hwi : withinB (atI l p) 0 (l.bs.length - 1) = true := withinB_iff.2 (by omega); have hwa : withinB (atD l p) 0 (l.bs.getD (atI l p) default).len = true := withinB_iff.2 (by omega)
  refine aw_seq ?_
  refine aw_text (by kernel_rfl) ?_
  refine al_stm (st_box s0_0 rfl ml_0) trivial rfl (fun m_1 hm_1 => ?_)
  have mo0_1 := m_push hm_1 ml_0
  have ml_1 := m_push_l hm_1 ml_0
  have ml_1 : _ = 1 := ml_1
  clear hm_1
  refine al_ro' (ro_assign ev_c) trivial rfl ?_
  refine al_end (fun e_2 he_2 => ?_)
  have s1_2 := ef 1 he_2 (u2 rfl s1_0)
  have s2_2 := ef 2 he_2 (up_m rfl up_h)
  clear he_2 s0_0 s1_0
  refine then_n ?_
  refine aw_seq ?_
  refine aw_seq ?_
  refine aw_text (by kernel_rfl) ?_
  refine al_ro' (ro_call evL_nil rfl (awake_ok) y35_hcf13) trivial rfl ?_
  refine al_ro' (ro_not up_h) trivial rfl ?_
  refine al_end (fun e_3 he_3 => ?_)
  have s1_3 := ef 1 he_3 (u2 rfl s1_2)
  have s2_3 := ef 2 he_3 (u2 rfl s2_2)
  have s22_3 := ef 22 he_3 up_h
  clear he_3 s1_2 s2_2
  refine then_n ?_
  refine aw_case s22_3 (fun hq_4 => ?_) (fun hq_4 => ?_)
  · cases hq_4
  replace hq_4 := bf' hq_4
  refine aw_skip ?_
  refine then_n ?_
  refine aw_seq ?_
  refine aw_seq ?_
  refine aw_text (by kernel_rfl) ?_
  refine al_ro' (ro_eq (ro_ld_ptr y35_ty26 rfl mo0_1 s2_3 (by exact Nat.le_of_ble_eq_true rfl)) (by simp only [packA_t, packA_f, iE, bE, setAt, cellsA, Value.cells, map_vc, map_vn, Nat.reduceAdd, qS, jnE, beE, Int.toNat_natCast, toNat_suc] <;> rfl)) trivial rfl ?_
  refine al_ro' (ro_call (evL_cons up_h evL_nil) rfl ((fewL_ok l).mono (fun q h => h.trans (by rw [hf]))) y35_hcf14) trivial rfl ?_
  refine al_ro' (ro_not up_h) trivial rfl ?_
  refine al_ro' (ro_move up_h) trivial rfl ?_
  refine al_case up_h (fun hb_5 hq_5 => ?_) (fun hb_5 hq_5 => ?_)
  · cases hq_5
  replace hq_5 := bf' hq_5
  refine al_ro' (ro_eq (ro_ld_ptr y35_ty26 rfl mo0_1 (u4 rfl s2_3) (by exact Nat.le_of_ble_eq_true rfl)) (by simp only [packA_t, packA_f, iE, bE, setAt, cellsA, Value.cells, map_vc, map_vn, Nat.reduceAdd, qS, jnE, beE, Int.toNat_natCast, toNat_suc] <;> rfl)) ⟨_, rfl, hb_5⟩ rfl ?_
  refine al_ro' (ro_call (evL_cons up_h evL_nil) rfl (lineErr_ok l hl) y35_hcf15) ⟨_, rfl, (up_m rfl hb_5)⟩ rfl ?_
  refine al_ro' (ro_neq up_h ev_c) ⟨_, rfl, (u2 rfl hb_5)⟩ rfl ?_
  refine al_ro' (ro_pickF (up_m rfl (u2 rfl hb_5)) up_h) trivial rfl ?_
  refine al_end (fun e_6 he_6 => ?_)
  have s1_6 := ef 1 he_6 (u8 rfl s1_3)
  have s2_6 := ef 2 he_6 (u8 rfl s2_3)
  have s30_6 := ef 30 he_6 up_h
  clear he_6 hb_5 s1_3 s22_3 s2_3
  refine then_n ?_
  refine aw_case s30_6 (fun hq_7 => ?_) (fun hq_7 => ?_)
  · replace hq_7 := bnt hq_7; exfalso; omega
  replace hq_7 := bnf hq_7
  refine aw_skip ?_
  refine then_n ?_
  refine aw_seq ?_
  refine aw_seq ?_
  refine aw_text (by kernel_rfl) ?_
  refine al_ro' (ro_assign ev_c) trivial rfl ?_
  refine al_end (fun e_8 he_8 => ?_)
  have s1_8 := ef 1 he_8 (up_m rfl s1_6)
  have s2_8 := ef 2 he_8 (up_m rfl s2_6)
  have s5_8 := ef 5 he_8 up_h
  clear he_8 s1_6 s2_6 s30_6
  refine then_n ?_
  refine aw_block ?_
  refine aw_loop (S := Int) (fun k e mem => (evA e (.tmp 5) = .v (.int .i64 k)) ∧ (evA e (.tmp 1) = evA e_8 (.tmp 1)) ∧ (evA e (.tmp 2) = evA e_8 (.tmp 2)) ∧ (mem[0]? = m_1[0]?) ∧ (∃ n, mem.length = n ∧ 1 ≤ n) ∧ ((0 ≤ k ∧ k ≤ l.js.length))) (fun k => (l.js.length - k).toNat) _ ⟨s5_8, rfl, rfl, rfl, ⟨_, ml_1, Nat.le_refl _⟩, ?_⟩ ?_
  · (exact ⟨by omega, by omega⟩)
  · rintro k e_9 m_9 ⟨s5_9, k1_9, k2_9, mk0_9, ⟨n_9, ml_9, hn_9⟩, hinv⟩
    have s1_9 := k1_9.trans s1_8
    have s2_9 := k2_9.trans s2_8
    have mo0_9 := mk0_9.trans mo0_1
    (obtain ⟨p1, p2⟩ := hinv)
    refine aw_seq ?_
    refine aw_seq ?_
    refine aw_text (by kernel_rfl) ?_
    refine al_ro' (ro_move s5_9) trivial rfl ?_
    refine al_ro' (ro_fld_ptr y35_fl26_1 rfl (up_m rfl s2_9)) trivial rfl ?_
    refine al_ro' (ro_eq (ro_ld_ptr y35_ty22 rfl mo0_9 up_h (by exact Nat.le_of_ble_eq_true rfl)) (by simp only [packA_t, packA_f, iE, bE, setAt, cellsA, Value.cells, map_vc, map_vn, Nat.reduceAdd, qS, jnE, beE, Int.toNat_natCast, toNat_suc] <;> rfl)) trivial rfl ?_
    refine al_ro' (ro_eq (ro_len_row up_h rfl y35_sl22.1) (by simp only [lnS] <;> rfl)) trivial rfl ?_
    refine al_ro' (ro_lss (up_m rfl (u2 rfl up_h)) up_h) trivial rfl ?_
    refine al_end (fun e_10 he_10 => ?_)
    have s1_10 := ef 1 he_10 (up_m rfl (u4 rfl s1_9))
    have s2_10 := ef 2 he_10 (up_m rfl (u4 rfl s2_9))
    have s5_10 := ef 5 he_10 (up_m rfl (u4 rfl s5_9))
    have s35_10 := ef 35 he_10 up_h
    clear he_10 s1_9 s2_9 s5_9
    refine then_n ?_
    refine aw_case s35_10 (fun hq_11 => ?_) (fun hq_11 => ?_)
    ·replace hq_11 := bt hq_11
     (have hk : k.toNat ≤ l.bs.length := (by omega); have pl := placeOf_in l hl hg k.toNat hk; rw [show ((k.toNat : Nat) : Int) = k by omega] at pl; have ac := acrossAt_joint l hl hg k.toNat hk; have up_ := upAt_joint l hl hg k.toNat hk)
     refine aw_skip ?_
     refine then_n ?_
     refine aw_seq ?_
     refine aw_block ?_
     refine aw_seq ?_
     refine aw_text (by kernel_rfl) ?_
     refine al_ro' (ro_eq (ro_ld_ptr y35_ty26 rfl mo0_9 s2_10 (by exact Nat.le_of_ble_eq_true rfl)) (by simp only [packA_t, packA_f, iE, bE, setAt, cellsA, Value.cells, map_vc, map_vn, Nat.reduceAdd, qS, jnE, beE, Int.toNat_natCast, toNat_suc] <;> rfl)) trivial rfl ?_
     refine al_ro' (ro_call (evL_cons up_h evL_nil) rfl (yCopy_ok l hl) y35_hcf17) trivial rfl ?_
     refine al_ro' (ro_move (u2 rfl s5_10)) trivial rfl ?_
     refine al_ro' (ro_call (evL_cons (up_m rfl up_h) (evL_cons up_h evL_nil)) rfl (pl) y35_hcf16) trivial rfl ?_
     refine al_ro' (ro_move up_h) trivial rfl ?_
     refine al_ro' (ro_extract up_h rfl) trivial rfl ?_
     refine al_ro' (ro_extract (up_m rfl up_h) rfl) trivial rfl ?_
     refine al_ro' (ro_assign (up_m rfl up_h)) trivial rfl ?_
     refine al_ro' (ro_assign (up_m rfl up_h)) trivial rfl ?_
     refine al_end (fun e_12 he_12 => ?_)
     have s1_12 := ef 1 he_12 (up_m rfl (u8 rfl s1_10))
     have s2_12 := ef 2 he_12 (up_m rfl (u8 rfl s2_10))
     have s5_12 := ef 5 he_12 (up_m rfl (u8 rfl s5_10))
     have s6_12 := ef 6 he_12 (up_m rfl up_h)
     have s7_12 := ef 7 he_12 up_h
     clear he_12 s1_10 s2_10 s35_10 s5_10
     refine then_n ?_
     refine aw_seq ?_
     refine aw_text (by kernel_rfl) ?_
     refine al_ro' (ro_eq (ro_ld_ptr y35_ty26 rfl mo0_9 s2_12 (by exact Nat.le_of_ble_eq_true rfl)) (by simp only [packA_t, packA_f, iE, bE, setAt, cellsA, Value.cells, map_vc, map_vn, Nat.reduceAdd, qS, jnE, beE, Int.toNat_natCast, toNat_suc] <;> rfl)) trivial rfl ?_
     refine al_ro' (ro_call (evL_cons up_h evL_nil) rfl (yCopy_ok l hl) y35_hcf17) trivial rfl ?_
     refine al_ro' (ro_move (u2 rfl s6_12)) trivial rfl ?_
     refine al_ro' (ro_call (evL_cons (up_m rfl up_h) (evL_cons up_h evL_nil)) rfl (ac) y35_hcf18) trivial rfl ?_
     refine al_ro' (ro_move up_h) trivial rfl ?_
     refine al_ro' (ro_extract up_h rfl) trivial rfl ?_
     refine al_ro' (ro_extract (up_m rfl up_h) rfl) trivial rfl ?_
     refine al_stm (st_alloc y35_az35 rfl ml_9) trivial rfl (fun m_13 hm_13 => ?_)
     have mon_9_13 := m_push hm_13 ml_9
     simp only [packA_t, packA_f, iE, bE, setAt, cellsA, Value.cells, map_vc, map_vn, Nat.reduceAdd, qS, jnE, beE, Int.toNat_natCast, toNat_suc] at mon_9_13
     have mo0_13 := m_push_o hm_13 mo0_9
     have ml_13 := m_push_l hm_13 ml_9
     clear hm_13 mo0_9
     refine al_stm (st_store up_h (u2 rfl up_h) rfl rfl mon_9_13 y35_sz35 rfl (by exact Nat.le_of_ble_eq_true rfl)) trivial rfl (fun m_14 hm_14 => ?_)
     have mon_9_14 := m_set hm_14 mon_9_13
     simp only [packA_t, packA_f, iE, bE, setAt, cellsA, Value.cells, map_vc, map_vn, Nat.reduceAdd, qS, jnE, beE, Int.toNat_natCast, toNat_suc] at mon_9_14
     have mo0_14 := m_set_o hm_14 mo0_13 (by omega)
     have ml_14 := m_set_l hm_14 ml_13
     clear hm_14 mon_9_13 mo0_13
     refine al_ro' (ro_assign (up_n (up_m rfl up_h))) trivial rfl ?_
     refine al_end (fun e_15 he_15 => ?_)
     have s1_15 := ef 1 he_15 (up_m rfl (up_n (u8 rfl s1_12)))
     have s2_15 := ef 2 he_15 (up_m rfl (up_n (u8 rfl s2_12)))
     have s5_15 := ef 5 he_15 (up_m rfl (up_n (u8 rfl s5_12)))
     have s6_15 := ef 6 he_15 (up_m rfl (up_n (u8 rfl s6_12)))
     have s7_15 := ef 7 he_15 (up_m rfl (up_n (u8 rfl s7_12)))
     have s8_15 := ef 8 he_15 (up_m rfl (up_n up_h))
     have s9_15 := ef 9 he_15 up_h
     clear he_15 s1_12 s2_12 s5_12 s6_12 s7_12
     refine then_n ?_
     refine aw_seq ?_
     refine aw_text (by kernel_rfl) ?_
     refine al_ro' (ro_eq (ro_ld_ptr y35_ty26 rfl mo0_14 s2_15 (by exact Nat.le_of_ble_eq_true rfl)) (by simp only [packA_t, packA_f, iE, bE, setAt, cellsA, Value.cells, map_vc, map_vn, Nat.reduceAdd, qS, jnE, beE, Int.toNat_natCast, toNat_suc] <;> rfl)) trivial rfl ?_
     refine al_ro' (ro_call (evL_cons up_h evL_nil) rfl (yCopy_ok l hl) y35_hcf17) trivial rfl ?_
     refine al_ro' (ro_move (u2 rfl s6_15)) trivial rfl ?_
     refine al_ro' (ro_call (evL_cons (up_m rfl up_h) (evL_cons up_h evL_nil)) rfl (up_) y35_hcf19) trivial rfl ?_
     refine al_ro' (ro_move up_h) trivial rfl ?_
     refine al_ro' (ro_extract up_h rfl) trivial rfl ?_
     refine al_ro' (ro_extract (up_m rfl up_h) rfl) trivial rfl ?_
     refine al_stm (st_alloc y35_az35 rfl ml_14) trivial rfl (fun m_16 hm_16 => ?_)
     have mon_9_1_16 := m_push hm_16 ml_14
     simp only [packA_t, packA_f, iE, bE, setAt, cellsA, Value.cells, map_vc, map_vn, Nat.reduceAdd, qS, jnE, beE, Int.toNat_natCast, toNat_suc] at mon_9_1_16
     have mon_9_16 := m_push_o hm_16 mon_9_14
     have mo0_16 := m_push_o hm_16 mo0_14
     have ml_16 := m_push_l hm_16 ml_14
     clear hm_16 mon_9_14 mo0_14
     refine al_stm (st_store up_h (u2 rfl up_h) rfl rfl mon_9_1_16 y35_sz35 rfl (by exact Nat.le_of_ble_eq_true rfl)) trivial rfl (fun m_17 hm_17 => ?_)
     have mon_9_1_17 := m_set hm_17 mon_9_1_16
     simp only [packA_t, packA_f, iE, bE, setAt, cellsA, Value.cells, map_vc, map_vn, Nat.reduceAdd, qS, jnE, beE, Int.toNat_natCast, toNat_suc] at mon_9_1_17
     have mon_9_17 := m_set_o hm_17 mon_9_16 (by omega)
     have mo0_17 := m_set_o hm_17 mo0_16 (by omega)
     have ml_17 := m_set_l hm_17 ml_16
     clear hm_17 mon_9_1_16 mon_9_16 mo0_16
     refine al_ro' (ro_assign (up_n (up_m rfl up_h))) trivial rfl ?_
     refine al_end (fun e_18 he_18 => ?_)
     have s1_18 := ef 1 he_18 (up_m rfl (up_n (u8 rfl s1_15)))
     have s2_18 := ef 2 he_18 (up_m rfl (up_n (u8 rfl s2_15)))
     have s5_18 := ef 5 he_18 (up_m rfl (up_n (u8 rfl s5_15)))
     have s7_18 := ef 7 he_18 (up_m rfl (up_n (u8 rfl s7_15)))
     have s8_18 := ef 8 he_18 (up_m rfl (up_n (u8 rfl s8_15)))
     have s9_18 := ef 9 he_18 (up_m rfl (up_n (u8 rfl s9_15)))
     have s10_18 := ef 10 he_18 (up_m rfl (up_n up_h))
     have s11_18 := ef 11 he_18 up_h
     clear he_18 s1_15 s2_15 s5_15 s6_15 s7_15 s8_15 s9_15
     refine then_n ?_
     refine aw_seq ?_
     refine aw_draw 32 (by kernel_rfl) (by kernel_rfl) (by kernel_rfl) (by kernel_rfl) ?_
     refine ds_ro' (ro_move s7_18) trivial rfl ?_
     refine ds_ro' (ro_neq up_h ev_c) trivial rfl ?_
     refine ds_ro' (ro_move up_h) trivial rfl ?_
     refine ds_case up_h (fun hb_19 hq_19 => ?_) (fun hb_19 hq_19 => ?_)
     · cases hq_19
     replace hq_19 := bnf hq_19
     refine ds_ro' (ro_move (up_m rfl (u2 rfl s9_18))) ⟨_, rfl, hb_19⟩ rfl ?_
     refine ds_ro' (ro_neq up_h ev_c) ⟨_, rfl, (up_m rfl hb_19)⟩ rfl ?_
     refine ds_ro' (ro_pickF (u2 rfl hb_19) up_h) trivial rfl ?_
     refine ds_ro' (ro_move up_h) trivial rfl ?_
     refine ds_case up_h (fun hb_20 hq_20 => ?_) (fun hb_20 hq_20 => ?_)
     · cases hq_20
     replace hq_20 := bnf hq_20
     refine ds_ro' (ro_move (up_m rfl (u2 rfl (u4 rfl s11_18)))) ⟨_, rfl, hb_20⟩ rfl ?_
     refine ds_ro' (ro_neq up_h ev_c) ⟨_, rfl, (up_m rfl hb_20)⟩ rfl ?_
     refine ds_ro' (ro_pickF (u2 rfl hb_20) up_h) trivial rfl ?_
     refine ds_ro' (ro_move up_h) trivial rfl ?_
     refine ds_case up_h (fun hb_21 hq_21 => ?_) (fun hb_21 hq_21 => ?_)
     · cases hq_21
     replace hq_21 := bnf hq_21
     refine ds_ro' (ro_eq (ro_ld_ptr y35_ty35 rfl mon_9_17 (up_m rfl (u2 rfl (u8 rfl s8_18))) (by exact Nat.le_of_ble_eq_true rfl)) (by simp only [packA_t, packA_f, iE, bE, setAt, cellsA, Value.cells, map_vc, map_vn, Nat.reduceAdd, qS, jnE, beE, Int.toNat_natCast, toNat_suc] <;> rfl)) ⟨_, rfl, hb_21⟩ rfl ?_
     refine ds_ro' (ro_fld_ptr y35_fl26_1 rfl (u4 rfl (u8 rfl s2_18))) ⟨_, rfl, (up_m rfl hb_21)⟩ rfl ?_
     refine ds_ro' (ro_eq (ro_ld_ptr y35_ty22 rfl mo0_17 up_h (by exact Nat.le_of_ble_eq_true rfl)) (by simp only [packA_t, packA_f, iE, bE, setAt, cellsA, Value.cells, map_vc, map_vn, Nat.reduceAdd, qS, jnE, beE, Int.toNat_natCast, toNat_suc] <;> rfl)) ⟨_, rfl, (u2 rfl hb_21)⟩ rfl ?_
     refine ds_ro' (ro_move (u2 rfl (u4 rfl (u8 rfl s5_18)))) ⟨_, rfl, (up_m rfl (u2 rfl hb_21))⟩ rfl ?_
     refine ds_ro' (ro_eq (ro_ix y35_sl22 (up_m rfl up_h) up_h (by omega) (by first | (refine idx_map ?_; first | omega | (simp only [lnS]; omega)) | (refine idx_mapI ?_; first | omega | (simp only [lnS]; omega)) | (refine idx_mapN ?_; first | omega | (simp only [lnS]; omega)) | rfl)) (by simp only [packA_t, packA_f, iE, bE, setAt, cellsA, Value.cells, map_vc, map_vn, Nat.reduceAdd, qS, jnE, beE, Int.toNat_natCast, toNat_suc] <;> rfl)) ⟨_, rfl, (u4 rfl hb_21)⟩ rfl ?_
     refine ds_ro' (ro_eq (ro_fld_ref y35_fl42_0 rfl up_h) (by simp only [packA_t, packA_f, iE, bE, setAt, cellsA, Value.cells, map_vc, map_vn, Nat.reduceAdd, qS, jnE, beE, Int.toNat_natCast, toNat_suc] <;> rfl)) ⟨_, rfl, (up_m rfl (u4 rfl hb_21))⟩ rfl ?_
     refine ds_ro' (ro_eq (ro_ld_ref y35_ty3 rfl up_h (by exact Nat.le_of_ble_eq_true rfl)) (by simp only [packA_t, packA_f, iE, bE, setAt, cellsA, Value.cells, map_vc, map_vn, Nat.reduceAdd, qS, jnE, beE, Int.toNat_natCast, toNat_suc] <;> rfl)) ⟨_, rfl, (u2 rfl (u4 rfl hb_21))⟩ rfl ?_
     refine ds_ro' (ro_call (evL_cons up_h evL_nil) rfl (whole_ok _) y35_hcf20) ⟨_, rfl, (up_m rfl (u2 rfl (u4 rfl hb_21)))⟩ rfl ?_
     refine ds_ro' (ro_sqneq (up_m rfl (u2 rfl (u4 rfl up_h))) up_h rfl rfl y35_gq35 y35_sq35 (by decide)) ⟨_, rfl, (u8 rfl hb_21)⟩ rfl ?_
     refine ds_ro' (ro_pickF (up_m rfl (u8 rfl hb_21)) up_h) trivial rfl ?_
     refine ds_ro' (ro_move up_h) trivial rfl ?_
     refine ds_case up_h (fun hb_22 hq_22 => ?_) (fun hb_22 hq_22 => ?_)
     · first | (simp at hq_22; done) | (exact absurd hg hq_22) | (exact absurd hq_22 hm) | (exact absurd hm hq_22) | (exact absurd hm (by simpa using hq_22)) | (exact absurd (by simpa using hq_22) hm) | (rw [hwi] at hq_22; simp at hq_22; done) | (rw [hwa] at hq_22; simp at hq_22; done)
     replace hq_22 := bf' hq_22
     refine ds_ro' (ro_eq (ro_ld_ptr y35_ty35 rfl mon_9_1_17 (u2 rfl (u4 rfl (u16 rfl s10_18))) (by exact Nat.le_of_ble_eq_true rfl)) (by simp only [packA_t, packA_f, iE, bE, setAt, cellsA, Value.cells, map_vc, map_vn, Nat.reduceAdd, qS, jnE, beE, Int.toNat_natCast, toNat_suc] <;> rfl)) ⟨_, rfl, hb_22⟩ rfl ?_
     refine ds_ro' (ro_fld_ptr y35_fl26_1 rfl (up_m rfl (u2 rfl (u4 rfl (u16 rfl s2_18))))) ⟨_, rfl, (up_m rfl hb_22)⟩ rfl ?_
     refine ds_ro' (ro_eq (ro_ld_ptr y35_ty22 rfl mo0_17 up_h (by exact Nat.le_of_ble_eq_true rfl)) (by simp only [packA_t, packA_f, iE, bE, setAt, cellsA, Value.cells, map_vc, map_vn, Nat.reduceAdd, qS, jnE, beE, Int.toNat_natCast, toNat_suc] <;> rfl)) ⟨_, rfl, (u2 rfl hb_22)⟩ rfl ?_
     refine ds_ro' (ro_move (up_m rfl (u8 rfl (u16 rfl s5_18)))) ⟨_, rfl, (up_m rfl (u2 rfl hb_22))⟩ rfl ?_
     refine ds_ro' (ro_eq (ro_ix y35_sl22 (up_m rfl up_h) up_h (by omega) (by first | (refine idx_map ?_; first | omega | (simp only [lnS]; omega)) | (refine idx_mapI ?_; first | omega | (simp only [lnS]; omega)) | (refine idx_mapN ?_; first | omega | (simp only [lnS]; omega)) | rfl)) (by simp only [packA_t, packA_f, iE, bE, setAt, cellsA, Value.cells, map_vc, map_vn, Nat.reduceAdd, qS, jnE, beE, Int.toNat_natCast, toNat_suc] <;> rfl)) ⟨_, rfl, (u4 rfl hb_22)⟩ rfl ?_
     refine ds_ro' (ro_eq (ro_fld_ref y35_fl42_1 rfl up_h) (by simp only [packA_t, packA_f, iE, bE, setAt, cellsA, Value.cells, map_vc, map_vn, Nat.reduceAdd, qS, jnE, beE, Int.toNat_natCast, toNat_suc] <;> rfl)) ⟨_, rfl, (up_m rfl (u4 rfl hb_22))⟩ rfl ?_
     refine ds_ro' (ro_eq (ro_ld_ref y35_ty3 rfl up_h (by exact Nat.le_of_ble_eq_true rfl)) (by simp only [packA_t, packA_f, iE, bE, setAt, cellsA, Value.cells, map_vc, map_vn, Nat.reduceAdd, qS, jnE, beE, Int.toNat_natCast, toNat_suc] <;> rfl)) ⟨_, rfl, (u2 rfl (u4 rfl hb_22))⟩ rfl ?_
     refine ds_ro' (ro_call (evL_cons up_h evL_nil) rfl (whole_ok _) y35_hcf20) ⟨_, rfl, (up_m rfl (u2 rfl (u4 rfl hb_22)))⟩ rfl ?_
     refine ds_ro' (ro_sqneq (up_m rfl (u2 rfl (u4 rfl up_h))) up_h rfl rfl y35_gq35 y35_sq35 (by decide)) ⟨_, rfl, (u8 rfl hb_22)⟩ rfl ?_
     refine ds_ro' (ro_pickF (up_m rfl (u8 rfl hb_22)) up_h) trivial rfl ?_
     refine ds_nil ?_
     refine al_end (fun e_23 he_23 => ?_)
     have s1_23 := ef 1 he_23 (u16 rfl (u16 rfl s1_18))
     have s2_23 := ef 2 he_23 (u16 rfl (u16 rfl s2_18))
     have s5_23 := ef 5 he_23 (u16 rfl (u16 rfl s5_18))
     have s90_23 := ef 90 he_23 up_h
     clear he_23 hb_19 hb_20 hb_21 hb_22 s10_18 s11_18 s1_18 s2_18 s5_18 s7_18 s8_18 s9_18
     refine then_n ?_
     refine aw_case s90_23 (fun hq_24 => ?_) (fun hq_24 => ?_)
     · first | (simp at hq_24; done) | (exact absurd hg hq_24) | (exact absurd hq_24 hm) | (exact absurd hm hq_24) | (exact absurd hm (by simpa using hq_24)) | (exact absurd (by simpa using hq_24) hm) | (rw [hwi] at hq_24; simp at hq_24; done) | (rw [hwa] at hq_24; simp at hq_24; done)
     replace hq_24 := bf' hq_24
     refine aw_skip ?_
     refine block_n ?_
     refine then_n ?_
     refine aw_text (by kernel_rfl) ?_
     refine al_ro' (ro_move s5_23) trivial rfl ?_
     (refine al_ro' (ro_add' up_h ev_c ?_) trivial rfl ?_; · (unfold In64; omega))
     refine al_ro' (ro_assign up_h) trivial rfl ?_
     refine al_end (fun e_25 he_25 => ?_)
     have s1_25 := ef 1 he_25 (up_m rfl (u2 rfl s1_23))
     have s2_25 := ef 2 he_25 (up_m rfl (u2 rfl s2_23))
     have s5_25 := ef 5 he_25 up_h
     clear he_25 s1_23 s2_23 s5_23 s90_23
     refine then_n ?_
     refine ⟨_, ⟨s5_25, (s1_25.trans s1_8.symm), (s2_25.trans s2_8.symm), (mo0_17.trans mo0_1.symm), ⟨_, ml_17, by omega⟩, ?_⟩, ?_⟩
     · (exact ⟨by omega, by omega⟩)
     · ((try dsimp only); omega)
    replace hq_11 := bf hq_11
    refine aw_exit ?_
    refine then_x ?_
    refine then_x ?_
    refine block_hit ?_
    refine then_n ?_
    refine aw_seq ?_
    refine aw_text (by kernel_rfl) ?_
    refine al_ro' (ro_eq (ro_ld_ptr y35_ty26 rfl mo0_9 s2_10 (by exact Nat.le_of_ble_eq_true rfl)) (by simp only [packA_t, packA_f, iE, bE, setAt, cellsA, Value.cells, map_vc, map_vn, Nat.reduceAdd, qS, jnE, beE, Int.toNat_natCast, toNat_suc] <;> rfl)) trivial rfl ?_
    refine al_ro' (ro_call (evL_cons up_h evL_nil) rfl (yCopy_ok l hl) y35_hcf17) trivial rfl ?_
    refine al_ro' (ro_move (u2 rfl s1_10)) trivial rfl ?_
    refine al_ro' (ro_call (evL_cons (up_m rfl up_h) (evL_cons up_h evL_nil)) rfl (beamAt_in l hl hg p hm) y35_hcf21) trivial rfl ?_
    refine al_ro' (ro_move up_h) trivial rfl ?_
    refine al_ro' (ro_extract up_h rfl) trivial rfl ?_
    refine al_ro' (ro_extract (up_m rfl up_h) rfl) trivial rfl ?_
    refine al_ro' (ro_extract (u2 rfl up_h) rfl) trivial rfl ?_
    refine al_ro' (ro_assign (u2 rfl up_h)) trivial rfl ?_
    refine al_ro' (ro_assign (u2 rfl up_h)) trivial rfl ?_
    refine al_ro' (ro_assign (u2 rfl up_h)) trivial rfl ?_
    refine al_end (fun e_26 he_26 => ?_)
    have s1_26 := ef 1 he_26 (up_m rfl (u2 rfl (u8 rfl s1_10)))
    have s2_26 := ef 2 he_26 (up_m rfl (u2 rfl (u8 rfl s2_10)))
    have s12_26 := ef 12 he_26 (u2 rfl up_h)
    have s13_26 := ef 13 he_26 (up_m rfl up_h)
    have s14_26 := ef 14 he_26 up_h
    clear he_26 s1_10 s2_10 s35_10 s5_10
    refine then_n ?_
    refine aw_seq ?_
    refine aw_seq ?_
    refine aw_text (by kernel_rfl) ?_
    refine al_ro' (ro_move s14_26) trivial rfl ?_
    refine al_ro' (ro_neq up_h ev_c) trivial rfl ?_
    refine al_end (fun e_27 he_27 => ?_)
    have s1_27 := ef 1 he_27 (u2 rfl s1_26)
    have s2_27 := ef 2 he_27 (u2 rfl s2_26)
    have s12_27 := ef 12 he_27 (u2 rfl s12_26)
    have s13_27 := ef 13 he_27 (u2 rfl s13_26)
    have s14_27 := ef 14 he_27 (u2 rfl s14_26)
    have s100_27 := ef 100 he_27 up_h
    clear he_27 s12_26 s13_26 s14_26 s1_26 s2_26
    refine then_n ?_
    refine aw_case s100_27 (fun hq_28 => ?_) (fun hq_28 => ?_)
    · cases hq_28
    replace hq_28 := bnf hq_28
    refine aw_skip ?_
    refine then_n ?_
    refine aw_seq ?_
    refine aw_text (by kernel_rfl) ?_
    refine al_ro' (ro_eq (ro_ld_ptr y35_ty26 rfl mo0_9 s2_27 (by exact Nat.le_of_ble_eq_true rfl)) (by simp only [packA_t, packA_f, iE, bE, setAt, cellsA, Value.cells, map_vc, map_vn, Nat.reduceAdd, qS, jnE, beE, Int.toNat_natCast, toNat_suc] <;> rfl)) trivial rfl ?_
    refine al_ro' (ro_call (evL_cons up_h evL_nil) rfl (yCopy_ok l hl) y35_hcf17) trivial rfl ?_
    refine al_ro' (ro_move (u2 rfl s1_27)) trivial rfl ?_
    refine al_ro' (ro_call (evL_cons (up_m rfl up_h) (evL_cons up_h evL_nil)) rfl (AcrossAt_in l hl hg p hm) y35_hcf18) trivial rfl ?_
    refine al_ro' (ro_move up_h) trivial rfl ?_
    refine al_ro' (ro_extract up_h rfl) trivial rfl ?_
    refine al_ro' (ro_extract (up_m rfl up_h) rfl) trivial rfl ?_
    refine al_stm (st_alloc y35_az35 rfl ml_9) trivial rfl (fun m_29 hm_29 => ?_)
    have mon_9_29 := m_push hm_29 ml_9
    simp only [packA_t, packA_f, iE, bE, setAt, cellsA, Value.cells, map_vc, map_vn, Nat.reduceAdd, qS, jnE, beE, Int.toNat_natCast, toNat_suc] at mon_9_29
    have mo0_29 := m_push_o hm_29 mo0_9
    have ml_29 := m_push_l hm_29 ml_9
    clear hm_29 mo0_9
    refine al_stm (st_store up_h (u2 rfl up_h) rfl rfl mon_9_29 y35_sz35 rfl (by exact Nat.le_of_ble_eq_true rfl)) trivial rfl (fun m_30 hm_30 => ?_)
    have mon_9_30 := m_set hm_30 mon_9_29
    simp only [packA_t, packA_f, iE, bE, setAt, cellsA, Value.cells, map_vc, map_vn, Nat.reduceAdd, qS, jnE, beE, Int.toNat_natCast, toNat_suc] at mon_9_30
    have mo0_30 := m_set_o hm_30 mo0_29 (by omega)
    have ml_30 := m_set_l hm_30 ml_29
    clear hm_30 mon_9_29 mo0_29
    refine al_ro' (ro_assign (up_n (up_m rfl up_h))) trivial rfl ?_
    refine al_end (fun e_31 he_31 => ?_)
    have s1_31 := ef 1 he_31 (up_m rfl (up_n (u8 rfl s1_27)))
    have s2_31 := ef 2 he_31 (up_m rfl (up_n (u8 rfl s2_27)))
    have s12_31 := ef 12 he_31 (up_m rfl (up_n (u8 rfl s12_27)))
    have s13_31 := ef 13 he_31 (up_m rfl (up_n (u8 rfl s13_27)))
    have s15_31 := ef 15 he_31 (up_m rfl (up_n up_h))
    have s16_31 := ef 16 he_31 up_h
    clear he_31 s100_27 s12_27 s13_27 s14_27 s1_27 s2_27
    refine then_n ?_
    refine aw_seq ?_
    refine aw_text (by kernel_rfl) ?_
    refine al_ro' (ro_eq (ro_ld_ptr y35_ty26 rfl mo0_30 s2_31 (by exact Nat.le_of_ble_eq_true rfl)) (by simp only [packA_t, packA_f, iE, bE, setAt, cellsA, Value.cells, map_vc, map_vn, Nat.reduceAdd, qS, jnE, beE, Int.toNat_natCast, toNat_suc] <;> rfl)) trivial rfl ?_
    refine al_ro' (ro_call (evL_cons up_h evL_nil) rfl (yCopy_ok l hl) y35_hcf17) trivial rfl ?_
    refine al_ro' (ro_move (u2 rfl s1_31)) trivial rfl ?_
    refine al_ro' (ro_call (evL_cons (up_m rfl up_h) (evL_cons up_h evL_nil)) rfl (UpAt_in l hl hg p hm) y35_hcf19) trivial rfl ?_
    refine al_ro' (ro_move up_h) trivial rfl ?_
    refine al_ro' (ro_extract up_h rfl) trivial rfl ?_
    refine al_ro' (ro_extract (up_m rfl up_h) rfl) trivial rfl ?_
    refine al_stm (st_alloc y35_az35 rfl ml_30) trivial rfl (fun m_32 hm_32 => ?_)
    have mon_9_1_32 := m_push hm_32 ml_30
    simp only [packA_t, packA_f, iE, bE, setAt, cellsA, Value.cells, map_vc, map_vn, Nat.reduceAdd, qS, jnE, beE, Int.toNat_natCast, toNat_suc] at mon_9_1_32
    have mon_9_32 := m_push_o hm_32 mon_9_30
    have mo0_32 := m_push_o hm_32 mo0_30
    have ml_32 := m_push_l hm_32 ml_30
    clear hm_32 mon_9_30 mo0_30
    refine al_stm (st_store up_h (u2 rfl up_h) rfl rfl mon_9_1_32 y35_sz35 rfl (by exact Nat.le_of_ble_eq_true rfl)) trivial rfl (fun m_33 hm_33 => ?_)
    have mon_9_1_33 := m_set hm_33 mon_9_1_32
    simp only [packA_t, packA_f, iE, bE, setAt, cellsA, Value.cells, map_vc, map_vn, Nat.reduceAdd, qS, jnE, beE, Int.toNat_natCast, toNat_suc] at mon_9_1_33
    have mon_9_33 := m_set_o hm_33 mon_9_32 (by omega)
    have mo0_33 := m_set_o hm_33 mo0_32 (by omega)
    have ml_33 := m_set_l hm_33 ml_32
    clear hm_33 mon_9_1_32 mon_9_32 mo0_32
    refine al_ro' (ro_assign (up_n (up_m rfl up_h))) trivial rfl ?_
    refine al_end (fun e_34 he_34 => ?_)
    have s2_34 := ef 2 he_34 (up_m rfl (up_n (u8 rfl s2_31)))
    have s12_34 := ef 12 he_34 (up_m rfl (up_n (u8 rfl s12_31)))
    have s13_34 := ef 13 he_34 (up_m rfl (up_n (u8 rfl s13_31)))
    have s15_34 := ef 15 he_34 (up_m rfl (up_n (u8 rfl s15_31)))
    have s16_34 := ef 16 he_34 (up_m rfl (up_n (u8 rfl s16_31)))
    have s17_34 := ef 17 he_34 (up_m rfl (up_n up_h))
    have s18_34 := ef 18 he_34 up_h
    clear he_34 s12_31 s13_31 s15_31 s16_31 s1_31 s2_31
    refine then_n ?_
    refine aw_seq ?_
    refine aw_seq ?_
    refine aw_text (by kernel_rfl) ?_
    refine al_ro' (ro_move s16_34) trivial rfl ?_
    refine al_ro' (ro_neq up_h ev_c) trivial rfl ?_
    refine al_ro' (ro_move up_h) trivial rfl ?_
    refine al_case up_h (fun hb_35 hq_35 => ?_) (fun hb_35 hq_35 => ?_)
    · cases hq_35
    replace hq_35 := bnf hq_35
    refine al_ro' (ro_move (up_m rfl (u2 rfl s18_34))) ⟨_, rfl, hb_35⟩ rfl ?_
    refine al_ro' (ro_neq up_h ev_c) ⟨_, rfl, (up_m rfl hb_35)⟩ rfl ?_
    refine al_ro' (ro_pickF (u2 rfl hb_35) up_h) trivial rfl ?_
    refine al_ro' (ro_move up_h) trivial rfl ?_
    refine al_case up_h (fun hb_36 hq_36 => ?_) (fun hb_36 hq_36 => ?_)
    · cases hq_36
    replace hq_36 := bnf hq_36
    refine al_ro' (ro_move (up_m rfl (u2 rfl (u4 rfl s12_34)))) ⟨_, rfl, hb_36⟩ rfl ?_
    refine al_ro' (ro_fld_ptr y35_fl26_2 rfl (u8 rfl s2_34)) ⟨_, rfl, (up_m rfl hb_36)⟩ rfl ?_
    refine al_ro' (ro_eq (ro_ld_ptr y35_ty23 rfl mo0_33 up_h (by exact Nat.le_of_ble_eq_true rfl)) (by simp only [packA_t, packA_f, iE, bE, setAt, cellsA, Value.cells, map_vc, map_vn, Nat.reduceAdd, qS, jnE, beE, Int.toNat_natCast, toNat_suc] <;> rfl)) ⟨_, rfl, (u2 rfl hb_36)⟩ rfl ?_
    refine al_ro' (ro_eq (ro_len_row up_h rfl y35_sl23.1) (by simp only [lnS] <;> rfl)) ⟨_, rfl, (up_m rfl (u2 rfl hb_36))⟩ rfl ?_
    (refine al_ro' (ro_sub' up_h ev_c ?_) ⟨_, rfl, (u4 rfl hb_36)⟩ rfl ?_; · (unfold In64; omega))
    refine al_ro' (ro_call (evL_cons (u4 rfl up_h) (evL_cons ev_c (evL_cons up_h evL_nil))) rfl (bWithin_ok _ _ _) y35_hcf22) ⟨_, rfl, (up_m rfl (u4 rfl hb_36))⟩ rfl ?_
    refine al_ro' (ro_not up_h) ⟨_, rfl, (u2 rfl (u4 rfl hb_36))⟩ rfl ?_
    refine al_ro' (ro_pickF (up_m rfl (u2 rfl (u4 rfl hb_36))) up_h) trivial rfl ?_
    refine al_ro' (ro_move up_h) trivial rfl ?_
    refine al_case up_h (fun hb_37 hq_37 => ?_) (fun hb_37 hq_37 => ?_)
    · replace hq_37 := bnt hq_37; exfalso; omega
    replace hq_37 := bnf hq_37
    refine al_ro' (ro_move (u16 rfl s13_34)) ⟨_, rfl, hb_37⟩ rfl ?_
    refine al_ro' (ro_fld_ptr y35_fl26_2 rfl (up_m rfl (u16 rfl s2_34))) ⟨_, rfl, (up_m rfl hb_37)⟩ rfl ?_
    refine al_ro' (ro_eq (ro_ld_ptr y35_ty23 rfl mo0_33 up_h (by exact Nat.le_of_ble_eq_true rfl)) (by simp only [packA_t, packA_f, iE, bE, setAt, cellsA, Value.cells, map_vc, map_vn, Nat.reduceAdd, qS, jnE, beE, Int.toNat_natCast, toNat_suc] <;> rfl)) ⟨_, rfl, (u2 rfl hb_37)⟩ rfl ?_
    refine al_ro' (ro_move (up_m rfl (u2 rfl (u16 rfl s12_34)))) ⟨_, rfl, (up_m rfl (u2 rfl hb_37))⟩ rfl ?_
    refine al_ro' (ro_eq (ro_ix y35_sl23 (up_m rfl up_h) up_h (by omega) (by first | (refine idx_map ?_; first | omega | (simp only [lnS]; omega)) | (refine idx_mapI ?_; first | omega | (simp only [lnS]; omega)) | (refine idx_mapN ?_; first | omega | (simp only [lnS]; omega)) | rfl)) (by simp only [packA_t, packA_f, iE, bE, setAt, cellsA, Value.cells, map_vc, map_vn, Nat.reduceAdd, qS, jnE, beE, Int.toNat_natCast, toNat_suc] <;> rfl)) ⟨_, rfl, (u4 rfl hb_37)⟩ rfl ?_
    refine al_ro' (ro_eq (ro_fld_ref y35_fl47_0 rfl up_h) (by simp only [packA_t, packA_f, iE, bE, setAt, cellsA, Value.cells, map_vc, map_vn, Nat.reduceAdd, qS, jnE, beE, Int.toNat_natCast, toNat_suc] <;> rfl)) ⟨_, rfl, (up_m rfl (u4 rfl hb_37))⟩ rfl ?_
    refine al_ro' (ro_eq (ro_ld_ref y35_ty3 rfl up_h (by exact Nat.le_of_ble_eq_true rfl)) (by simp only [packA_t, packA_f, iE, bE, setAt, cellsA, Value.cells, map_vc, map_vn, Nat.reduceAdd, qS, jnE, beE, Int.toNat_natCast, toNat_suc] <;> rfl)) ⟨_, rfl, (u2 rfl (u4 rfl hb_37))⟩ rfl ?_
    refine al_ro' (ro_call (evL_cons (u2 rfl (u4 rfl up_h)) (evL_cons ev_c (evL_cons up_h evL_nil))) rfl (bWithin_ok _ _ _) y35_hcf22) ⟨_, rfl, (up_m rfl (u2 rfl (u4 rfl hb_37)))⟩ rfl ?_
    refine al_ro' (ro_not up_h) ⟨_, rfl, (u8 rfl hb_37)⟩ rfl ?_
    refine al_ro' (ro_pickF (up_m rfl (u8 rfl hb_37)) up_h) trivial rfl ?_
    refine al_ro' (ro_move up_h) trivial rfl ?_
    refine al_case up_h (fun hb_38 hq_38 => ?_) (fun hb_38 hq_38 => ?_)
    · first | (simp at hq_38; done) | (exact absurd hg hq_38) | (exact absurd hq_38 hm) | (exact absurd hm hq_38) | (exact absurd hm (by simpa using hq_38)) | (exact absurd (by simpa using hq_38) hm) | (rw [hwi] at hq_38; simp at hq_38; done) | (rw [hwa] at hq_38; simp at hq_38; done)
    replace hq_38 := bf' hq_38
    refine al_ro' (ro_eq (ro_ld_ptr y35_ty35 rfl mon_9_33 (up_m rfl (u2 rfl (u8 rfl (u16 rfl s15_34)))) (by exact Nat.le_of_ble_eq_true rfl)) (by simp only [packA_t, packA_f, iE, bE, setAt, cellsA, Value.cells, map_vc, map_vn, Nat.reduceAdd, qS, jnE, beE, Int.toNat_natCast, toNat_suc] <;> rfl)) ⟨_, rfl, hb_38⟩ rfl ?_
    refine al_ro' (ro_call (evL_cons up_h evL_nil) rfl (isLowest_yes _ _ _ _ (by omega) (by omega) a2 (by omega) a3) y35_hcf23) ⟨_, rfl, (up_m rfl hb_38)⟩ rfl ?_
    refine al_ro' (ro_not up_h) ⟨_, rfl, (u2 rfl hb_38)⟩ rfl ?_
    refine al_ro' (ro_pickF (up_m rfl (u2 rfl hb_38)) up_h) trivial rfl ?_
    refine al_ro' (ro_move up_h) trivial rfl ?_
    refine al_case up_h (fun hb_39 hq_39 => ?_) (fun hb_39 hq_39 => ?_)
    · cases hq_39
    replace hq_39 := bf' hq_39
    refine al_ro' (ro_eq (ro_ld_ptr y35_ty35 rfl mon_9_33 (u16 rfl (u16 rfl s15_34)) (by exact Nat.le_of_ble_eq_true rfl)) (by simp only [packA_t, packA_f, iE, bE, setAt, cellsA, Value.cells, map_vc, map_vn, Nat.reduceAdd, qS, jnE, beE, Int.toNat_natCast, toNat_suc] <;> rfl)) ⟨_, rfl, hb_39⟩ rfl ?_
    refine al_ro' (ro_call (evL_cons up_h evL_nil) rfl (isSmall_yes _ _ _ _ (by omega) (by omega) a2 (by omega) a3) y35_hcf24) ⟨_, rfl, (up_m rfl hb_39)⟩ rfl ?_
    refine al_ro' (ro_not up_h) ⟨_, rfl, (u2 rfl hb_39)⟩ rfl ?_
    refine al_ro' (ro_pickF (up_m rfl (u2 rfl hb_39)) up_h) trivial rfl ?_
    refine al_ro' (ro_move up_h) trivial rfl ?_
    refine al_case up_h (fun hb_40 hq_40 => ?_) (fun hb_40 hq_40 => ?_)
    · cases hq_40
    replace hq_40 := bf' hq_40
    refine al_ro' (ro_eq (ro_ld_ptr y35_ty35 rfl mon_9_1_33 (up_m rfl (u4 rfl (u16 rfl (u16 rfl s17_34)))) (by exact Nat.le_of_ble_eq_true rfl)) (by simp only [packA_t, packA_f, iE, bE, setAt, cellsA, Value.cells, map_vc, map_vn, Nat.reduceAdd, qS, jnE, beE, Int.toNat_natCast, toNat_suc] <;> rfl)) ⟨_, rfl, hb_40⟩ rfl ?_
    refine al_ro' (ro_call (evL_cons up_h evL_nil) rfl (isLowest_yes _ _ _ _ (by omega) (by omega) a2 (by omega) a3) y35_hcf23) ⟨_, rfl, (up_m rfl hb_40)⟩ rfl ?_
    refine al_ro' (ro_not up_h) ⟨_, rfl, (u2 rfl hb_40)⟩ rfl ?_
    refine al_ro' (ro_pickF (up_m rfl (u2 rfl hb_40)) up_h) trivial rfl ?_
    refine al_ro' (ro_move up_h) trivial rfl ?_
    refine al_case up_h (fun hb_41 hq_41 => ?_) (fun hb_41 hq_41 => ?_)
    · cases hq_41
    replace hq_41 := bf' hq_41
    refine al_ro' (ro_eq (ro_ld_ptr y35_ty35 rfl mon_9_1_33 (u2 rfl (u8 rfl (u16 rfl (u16 rfl s17_34)))) (by exact Nat.le_of_ble_eq_true rfl)) (by simp only [packA_t, packA_f, iE, bE, setAt, cellsA, Value.cells, map_vc, map_vn, Nat.reduceAdd, qS, jnE, beE, Int.toNat_natCast, toNat_suc] <;> rfl)) ⟨_, rfl, hb_41⟩ rfl ?_
    refine al_ro' (ro_call (evL_cons up_h evL_nil) rfl (isSmall_yes _ _ _ _ (by omega) (by omega) a2 (by omega) a3) y35_hcf24) ⟨_, rfl, (up_m rfl hb_41)⟩ rfl ?_
    refine al_ro' (ro_not up_h) ⟨_, rfl, (u2 rfl hb_41)⟩ rfl ?_
    refine al_ro' (ro_pickF (up_m rfl (u2 rfl hb_41)) up_h) trivial rfl ?_
    refine al_end (fun e_42 he_42 => ?_)
    have s2_42 := ef 2 he_42 (u2 rfl (u4 rfl (u8 rfl (u16 rfl (u16 rfl s2_34)))))
    have s12_42 := ef 12 he_42 (u2 rfl (u4 rfl (u8 rfl (u16 rfl (u16 rfl s12_34)))))
    have s15_42 := ef 15 he_42 (u2 rfl (u4 rfl (u8 rfl (u16 rfl (u16 rfl s15_34)))))
    have s17_42 := ef 17 he_42 (u2 rfl (u4 rfl (u8 rfl (u16 rfl (u16 rfl s17_34)))))
    have s170_42 := ef 170 he_42 up_h
    clear he_42 hb_35 hb_36 hb_37 hb_38 hb_39 hb_40 hb_41 s12_34 s13_34 s15_34 s16_34 s17_34 s18_34 s2_34
    refine then_n ?_
    refine aw_case s170_42 (fun hq_43 => ?_) (fun hq_43 => ?_)
    · cases hq_43
    replace hq_43 := bf' hq_43
    refine aw_skip ?_
    refine then_n ?_
    refine aw_seq ?_
    refine aw_drawK 14 2 ml_33 (by kernel_rfl) (by kernel_rfl) (by kernel_rfl) (by kernel_rfl) (fun m_44 hm_44 => ?_)
    have mon_9_1_44 := m_room_o hm_44 mon_9_1_33
    have mon_9_44 := m_room_o hm_44 mon_9_33
    have mo0_44 := m_room_o hm_44 mo0_33
    have mon_9_1_1_44 : m_44[n_9 + 1 + 1]? = _ := m_room_g hm_44 ml_33 0 rfl rfl
    have mon_9_1_1_1_44 : m_44[n_9 + 1 + 1 + 1]? = _ := m_room_g hm_44 ml_33 1 rfl rfl
    have ml_44 : _ = n_9 + 1 + 1 + 2 := m_room_l (K := 2) hm_44 ml_33
    clear hm_44 mon_9_1_33 mon_9_33 mo0_33 ml_33
    refine dh_ro (fun M_ hM_ => (ro_fld_ptr y35_fl26_1 rfl s2_42)) trivial ?_
    refine dh_ld (0) (fun M_ hM_ => (ro_eq (ro_ld_ptr y35_ty22 rfl (agr hM_ mo0_44 (by simp)) up_h (by exact Nat.le_of_ble_eq_true rfl)) (by simp only [packA_t, packA_f, iE, bE, setAt, cellsA, Value.cells, map_vc, map_vn, Nat.reduceAdd, qS, jnE, beE, Int.toNat_natCast, toNat_suc] <;> rfl))) trivial trivial ?_
    refine dh_ro (fun M_ hM_ => (ro_move (u2 rfl s12_42))) trivial ?_
    refine dh_ro (fun M_ hM_ => (ro_eq (ro_ix y35_sl22 (up_m rfl up_h) up_h (by omega) (by first | (refine idx_map ?_; first | omega | (simp only [lnS]; omega)) | (refine idx_mapI ?_; first | omega | (simp only [lnS]; omega)) | (refine idx_mapN ?_; first | omega | (simp only [lnS]; omega)) | rfl)) (by simp only [packA_t, packA_f, iE, bE, setAt, cellsA, Value.cells, map_vc, map_vn, Nat.reduceAdd, qS, jnE, beE, Int.toNat_natCast, toNat_suc] <;> rfl))) trivial ?_
    refine dh_ro (fun M_ hM_ => (ro_eq (ro_ld_ref y35_ty42 rfl up_h (by exact Nat.le_of_ble_eq_true rfl)) (by simp only [packA_t, packA_f, iE, bE, setAt, cellsA, Value.cells, map_vc, map_vn, Nat.reduceAdd, qS, jnE, beE, Int.toNat_natCast, toNat_suc] <;> rfl))) trivial ?_
    refine dh_ro (fun M_ hM_ => (ro_fld_ptr y35_fl26_1 rfl (up_m rfl (u4 rfl s2_42)))) trivial ?_
    refine dh_ld (0) (fun M_ hM_ => (ro_eq (ro_ld_ptr y35_ty22 rfl (agr hM_ mo0_44 (by simp)) up_h (by exact Nat.le_of_ble_eq_true rfl)) (by simp only [packA_t, packA_f, iE, bE, setAt, cellsA, Value.cells, map_vc, map_vn, Nat.reduceAdd, qS, jnE, beE, Int.toNat_natCast, toNat_suc] <;> rfl))) trivial trivial ?_
    refine dh_ro (fun M_ hM_ => (ro_move (up_m rfl (u2 rfl (u4 rfl s12_42))))) trivial ?_
    (refine dh_ro (fun M_ hM_ => (ro_add' up_h ev_c ?_)) trivial ?_; · (unfold In64; omega))
    refine dh_ro (fun M_ hM_ => (ro_eq (ro_ix y35_sl22 (u2 rfl up_h) up_h (by omega) (by refine idx_map ?_; first | omega | (simp only [lnS]; omega))) (by simp only [packA_t, packA_f, iE, bE, setAt, cellsA, Value.cells, map_vc, map_vn, Nat.reduceAdd, qS, jnE, beE, Int.toNat_natCast, toNat_suc] <;> rfl))) trivial ?_
    refine dh_ro (fun M_ hM_ => (ro_eq (ro_ld_ref y35_ty42 rfl up_h (by exact Nat.le_of_ble_eq_true rfl)) (by simp only [packA_t, packA_f, iE, bE, setAt, cellsA, Value.cells, map_vc, map_vn, Nat.reduceAdd, qS, jnE, beE, Int.toNat_natCast, toNat_suc] <;> rfl))) trivial ?_
    refine dh_nw (n_9 + 1 + 1) (fun M_ hM_ => (nw_alloc y35_az42 rfl)) trivial mon_9_1_1_44 rfl trivial ⟨.inl (by simp <;> omega), ⟨.inl (by simp <;> omega), trivial⟩⟩ (fun m_45 hm_45 => ?_)
    have mon_9_1_1_45 := m_set hm_45 mon_9_1_1_44
    simp only [packA_t, packA_f, iE, bE, setAt, cellsA, Value.cells, map_vc, map_vn, Nat.reduceAdd, qS, jnE, beE, Int.toNat_natCast, toNat_suc] at mon_9_1_1_45
    have mon_9_1_45 := m_set_o hm_45 mon_9_1_44 (by omega)
    have mon_9_45 := m_set_o hm_45 mon_9_44 (by omega)
    have mo0_45 := m_set_o hm_45 mo0_44 (by omega)
    have mon_9_1_1_1_45 := m_set_o hm_45 mon_9_1_1_1_44 (by omega)
    have ml_45 := m_set_l hm_45 ml_44
    clear hm_45 mon_9_1_44 mon_9_44 mo0_44 mon_9_1_1_44 mon_9_1_1_1_44
    refine dh_nw (n_9 + 1 + 1 + 1) (fun M_ hM_ => (nw_alloc y35_az42 rfl)) trivial mon_9_1_1_1_45 rfl ⟨.inl (by simp <;> omega), trivial⟩ ⟨.inl (by simp <;> omega), ⟨.inl (by simp <;> omega), ⟨.inl (by simp <;> omega), trivial⟩⟩⟩ (fun m_46 hm_46 => ?_)
    have mon_9_1_1_1_46 := m_set hm_46 mon_9_1_1_1_45
    simp only [packA_t, packA_f, iE, bE, setAt, cellsA, Value.cells, map_vc, map_vn, Nat.reduceAdd, qS, jnE, beE, Int.toNat_natCast, toNat_suc] at mon_9_1_1_1_46
    have mon_9_1_1_46 := m_set_o hm_46 mon_9_1_1_45 (by omega)
    have mon_9_1_46 := m_set_o hm_46 mon_9_1_45 (by omega)
    have mon_9_46 := m_set_o hm_46 mon_9_45 (by omega)
    have mo0_46 := m_set_o hm_46 mo0_45 (by omega)
    have ml_46 := m_set_l hm_46 ml_45
    clear hm_46 mon_9_1_1_45 mon_9_1_45 mon_9_45 mo0_45 mon_9_1_1_1_45
    refine dh_set (n_9 + 1 + 1) (fun M_ hM_ => (se_store (up_m rfl up_h) (u8 rfl up_h) rfl rfl (agr hM_ mon_9_1_1_46 (by simp)) y35_sz42 rfl (by exact Nat.le_of_ble_eq_true rfl))) trivial ⟨.inr (wt_one 13 11 (by kernel_rfl)), ⟨.inl (by simp <;> omega), trivial⟩⟩ ⟨.inl (by simp <;> omega), ⟨.inl (by simp <;> omega), ⟨.inr (wt_one 13 11 (by kernel_rfl)), ⟨.inl (by simp <;> omega), trivial⟩⟩⟩⟩ (fun m_47 hm_47 => ?_)
    have mon_9_1_1_47 := m_set hm_47 mon_9_1_1_46
    simp only [packA_t, packA_f, iE, bE, setAt, cellsA, Value.cells, map_vc, map_vn, Nat.reduceAdd, qS, jnE, beE, Int.toNat_natCast, toNat_suc] at mon_9_1_1_47
    have mon_9_1_1_1_47 := m_set_o hm_47 mon_9_1_1_1_46 (by omega)
    have mon_9_1_47 := m_set_o hm_47 mon_9_1_46 (by omega)
    have mon_9_47 := m_set_o hm_47 mon_9_46 (by omega)
    have mo0_47 := m_set_o hm_47 mo0_46 (by omega)
    have ml_47 := m_set_l hm_47 ml_46
    clear hm_47 mon_9_1_1_1_46 mon_9_1_1_46 mon_9_1_46 mon_9_46 mo0_46
    refine dh_nil rfl ?_
    refine al_stm (st_store (up_n up_h) (up_n (u2 rfl up_h)) rfl rfl mon_9_1_1_1_47 y35_sz42 rfl (by exact Nat.le_of_ble_eq_true rfl)) trivial rfl (fun m_48 hm_48 => ?_)
    have mon_9_1_1_1_48 := m_set hm_48 mon_9_1_1_1_47
    simp only [packA_t, packA_f, iE, bE, setAt, cellsA, Value.cells, map_vc, map_vn, Nat.reduceAdd, qS, jnE, beE, Int.toNat_natCast, toNat_suc] at mon_9_1_1_1_48
    have mon_9_1_1_48 := m_set_o hm_48 mon_9_1_1_47 (by omega)
    have mon_9_1_48 := m_set_o hm_48 mon_9_1_47 (by omega)
    have mon_9_48 := m_set_o hm_48 mon_9_47 (by omega)
    have mo0_48 := m_set_o hm_48 mo0_47 (by omega)
    have ml_48 := m_set_l hm_48 ml_47
    clear hm_48 mon_9_1_1_47 mon_9_1_1_1_47 mon_9_1_47 mon_9_47 mo0_47
    refine al_end (fun e_49 he_49 => ?_)
    have s15_49 := ef 15 he_49 (up_n (up_n (up_m rfl (u4 rfl (u8 rfl s15_42)))))
    have s17_49 := ef 17 he_49 (up_n (up_n (up_m rfl (u4 rfl (u8 rfl s17_42)))))
    have s19_49 := ef 19 he_49 (up_n (up_n (up_m rfl up_h)))
    have s20_49 := ef 20 he_49 (up_n (up_n up_h))
    clear he_49 s12_42 s15_42 s170_42 s17_42 s2_42
    refine then_n ?_
    refine aw_seq ?_
    refine aw_text (by kernel_rfl) ?_
    refine al_ro' (ro_eq (ro_ld_ptr y35_ty35 rfl mon_9_48 s15_49 (by exact Nat.le_of_ble_eq_true rfl)) (by simp only [packA_t, packA_f, iE, bE, setAt, cellsA, Value.cells, map_vc, map_vn, Nat.reduceAdd, qS, jnE, beE, Int.toNat_natCast, toNat_suc] <;> rfl)) trivial rfl ?_
    refine al_ro' (ro_fld_ptr y35_fl42_0 rfl (up_m rfl s19_49)) trivial rfl ?_
    refine al_ro' (ro_eq (ro_ld_ptr y35_ty3 rfl mon_9_1_1_48 up_h (by exact Nat.le_of_ble_eq_true rfl)) (by simp only [packA_t, packA_f, iE, bE, setAt, cellsA, Value.cells, map_vc, map_vn, Nat.reduceAdd, qS, jnE, beE, Int.toNat_natCast, toNat_suc] <;> rfl)) trivial rfl ?_
    refine al_ro' (ro_fld_ptr y35_fl42_0 rfl (up_m rfl (u2 rfl s20_49))) trivial rfl ?_
    refine al_ro' (ro_eq (ro_ld_ptr y35_ty3 rfl mon_9_1_1_1_48 up_h (by exact Nat.le_of_ble_eq_true rfl)) (by simp only [packA_t, packA_f, iE, bE, setAt, cellsA, Value.cells, map_vc, map_vn, Nat.reduceAdd, qS, jnE, beE, Int.toNat_natCast, toNat_suc] <;> rfl)) trivial rfl ?_
    refine al_ro' (ro_call (evL_cons (u4 rfl up_h) (evL_cons (u2 rfl up_h) (evL_cons up_h evL_nil))) rfl (inside_yes _ _ _ _ (by omega) (by omega) a2 (by omega) a3) y35_hcf25) trivial rfl ?_
    refine al_ro' (ro_move up_h) trivial rfl ?_
    refine al_case up_h (fun hb_50 hq_50 => ?_) (fun hb_50 hq_50 => ?_)
    ·skip
     refine al_ro' (ro_eq (ro_ld_ptr y35_ty35 rfl mon_9_1_48 (up_m rfl (u2 rfl (u4 rfl s17_49))) (by exact Nat.le_of_ble_eq_true rfl)) (by simp only [packA_t, packA_f, iE, bE, setAt, cellsA, Value.cells, map_vc, map_vn, Nat.reduceAdd, qS, jnE, beE, Int.toNat_natCast, toNat_suc] <;> rfl)) ⟨_, rfl, hb_50⟩ rfl ?_
     refine al_ro' (ro_fld_ptr y35_fl42_1 rfl (u8 rfl s19_49)) ⟨_, rfl, (up_m rfl hb_50)⟩ rfl ?_
     refine al_ro' (ro_eq (ro_ld_ptr y35_ty3 rfl mon_9_1_1_48 up_h (by exact Nat.le_of_ble_eq_true rfl)) (by simp only [packA_t, packA_f, iE, bE, setAt, cellsA, Value.cells, map_vc, map_vn, Nat.reduceAdd, qS, jnE, beE, Int.toNat_natCast, toNat_suc] <;> rfl)) ⟨_, rfl, (u2 rfl hb_50)⟩ rfl ?_
     refine al_ro' (ro_fld_ptr y35_fl42_1 rfl (u2 rfl (u8 rfl s20_49))) ⟨_, rfl, (up_m rfl (u2 rfl hb_50))⟩ rfl ?_
     refine al_ro' (ro_eq (ro_ld_ptr y35_ty3 rfl mon_9_1_1_1_48 up_h (by exact Nat.le_of_ble_eq_true rfl)) (by simp only [packA_t, packA_f, iE, bE, setAt, cellsA, Value.cells, map_vc, map_vn, Nat.reduceAdd, qS, jnE, beE, Int.toNat_natCast, toNat_suc] <;> rfl)) ⟨_, rfl, (u4 rfl hb_50)⟩ rfl ?_
     refine al_ro' (ro_call (evL_cons (u4 rfl up_h) (evL_cons (u2 rfl up_h) (evL_cons up_h evL_nil))) rfl (inside_yes _ _ _ _ (by omega) (by omega) a2 (by omega) a3) y35_hcf25) ⟨_, rfl, (up_m rfl (u4 rfl hb_50))⟩ rfl ?_
     refine al_ro' (ro_pickT (u2 rfl (u4 rfl hb_50)) up_h) trivial rfl ?_
     refine al_ro' (ro_assign up_h) trivial rfl ?_
     refine al_end (fun e_51 he_51 => ?_)
     have s4_51 := ef 4 he_51 up_h
     clear he_51 hb_50 s15_49 s17_49 s19_49 s20_49
     refine then_n ?_
     refine aw_ret ?_
     refine ret1 (.inr rfl) (by kernel_rfl) (resV_tmp s4_51) (.ro _ rfl) ?_
     clear s4_51 mon_9_1_1_1_48 mon_9_1_1_48 mon_9_1_48 mon_9_48 mo0_48 ml_48
     first | rfl | simp_all
    · cases hq_50
theorem lineBetween_ok (l : Lin) (p : Int) : FnOk Try.prog 3 [lnA l, mA p] (fun q => q = tbA true) := by
  cases hf : fewL l with
  | false => exact lineBetween_many l hf p
  | true =>
    by_cases hg : (linM l).2 = 0
    · by_cases hm : plaE l p = 0
      · exact lineBetween_in l hf hg p hm
      · exact lineBetween_out l hf hg p hm
    · exact lineBetween_bad l hf hg p
end Go.Proofs.Ytknclifdncmgpaa
