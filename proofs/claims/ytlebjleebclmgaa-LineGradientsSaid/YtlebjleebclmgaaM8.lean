/- Texts of this claim, one behind the other: lemmas for the statement. -/
import Derived.Test.YtlebjleebclmgaaM6
import Derived.Test.YtlebjleebclmgaaM7
/- Contracts of chapter 1: bends; the law on gradients. No conditions on a program. -/
namespace Go.Proofs.Ytlebjleebclmgaa
open Go Go.RowKit Go.Proofs
set_option linter.unusedSimpArgs false
set_option linter.unusedVariables false
theorem y31_az46 : (Try.prog.info? 46).bind (·.zero) = some (.agg #[.int .i64 0, .int .i64 0]) := by kernel_rfl
theorem y31_bz46 : (Try.prog.info? 46).bind (·.zero) = some (.agg #[.int .i64 0, .int .i64 0]) := by kernel_rfl
theorem y31_bu46 : Try.prog.underlying 46 = some (.struct (fsOf Try.prog 46)) := by kernel_rfl
theorem y31_bp46 : ∀ w, ((fsOf Try.prog 46).mapM fun f => Prod.mk f.offset <$> sizeOf f.type : Sem (Array (Nat × Nat))).run Try.prog w = .ok (#[(0, 1), (1, 1)]) w := fun _ => by kernel_rfl
theorem y31_fl26_1 : FldIs Try.prog 26 1 1 false 1 := by unfold FldIs; kernel_rfl
theorem y31_fl26_2 : FldIs Try.prog 26 2 2 false 1 := by unfold FldIs; kernel_rfl
theorem y31_fl46_0 : FldIs Try.prog 46 0 0 false 1 := by unfold FldIs; kernel_rfl
theorem y31_fl46_1 : FldIs Try.prog 46 1 1 false 1 := by unfold FldIs; kernel_rfl
theorem y31_fl85_0 : FldIs Try.prog 85 0 0 false 1 := by unfold FldIs; kernel_rfl
theorem y31_fl88_0 : FldIs Try.prog 88 0 0 false 1 := by unfold FldIs; kernel_rfl
theorem y31_hcf39 : ∀ args w, (callFunc 39 args).run Try.prog w = .ok (.enter 39 args) w := fun _ _ => by kernel_rfl
theorem y31_hcf44 : ∀ args w, (callFunc 44 args).run Try.prog w = .ok (.enter 44 args) w := fun _ _ => by kernel_rfl
theorem y31_hcf54 : ∀ args w, (callFunc 54 args).run Try.prog w = .ok (.enter 54 args) w := fun _ _ => by kernel_rfl
theorem y31_hcf55 : ∀ args w, (callFunc 55 args).run Try.prog w = .ok (.enter 55 args) w := fun _ _ => by kernel_rfl
theorem y31_hcf56 : ∀ args w, (callFunc 56 args).run Try.prog w = .ok (.enter 56 args) w := fun _ _ => by kernel_rfl
theorem y31_hcf57 : ∀ args w, (callFunc 57 args).run Try.prog w = .ok (.enter 57 args) w := fun _ _ => by kernel_rfl
theorem y31_hcf60 : ∀ args w, (callFunc 60 args).run Try.prog w = .ok (.enter 60 args) w := fun _ _ => by kernel_rfl
theorem y31_hcf61 : ∀ args w, (callFunc 61 args).run Try.prog w = .ok (.enter 61 args) w := fun _ _ => by kernel_rfl
theorem y31_hcf77 : ∀ args w, (callFunc 77 args).run Try.prog w = .ok (.enter 77 args) w := fun _ _ => by kernel_rfl
theorem y31_sl22 : SlIs Try.prog 22 85 4 32 (.agg #[.int .i64 0, .int .i64 0, .int .i64 0, .int .i64 0]) := ⟨by kernel_rfl, by kernel_rfl, by kernel_rfl⟩
theorem y31_sl23 : SlIs Try.prog 23 88 2 16 (.agg #[.int .i64 0, .int .i64 0]) := ⟨by kernel_rfl, by kernel_rfl, by kernel_rfl⟩
theorem y31_sz46 : (Try.prog.info? 46).map (·.size) = some 2 := by kernel_rfl
theorem y31_ty22 : TyIs Try.prog 22 false 1 := ⟨by kernel_rfl, by kernel_rfl⟩
theorem y31_ty23 : TyIs Try.prog 23 false 1 := ⟨by kernel_rfl, by kernel_rfl⟩
theorem y31_ty26 : TyIs Try.prog 26 true 4 := ⟨by kernel_rfl, by kernel_rfl⟩
theorem y31_ty3 : TyIs Try.prog 3 false 1 := ⟨by kernel_rfl, by kernel_rfl⟩
theorem y31_ty46 : TyIs Try.prog 46 true 2 := ⟨by kernel_rfl, by kernel_rfl⟩

/-- The bend at a joint. -/
def benX (l : Lin) (j : Nat) : Int := fraN (1000 * benN l j) (benD l j)
def benZ (l : Lin) (j : Nat) : Int := fraD (1000 * benN l j) (benD l j)
def benS (l : Lin) (j : Nat) : Bool := smaB (benX l j) 1000000000 && decide (benZ l j ≤ 1000000000)
theorem benX_bd {l : Lin} (h : Rgt l) {j : Nat} (hj : 1 ≤ j ∧ j + 2 ≤ l.js.length) : (benX l j).natAbs ≤ 2400000000000 ∧ 1 ≤ benZ l j ∧ benZ l j ≤ 900000000 := by
  obtain ⟨e1, e2, e3⟩ := ben_bd h hj
  have f1 := fraN_bd (n := 1000 * benN l j) (b := benD l j)
  have f2 := fraD_bd (n := 1000 * benN l j) (b := benD l j) (by omega)
  exact ⟨by unfold benX; omega, by unfold benZ; omega, by unfold benZ; omega⟩
set_option maxRecDepth 100000 in
set_option maxHeartbeats 4000000 in
theorem bendAt_bad (l : Lin) (hl : Sho l) (hb : (linM l).2 ≠ 0) (i : Int) : FnOk Try.prog 26 [lnA l, mA i] (fun q => q = .tuple [frA 0 0, mA (linM l).2]) := by
  refine fnOk_of (fn := Try.f26) 49 (by kernel_rfl) rfl (by kernel_rfl) (Nat.le_of_ble_eq_true rfl) ?_
  intro e_0 m_0 hA hm_0
  have s0_0 : evA e_0 (.tmp 0) = _ := hA 0 _ rfl
  have s1_0 : evA e_0 (.tmp 1) = _ := hA 1 _ rfl
  have ml_0 : m_0.length = 0 := by rw [hm_0]; rfl
  clear hA hm_0
  refine aw_seq ?_
  refine aw_text (by kernel_rfl) ?_
  refine al_stm (st_box s0_0 rfl ml_0) trivial rfl (fun m_1 hm_1 => ?_)
  have mo0_1 := m_push hm_1 ml_0
  have ml_1 := m_push_l hm_1 ml_0
  have ml_1 : _ = 1 := ml_1
  clear hm_1
  refine al_stm (st_alloc y31_az46 rfl ml_1) trivial rfl (fun m_2 hm_2 => ?_)
  have mo1_2 := m_push hm_2 ml_1
  simp only [packA_t, packA_f, iE, bE, setAt, cellsA, Value.cells, map_vc, map_vn, Nat.reduceAdd, qS] at mo1_2
  have mo0_2 := m_push_o hm_2 mo0_1
  have ml_2 := m_push_l hm_2 ml_1
  have ml_2 : _ = 2 := ml_2
  clear hm_2 mo0_1
  refine al_ro' (ro_assign ev_c) trivial rfl ?_
  refine al_end (fun e_3 he_3 => ?_)
  have s1_3 := ef 1 he_3 (up_m rfl (u2 rfl s1_0))
  have s2_3 := ef 2 he_3 (u2 rfl up_h)
  have s4_3 := ef 4 he_3 (up_m rfl up_h)
  clear he_3 s0_0 s1_0
  refine then_n ?_
  refine aw_seq ?_
  refine aw_text (by kernel_rfl) ?_
  refine al_ro' (ro_eq (ro_ld_ptr y31_ty26 rfl mo0_2 s2_3 (by exact Nat.le_of_ble_eq_true rfl)) (by simp only [packA_t, packA_f, iE, bE, setAt, cellsA, Value.cells, map_vc, map_vn, Nat.reduceAdd, qS] <;> rfl)) trivial rfl ?_
  refine al_ro' (ro_call (evL_cons up_h evL_nil) rfl (yOpen_bad l hl hb) y31_hcf39) trivial rfl ?_
  refine al_ro' (ro_move up_h) trivial rfl ?_
  refine al_ro' (ro_extract up_h rfl) trivial rfl ?_
  refine al_ro' (ro_extract (up_m rfl up_h) rfl) trivial rfl ?_
  refine al_ro' (ro_assign (up_m rfl up_h)) trivial rfl ?_
  refine al_ro' (ro_assign (up_m rfl up_h)) trivial rfl ?_
  refine al_end (fun e_4 he_4 => ?_)
  have s1_4 := ef 1 he_4 (up_m rfl (u2 rfl (u4 rfl s1_3)))
  have s4_4 := ef 4 he_4 (up_m rfl (u2 rfl (u4 rfl s4_3)))
  have s6_4 := ef 6 he_4 (up_m rfl up_h)
  have s7_4 := ef 7 he_4 up_h
  clear he_4 s1_3 s2_3 s4_3
  refine then_n ?_
  refine aw_seq ?_
  refine aw_seq ?_
  refine aw_text (by kernel_rfl) ?_
  refine al_ro' (ro_move s7_4) trivial rfl ?_
  refine al_ro' (ro_neq up_h ev_c) trivial rfl ?_
  refine al_end (fun e_5 he_5 => ?_)
  have s1_5 := ef 1 he_5 (u2 rfl s1_4)
  have s4_5 := ef 4 he_5 (u2 rfl s4_4)
  have s6_5 := ef 6 he_5 (u2 rfl s6_4)
  have s7_5 := ef 7 he_5 (u2 rfl s7_4)
  have s18_5 := ef 18 he_5 up_h
  clear he_5 s1_4 s4_4 s6_4 s7_4
  refine then_n ?_
  refine aw_case s18_5 (fun hq_6 => ?_) (fun hq_6 => ?_)
  ·replace hq_6 := bnt hq_6
   refine aw_seq ?_
   refine aw_text (by kernel_rfl) ?_
   refine al_ro' (ro_build evP_nil y31_bz46 y31_bu46 y31_bp46 rfl) trivial rfl ?_
   refine al_ro' (ro_move (up_m rfl s7_5)) trivial rfl ?_
   refine al_stm (st_store (u2 rfl s4_5) (up_m rfl up_h) rfl rfl mo1_2 y31_sz46 rfl (by exact Nat.le_of_ble_eq_true rfl)) trivial rfl (fun m_7 hm_7 => ?_)
   have mo1_7 := m_set hm_7 mo1_2
   simp only [packA_t, packA_f, iE, bE, setAt, cellsA, Value.cells, map_vc, map_vn, Nat.reduceAdd, qS] at mo1_7
   have mo0_7 := m_set_o hm_7 mo0_2 (by decide)
   have ml_7 := m_set_l hm_7 ml_2
   clear hm_7 mo1_2 mo0_2
   refine al_ro' (ro_assign (up_n up_h)) trivial rfl ?_
   refine al_end (fun e_8 he_8 => ?_)
   have s4_8 := ef 4 he_8 (up_m rfl (up_n (u2 rfl s4_5)))
   have s5_8 := ef 5 he_8 up_h
   clear he_8 s18_5 s1_5 s4_5 s6_5 s7_5
   refine then_n ?_
   refine aw_ret ?_
   refine then_r ?_
   refine ret2 (.inr rfl) (by kernel_rfl) (resV_cell s4_8 mo1_7 y31_ty46 (by exact Nat.le_of_ble_eq_true rfl) (by simp)) (resV_tmp s5_8) (vw_r (.ro _ rfl)) (.ro _ rfl) ?_
   clear s4_8 s5_8 mo1_7 mo0_7 ml_7
   rfl
  · replace hq_6 := bnf hq_6; exfalso; omega
set_option maxRecDepth 100000 in
set_option maxHeartbeats 4000000 in
theorem bendAt_out (l : Lin) (hl : Sho l) (hg : (linM l).2 = 0) (i : Int) (hm : misE i 1 (l.js.length - 2) ≠ 0) : FnOk Try.prog 26 [lnA l, mA i] (fun q => q = .tuple [frA 0 0, mA (misE i 1 (l.js.length - 2))]) := by
  refine fnOk_of (fn := Try.f26) 49 (by kernel_rfl) rfl (by kernel_rfl) (Nat.le_of_ble_eq_true rfl) ?_
  intro e_0 m_0 hA hm_0
  have s0_0 : evA e_0 (.tmp 0) = _ := hA 0 _ rfl
  have s1_0 : evA e_0 (.tmp 1) = _ := hA 1 _ rfl
  have ml_0 : m_0.length = 0 := by rw [hm_0]; rfl
  clear hA hm_0
  have h := rgt_of hg
  refine aw_seq ?_
  refine aw_text (by kernel_rfl) ?_
  refine al_stm (st_box s0_0 rfl ml_0) trivial rfl (fun m_1 hm_1 => ?_)
  have mo0_1 := m_push hm_1 ml_0
  have ml_1 := m_push_l hm_1 ml_0
  have ml_1 : _ = 1 := ml_1
  clear hm_1
  refine al_stm (st_alloc y31_az46 rfl ml_1) trivial rfl (fun m_2 hm_2 => ?_)
  have mo1_2 := m_push hm_2 ml_1
  simp only [packA_t, packA_f, iE, bE, setAt, cellsA, Value.cells, map_vc, map_vn, Nat.reduceAdd, qS] at mo1_2
  have mo0_2 := m_push_o hm_2 mo0_1
  have ml_2 := m_push_l hm_2 ml_1
  have ml_2 : _ = 2 := ml_2
  clear hm_2 mo0_1
  refine al_ro' (ro_assign ev_c) trivial rfl ?_
  refine al_end (fun e_3 he_3 => ?_)
  have s1_3 := ef 1 he_3 (up_m rfl (u2 rfl s1_0))
  have s2_3 := ef 2 he_3 (u2 rfl up_h)
  have s4_3 := ef 4 he_3 (up_m rfl up_h)
  clear he_3 s0_0 s1_0
  refine then_n ?_
  refine aw_seq ?_
  refine aw_text (by kernel_rfl) ?_
  refine al_ro' (ro_eq (ro_ld_ptr y31_ty26 rfl mo0_2 s2_3 (by exact Nat.le_of_ble_eq_true rfl)) (by simp only [packA_t, packA_f, iE, bE, setAt, cellsA, Value.cells, map_vc, map_vn, Nat.reduceAdd, qS] <;> rfl)) trivial rfl ?_
  refine al_ro' (ro_call (evL_cons up_h evL_nil) rfl (yOpen_good l hl hg) y31_hcf39) trivial rfl ?_
  refine al_ro' (ro_move up_h) trivial rfl ?_
  refine al_ro' (ro_extract up_h rfl) trivial rfl ?_
  refine al_ro' (ro_extract (up_m rfl up_h) rfl) trivial rfl ?_
  refine al_ro' (ro_assign (up_m rfl up_h)) trivial rfl ?_
  refine al_ro' (ro_assign (up_m rfl up_h)) trivial rfl ?_
  refine al_end (fun e_4 he_4 => ?_)
  have s1_4 := ef 1 he_4 (up_m rfl (u2 rfl (u4 rfl s1_3)))
  have s4_4 := ef 4 he_4 (up_m rfl (u2 rfl (u4 rfl s4_3)))
  have s6_4 := ef 6 he_4 (up_m rfl up_h)
  have s7_4 := ef 7 he_4 up_h
  clear he_4 s1_3 s2_3 s4_3
  refine then_n ?_
  refine aw_seq ?_
  refine aw_seq ?_
  refine aw_text (by kernel_rfl) ?_
  refine al_ro' (ro_move s7_4) trivial rfl ?_
  refine al_ro' (ro_neq up_h ev_c) trivial rfl ?_
  refine al_end (fun e_5 he_5 => ?_)
  have s1_5 := ef 1 he_5 (u2 rfl s1_4)
  have s4_5 := ef 4 he_5 (u2 rfl s4_4)
  have s6_5 := ef 6 he_5 (u2 rfl s6_4)
  have s7_5 := ef 7 he_5 (u2 rfl s7_4)
  have s18_5 := ef 18 he_5 up_h
  clear he_5 s1_4 s4_4 s6_4 s7_4
  refine then_n ?_
  refine aw_case s18_5 (fun hq_6 => ?_) (fun hq_6 => ?_)
  · cases hq_6
  replace hq_6 := bnf hq_6
  refine aw_skip ?_
  refine then_n ?_
  refine aw_seq ?_
  refine aw_seq ?_
  refine aw_text (by kernel_rfl) ?_
  refine al_ro' (ro_move s6_5) trivial rfl ?_
  refine al_ro' (ro_move (up_m rfl s1_5)) trivial rfl ?_
  refine al_ro' (ro_call (evL_cons (up_m rfl up_h) (evL_cons up_h evL_nil)) rfl (yInnerErr_ok l h i) y31_hcf54) trivial rfl ?_
  refine al_ro' (ro_assign up_h) trivial rfl ?_
  refine al_end (fun e_7 he_7 => ?_)
  have s1_7 := ef 1 he_7 (u4 rfl s1_5)
  have s4_7 := ef 4 he_7 (u4 rfl s4_5)
  have s6_7 := ef 6 he_7 (u4 rfl s6_5)
  have s8_7 := ef 8 he_7 up_h
  clear he_7 s18_5 s1_5 s4_5 s6_5 s7_5
  refine then_n ?_
  refine aw_seq ?_
  refine aw_text (by kernel_rfl) ?_
  refine al_ro' (ro_move s8_7) trivial rfl ?_
  refine al_ro' (ro_neq up_h ev_c) trivial rfl ?_
  refine al_end (fun e_8 he_8 => ?_)
  have s1_8 := ef 1 he_8 (u2 rfl s1_7)
  have s4_8 := ef 4 he_8 (u2 rfl s4_7)
  have s6_8 := ef 6 he_8 (u2 rfl s6_7)
  have s8_8 := ef 8 he_8 (u2 rfl s8_7)
  have s25_8 := ef 25 he_8 up_h
  clear he_8 s1_7 s4_7 s6_7 s8_7
  refine then_n ?_
  refine aw_case s25_8 (fun hq_9 => ?_) (fun hq_9 => ?_)
  ·replace hq_9 := bnt hq_9
   refine aw_seq ?_
   refine aw_text (by kernel_rfl) ?_
   refine al_ro' (ro_build evP_nil y31_bz46 y31_bu46 y31_bp46 rfl) trivial rfl ?_
   refine al_ro' (ro_move (up_m rfl s8_8)) trivial rfl ?_
   refine al_stm (st_store (u2 rfl s4_8) (up_m rfl up_h) rfl rfl mo1_2 y31_sz46 rfl (by exact Nat.le_of_ble_eq_true rfl)) trivial rfl (fun m_10 hm_10 => ?_)
   have mo1_10 := m_set hm_10 mo1_2
   simp only [packA_t, packA_f, iE, bE, setAt, cellsA, Value.cells, map_vc, map_vn, Nat.reduceAdd, qS] at mo1_10
   have mo0_10 := m_set_o hm_10 mo0_2 (by decide)
   have ml_10 := m_set_l hm_10 ml_2
   clear hm_10 mo1_2 mo0_2
   refine al_ro' (ro_assign (up_n up_h)) trivial rfl ?_
   refine al_end (fun e_11 he_11 => ?_)
   have s4_11 := ef 4 he_11 (up_m rfl (up_n (u2 rfl s4_8)))
   have s5_11 := ef 5 he_11 up_h
   clear he_11 s1_8 s25_8 s4_8 s6_8 s8_8
   refine then_n ?_
   refine aw_ret ?_
   refine then_r ?_
   refine ret2 (.inr rfl) (by kernel_rfl) (resV_cell s4_11 mo1_10 y31_ty46 (by exact Nat.le_of_ble_eq_true rfl) (by simp)) (resV_tmp s5_11) (vw_r (.ro _ rfl)) (.ro _ rfl) ?_
   clear s4_11 s5_11 mo1_10 mo0_10 ml_10
   rfl
  · replace hq_9 := bnf hq_9; exfalso; omega
set_option maxRecDepth 100000 in
set_option maxHeartbeats 1000000 in
theorem small_ok (n m : Int) (hm : -1000000000 ≤ m ∧ m ≤ 1000000000) : FnOk Try.prog 57 [mA n, mA m] (fun q => q = tbA (smaB n m)) := by
  refine fnOk_of (fn := Try.f57) 10 (by kernel_rfl) rfl (by kernel_rfl) (Nat.le_of_ble_eq_true rfl) ?_
  intro e_0 m_0 hA hm_0
  have s0_0 : evA e_0 (.tmp 0) = _ := hA 0 _ rfl
  have s1_0 : evA e_0 (.tmp 1) = _ := hA 1 _ rfl
  have ml_0 : m_0.length = 0 := by rw [hm_0]; rfl
  clear hA hm_0
  refine aw_seq ?_
  refine aw_text (by kernel_rfl) ?_
  refine al_ro' (ro_assign ev_c) trivial rfl ?_
  refine al_end (fun e_1 he_1 => ?_)
  have s0_1 := ef 0 he_1 (up_m rfl s0_0)
  have s1_1 := ef 1 he_1 (up_m rfl s1_0)
  clear he_1 s0_0 s1_0
  refine then_n ?_
  refine aw_seq ?_
  refine aw_text (by kernel_rfl) ?_
  refine al_ro' (ro_move s0_1) trivial rfl ?_
  refine al_ro' (ro_move (up_m rfl s1_1)) trivial rfl ?_
  (refine al_ro' (ro_neg' up_h ?_) trivial rfl ?_; · (unfold In64; omega))
  refine al_ro' (ro_move (up_m rfl (u2 rfl s1_1))) trivial rfl ?_
  refine al_ro' (ro_call (evL_cons (up_m rfl (u2 rfl up_h)) (evL_cons (up_m rfl up_h) (evL_cons up_h evL_nil))) rfl (yWithin_ok _ _ _) y31_hcf77) trivial rfl ?_
  refine al_ro' (ro_assign up_h) trivial rfl ?_
  refine al_end (fun e_2 he_2 => ?_)
  have s4_2 := ef 4 he_2 up_h
  clear he_2 s0_1 s1_1
  refine then_n ?_
  refine aw_ret ?_
  refine ret1 (.inr rfl) (by kernel_rfl) (resV_tmp s4_2) (.ro _ rfl) ?_
  clear s4_2  ml_0
  rfl
set_option maxRecDepth 100000 in
set_option maxHeartbeats 4000000 in
theorem bendAt_in (l : Lin) (hl : Sho l) (hg : (linM l).2 = 0) (i : Int) (hm : misE i 1 (l.js.length - 2) = 0) : FnOk Try.prog 26 [lnA l, mA i] (fun q => q = if benS l i.toNat then .tuple [frA (benX l i.toNat) (benZ l i.toNat), mA 0] else .tuple [frA 0 0, mA 8]) := by
  refine fnOk_of (fn := Try.f26) 49 (by kernel_rfl) rfl (by kernel_rfl) (Nat.le_of_ble_eq_true rfl) ?_
  intro e_0 m_0 hA hm_0
  have s0_0 : evA e_0 (.tmp 0) = _ := hA 0 _ rfl
  have s1_0 : evA e_0 (.tmp 1) = _ := hA 1 _ rfl
  have ml_0 : m_0.length = 0 := by rw [hm_0]; rfl
  clear hA hm_0
  have h := rgt_of hg; have hjs := h.js; have hm2 := misE_z.1 hm; have hj : 1 ≤ i.toNat ∧ i.toNat + 2 ≤ l.js.length := (by omega); have gr := bend_ok l h i.toNat hj; rw [show ((i.toNat : Nat) : Int) = i by omega] at gr; obtain ⟨e1, e2, e3⟩ := ben_bd h hj
  refine aw_seq ?_
  refine aw_text (by kernel_rfl) ?_
  refine al_stm (st_box s0_0 rfl ml_0) trivial rfl (fun m_1 hm_1 => ?_)
  have mo0_1 := m_push hm_1 ml_0
  have ml_1 := m_push_l hm_1 ml_0
  have ml_1 : _ = 1 := ml_1
  clear hm_1
  refine al_stm (st_alloc y31_az46 rfl ml_1) trivial rfl (fun m_2 hm_2 => ?_)
  have mo1_2 := m_push hm_2 ml_1
  simp only [packA_t, packA_f, iE, bE, setAt, cellsA, Value.cells, map_vc, map_vn, Nat.reduceAdd, qS] at mo1_2
  have mo0_2 := m_push_o hm_2 mo0_1
  have ml_2 := m_push_l hm_2 ml_1
  have ml_2 : _ = 2 := ml_2
  clear hm_2 mo0_1
  refine al_ro' (ro_assign ev_c) trivial rfl ?_
  refine al_end (fun e_3 he_3 => ?_)
  have s1_3 := ef 1 he_3 (up_m rfl (u2 rfl s1_0))
  have s2_3 := ef 2 he_3 (u2 rfl up_h)
  have s4_3 := ef 4 he_3 (up_m rfl up_h)
  clear he_3 s0_0 s1_0
  refine then_n ?_
  refine aw_seq ?_
  refine aw_text (by kernel_rfl) ?_
  refine al_ro' (ro_eq (ro_ld_ptr y31_ty26 rfl mo0_2 s2_3 (by exact Nat.le_of_ble_eq_true rfl)) (by simp only [packA_t, packA_f, iE, bE, setAt, cellsA, Value.cells, map_vc, map_vn, Nat.reduceAdd, qS] <;> rfl)) trivial rfl ?_
  refine al_ro' (ro_call (evL_cons up_h evL_nil) rfl (yOpen_good l hl hg) y31_hcf39) trivial rfl ?_
  refine al_ro' (ro_move up_h) trivial rfl ?_
  refine al_ro' (ro_extract up_h rfl) trivial rfl ?_
  refine al_ro' (ro_extract (up_m rfl up_h) rfl) trivial rfl ?_
  refine al_ro' (ro_assign (up_m rfl up_h)) trivial rfl ?_
  refine al_ro' (ro_assign (up_m rfl up_h)) trivial rfl ?_
  refine al_end (fun e_4 he_4 => ?_)
  have s1_4 := ef 1 he_4 (up_m rfl (u2 rfl (u4 rfl s1_3)))
  have s4_4 := ef 4 he_4 (up_m rfl (u2 rfl (u4 rfl s4_3)))
  have s6_4 := ef 6 he_4 (up_m rfl up_h)
  have s7_4 := ef 7 he_4 up_h
  clear he_4 s1_3 s2_3 s4_3
  refine then_n ?_
  refine aw_seq ?_
  refine aw_seq ?_
  refine aw_text (by kernel_rfl) ?_
  refine al_ro' (ro_move s7_4) trivial rfl ?_
  refine al_ro' (ro_neq up_h ev_c) trivial rfl ?_
  refine al_end (fun e_5 he_5 => ?_)
  have s1_5 := ef 1 he_5 (u2 rfl s1_4)
  have s4_5 := ef 4 he_5 (u2 rfl s4_4)
  have s6_5 := ef 6 he_5 (u2 rfl s6_4)
  have s7_5 := ef 7 he_5 (u2 rfl s7_4)
  have s18_5 := ef 18 he_5 up_h
  clear he_5 s1_4 s4_4 s6_4 s7_4
  refine then_n ?_
  refine aw_case s18_5 (fun hq_6 => ?_) (fun hq_6 => ?_)
  · cases hq_6
  replace hq_6 := bnf hq_6
  refine aw_skip ?_
  refine then_n ?_
  refine aw_seq ?_
  refine aw_seq ?_
  refine aw_text (by kernel_rfl) ?_
  refine al_ro' (ro_move s6_5) trivial rfl ?_
  refine al_ro' (ro_move (up_m rfl s1_5)) trivial rfl ?_
  refine al_ro' (ro_call (evL_cons (up_m rfl up_h) (evL_cons up_h evL_nil)) rfl (yInnerErr_ok l h i) y31_hcf54) trivial rfl ?_
  refine al_ro' (ro_assign up_h) trivial rfl ?_
  refine al_end (fun e_7 he_7 => ?_)
  have s1_7 := ef 1 he_7 (u4 rfl s1_5)
  have s4_7 := ef 4 he_7 (u4 rfl s4_5)
  have s6_7 := ef 6 he_7 (u4 rfl s6_5)
  have s8_7 := ef 8 he_7 up_h
  clear he_7 s18_5 s1_5 s4_5 s6_5 s7_5
  refine then_n ?_
  refine aw_seq ?_
  refine aw_text (by kernel_rfl) ?_
  refine al_ro' (ro_move s8_7) trivial rfl ?_
  refine al_ro' (ro_neq up_h ev_c) trivial rfl ?_
  refine al_end (fun e_8 he_8 => ?_)
  have s1_8 := ef 1 he_8 (u2 rfl s1_7)
  have s4_8 := ef 4 he_8 (u2 rfl s4_7)
  have s6_8 := ef 6 he_8 (u2 rfl s6_7)
  have s8_8 := ef 8 he_8 (u2 rfl s8_7)
  have s25_8 := ef 25 he_8 up_h
  clear he_8 s1_7 s4_7 s6_7 s8_7
  refine then_n ?_
  refine aw_case s25_8 (fun hq_9 => ?_) (fun hq_9 => ?_)
  · replace hq_9 := bnt hq_9; exfalso; omega
  replace hq_9 := bnf hq_9
  refine aw_skip ?_
  refine then_n ?_
  refine aw_seq ?_
  refine aw_text (by kernel_rfl) ?_
  refine al_ro' (ro_move s6_8) trivial rfl ?_
  refine al_ro' (ro_move (up_m rfl s1_8)) trivial rfl ?_
  refine al_ro' (ro_call (evL_cons (up_m rfl up_h) (evL_cons up_h evL_nil)) rfl (gr) y31_hcf55) trivial rfl ?_
  refine al_ro' (ro_move up_h) trivial rfl ?_
  refine al_ro' (ro_extract up_h rfl) trivial rfl ?_
  refine al_ro' (ro_extract (up_m rfl up_h) rfl) trivial rfl ?_
  refine al_ro' (ro_assign (up_m rfl up_h)) trivial rfl ?_
  refine al_ro' (ro_assign (up_m rfl up_h)) trivial rfl ?_
  refine al_end (fun e_10 he_10 => ?_)
  have s4_10 := ef 4 he_10 (u8 rfl s4_8)
  have s9_10 := ef 9 he_10 (up_m rfl up_h)
  have s10_10 := ef 10 he_10 up_h
  clear he_10 s1_8 s25_8 s4_8 s6_8 s8_8
  refine then_n ?_
  refine aw_seq ?_
  refine aw_text (by kernel_rfl) ?_
  refine al_ro' (ro_move s9_10) trivial rfl ?_
  (refine al_ro' (ro_mul' ev_c up_h ?_) trivial rfl ?_; · (unfold In64; omega))
  refine al_ro' (ro_move (u2 rfl s10_10)) trivial rfl ?_
  refine al_ro' (ro_call (evL_cons (up_m rfl up_h) (evL_cons up_h evL_nil)) rfl ((frac_ok (1000 * benN l i.toNat) (benD l i.toNat) (by omega) (by omega)).mono (fun q h => show q = frA (benX l i.toNat) (benZ l i.toNat) from h)) y31_hcf56) trivial rfl ?_
  refine al_stm (st_alloc y31_az46 rfl ml_2) trivial rfl (fun m_11 hm_11 => ?_)
  have mo2_11 := m_push hm_11 ml_2
  simp only [packA_t, packA_f, iE, bE, setAt, cellsA, Value.cells, map_vc, map_vn, Nat.reduceAdd, qS] at mo2_11
  have mo1_11 := m_push_o hm_11 mo1_2
  have mo0_11 := m_push_o hm_11 mo0_2
  have ml_11 := m_push_l hm_11 ml_2
  have ml_11 : _ = 3 := ml_11
  clear hm_11 mo1_2 mo0_2
  refine al_stm (st_store up_h (up_m rfl up_h) rfl rfl mo2_11 y31_sz46 rfl (by exact Nat.le_of_ble_eq_true rfl)) trivial rfl (fun m_12 hm_12 => ?_)
  have mo2_12 := m_set hm_12 mo2_11
  simp only [packA_t, packA_f, iE, bE, setAt, cellsA, Value.cells, map_vc, map_vn, Nat.reduceAdd, qS] at mo2_12
  have mo1_12 := m_set_o hm_12 mo1_11 (by decide)
  have mo0_12 := m_set_o hm_12 mo0_11 (by decide)
  have ml_12 := m_set_l hm_12 ml_11
  clear hm_12 mo2_11 mo1_11 mo0_11
  refine al_end (fun e_13 he_13 => ?_)
  have s4_13 := ef 4 he_13 (up_n (up_m rfl (u4 rfl s4_10)))
  have s11_13 := ef 11 he_13 (up_n up_h)
  clear he_13 s10_10 s4_10 s9_10
  refine then_n ?_
  refine aw_seq ?_
  refine aw_seq ?_
  refine aw_text (by kernel_rfl) ?_
  refine al_ro' (ro_fld_ptr y31_fl46_0 rfl s11_13) trivial rfl ?_
  refine al_ro' (ro_eq (ro_ld_ptr y31_ty3 rfl mo2_12 up_h (by exact Nat.le_of_ble_eq_true rfl)) (by simp only [packA_t, packA_f, iE, bE, setAt, cellsA, Value.cells, map_vc, map_vn, Nat.reduceAdd, qS] <;> rfl)) trivial rfl ?_
  refine al_ro' (ro_call (evL_cons up_h (evL_cons ev_c evL_nil)) rfl (small_ok _ _ (by decide)) y31_hcf57) trivial rfl ?_
  refine al_ro' (ro_not up_h) trivial rfl ?_
  refine al_ro' (ro_move up_h) trivial rfl ?_
  refine al_case up_h (fun hb_14 hq_14 => ?_) (fun hb_14 hq_14 => ?_)
  ·replace hq_14 := bt' hq_14
   refine al_skip' ⟨_, rfl, .inl hb_14⟩ rfl ?_
   refine al_skip' ⟨_, rfl, .inl (up_m rfl hb_14)⟩ rfl ?_
   refine al_skip' ⟨_, rfl, .inl (u2 rfl hb_14)⟩ rfl ?_
   refine al_ro' (ro_pickT (up_m rfl (u2 rfl hb_14)) ev_c) trivial rfl ?_
   refine al_end (fun e_15 he_15 => ?_)
   have s4_15 := ef 4 he_15 (up_m rfl (u8 rfl s4_13))
   have s11_15 := ef 11 he_15 (up_m rfl (u8 rfl s11_13))
   have s46_15 := ef 46 he_15 up_h
   clear he_15 hb_14 s11_13 s4_13
   refine then_n ?_
   refine aw_true s46_15 ?_
   refine aw_seq ?_
   refine aw_text (by kernel_rfl) ?_
   refine al_ro' (ro_build evP_nil y31_bz46 y31_bu46 y31_bp46 rfl) trivial rfl ?_
   refine al_stm (st_store (up_m rfl s4_15) up_h rfl rfl mo1_12 y31_sz46 rfl (by exact Nat.le_of_ble_eq_true rfl)) trivial rfl (fun m_17 hm_17 => ?_)
   have mo1_17 := m_set hm_17 mo1_12
   simp only [packA_t, packA_f, iE, bE, setAt, cellsA, Value.cells, map_vc, map_vn, Nat.reduceAdd, qS] at mo1_17
   have mo2_17 := m_set_o hm_17 mo2_12 (by decide)
   have mo0_17 := m_set_o hm_17 mo0_12 (by decide)
   have ml_17 := m_set_l hm_17 ml_12
   clear hm_17 mo2_12 mo1_12 mo0_12
   refine al_ro' (ro_assign ev_c) trivial rfl ?_
   refine al_end (fun e_18 he_18 => ?_)
   have s4_18 := ef 4 he_18 (up_m rfl (up_n (up_m rfl s4_15)))
   have s5_18 := ef 5 he_18 up_h
   clear he_18 s11_15 s46_15 s4_15
   refine then_n ?_
   refine aw_ret ?_
   refine then_r ?_
   refine ret2 (.inr rfl) (by kernel_rfl) (resV_cell s4_18 mo1_17 y31_ty46 (by exact Nat.le_of_ble_eq_true rfl) (by simp)) (resV_tmp s5_18) (vw_r (.ro _ rfl)) (.ro _ rfl) ?_
   clear s4_18 s5_18 mo1_17 mo2_17 mo0_17 ml_17
   (unfold benS; simp_all [frA])
  replace hq_14 := bf' hq_14
  refine al_ro' (ro_fld_ptr y31_fl46_1 rfl (up_m rfl (u4 rfl s11_13))) ⟨_, rfl, hb_14⟩ rfl ?_
  refine al_ro' (ro_eq (ro_ld_ptr y31_ty3 rfl mo2_12 up_h (by exact Nat.le_of_ble_eq_true rfl)) (by simp only [packA_t, packA_f, iE, bE, setAt, cellsA, Value.cells, map_vc, map_vn, Nat.reduceAdd, qS] <;> rfl)) ⟨_, rfl, (up_m rfl hb_14)⟩ rfl ?_
  refine al_ro' (ro_gtr up_h ev_c) ⟨_, rfl, (u2 rfl hb_14)⟩ rfl ?_
  refine al_ro' (ro_pickF (up_m rfl (u2 rfl hb_14)) up_h) trivial rfl ?_
  refine al_end (fun e_19 he_19 => ?_)
  have s4_19 := ef 4 he_19 (up_m rfl (u8 rfl s4_13))
  have s11_19 := ef 11 he_19 (up_m rfl (u8 rfl s11_13))
  have s46_19 := ef 46 he_19 up_h
  clear he_19 hb_14 s11_13 s4_13
  refine then_n ?_
  refine aw_case s46_19 (fun hq_20 => ?_) (fun hq_20 => ?_)
  ·replace hq_20 := bt hq_20
   refine aw_seq ?_
   refine aw_text (by kernel_rfl) ?_
   refine al_ro' (ro_build evP_nil y31_bz46 y31_bu46 y31_bp46 rfl) trivial rfl ?_
   refine al_stm (st_store (up_m rfl s4_19) up_h rfl rfl mo1_12 y31_sz46 rfl (by exact Nat.le_of_ble_eq_true rfl)) trivial rfl (fun m_21 hm_21 => ?_)
   have mo1_21 := m_set hm_21 mo1_12
   simp only [packA_t, packA_f, iE, bE, setAt, cellsA, Value.cells, map_vc, map_vn, Nat.reduceAdd, qS] at mo1_21
   have mo2_21 := m_set_o hm_21 mo2_12 (by decide)
   have mo0_21 := m_set_o hm_21 mo0_12 (by decide)
   have ml_21 := m_set_l hm_21 ml_12
   clear hm_21 mo2_12 mo1_12 mo0_12
   refine al_ro' (ro_assign ev_c) trivial rfl ?_
   refine al_end (fun e_22 he_22 => ?_)
   have s4_22 := ef 4 he_22 (up_m rfl (up_n (up_m rfl s4_19)))
   have s5_22 := ef 5 he_22 up_h
   clear he_22 s11_19 s46_19 s4_19
   refine then_n ?_
   refine aw_ret ?_
   refine then_r ?_
   refine ret2 (.inr rfl) (by kernel_rfl) (resV_cell s4_22 mo1_21 y31_ty46 (by exact Nat.le_of_ble_eq_true rfl) (by simp)) (resV_tmp s5_22) (vw_r (.ro _ rfl)) (.ro _ rfl) ?_
   clear s4_22 s5_22 mo1_21 mo2_21 mo0_21 ml_21
   (unfold benS; simp_all [frA])
  replace hq_20 := bf hq_20
  refine aw_skip ?_
  refine then_n ?_
  refine aw_seq ?_
  refine aw_text (by kernel_rfl) ?_
  refine al_ro' (ro_eq (ro_ld_ptr y31_ty46 rfl mo2_12 s11_19 (by exact Nat.le_of_ble_eq_true rfl)) (by simp only [packA_t, packA_f, iE, bE, setAt, cellsA, Value.cells, map_vc, map_vn, Nat.reduceAdd, qS] <;> rfl)) trivial rfl ?_
  refine al_stm (st_store (up_m rfl s4_19) up_h rfl rfl mo1_12 y31_sz46 rfl (by exact Nat.le_of_ble_eq_true rfl)) trivial rfl (fun m_23 hm_23 => ?_)
  have mo1_23 := m_set hm_23 mo1_12
  simp only [packA_t, packA_f, iE, bE, setAt, cellsA, Value.cells, map_vc, map_vn, Nat.reduceAdd, qS] at mo1_23
  have mo2_23 := m_set_o hm_23 mo2_12 (by decide)
  have mo0_23 := m_set_o hm_23 mo0_12 (by decide)
  have ml_23 := m_set_l hm_23 ml_12
  clear hm_23 mo2_12 mo1_12 mo0_12
  refine al_ro' (ro_assign ev_c) trivial rfl ?_
  refine al_end (fun e_24 he_24 => ?_)
  have s4_24 := ef 4 he_24 (up_m rfl (up_n (up_m rfl s4_19)))
  have s5_24 := ef 5 he_24 up_h
  clear he_24 s11_19 s46_19 s4_19
  refine then_n ?_
  refine aw_ret ?_
  refine ret2 (.inr rfl) (by kernel_rfl) (resV_cell s4_24 mo1_23 y31_ty46 (by exact Nat.le_of_ble_eq_true rfl) (by simp)) (resV_tmp s5_24) (vw_r (.ro _ rfl)) (.ro _ rfl) ?_
  clear s4_24 s5_24 mo1_23 mo2_23 mo0_23 ml_23
  (unfold benS; simp_all [frA])
set_option maxRecDepth 100000 in
set_option maxHeartbeats 1000000 in
theorem beamErr_ok (l : Lin) (h : Rgt l) (n : Int) : FnOk Try.prog 28 [lnA l, mA n] (fun q => q = mA (misE n 0 (l.bs.length - 1))) := by
  have hn1 := h.n1
  refine fnOk_of (fn := Try.f28) 12 (by kernel_rfl) rfl (by kernel_rfl) (Nat.le_of_ble_eq_true rfl) ?_
  intro e_0 m_0 hA hm_0
  have s0_0 : evA e_0 (.tmp 0) = _ := hA 0 _ rfl
  have s1_0 : evA e_0 (.tmp 1) = _ := hA 1 _ rfl
  have ml_0 : m_0.length = 0 := by rw [hm_0]; rfl
  clear hA hm_0
  refine aw_seq ?_
  refine aw_text (by kernel_rfl) ?_
  refine al_stm (st_box s0_0 rfl ml_0) trivial rfl (fun m_1 hm_1 => ?_)
  have mo0_1 := m_push hm_1 ml_0
  have ml_1 := m_push_l hm_1 ml_0
  have ml_1 : _ = 1 := ml_1
  clear hm_1
  refine al_ro' (ro_assign ev_c) trivial rfl ?_
  refine al_end (fun e_2 he_2 => ?_)
  have s1_2 := ef 1 he_2 (u2 rfl s1_0)
  have s2_2 := ef 2 he_2 (up_m rfl up_h)
  clear he_2 s0_0 s1_0
  refine then_n ?_
  refine aw_seq ?_
  refine aw_seq ?_
  refine aw_text (by kernel_rfl) ?_
  refine al_ro' (ro_move s1_2) trivial rfl ?_
  refine al_ro' (ro_fld_ptr y31_fl26_2 rfl (up_m rfl s2_2)) trivial rfl ?_
  refine al_ro' (ro_eq (ro_ld_ptr y31_ty23 rfl mo0_1 up_h (by exact Nat.le_of_ble_eq_true rfl)) (by simp only [packA_t, packA_f, iE, bE, setAt, cellsA, Value.cells, map_vc, map_vn, Nat.reduceAdd, qS] <;> rfl)) trivial rfl ?_
  refine al_ro' (ro_eq (ro_len_row up_h rfl y31_sl23.1) (by simp only [lnS] <;> rfl)) trivial rfl ?_
  (refine al_ro' (ro_sub' up_h ev_c ?_) trivial rfl ?_; · (unfold In64; omega))
  refine al_ro' (ro_call (evL_cons (u4 rfl up_h) (evL_cons ev_c (evL_cons up_h evL_nil))) rfl (bWithin_ok _ _ _) y31_hcf44) trivial rfl ?_
  refine al_ro' (ro_not up_h) trivial rfl ?_
  refine al_end (fun e_3 he_3 => ?_)
  have s11_3 := ef 11 he_3 up_h
  clear he_3 s1_2 s2_2
  refine then_n ?_
  refine aw_case s11_3 (fun hq_4 => ?_) (fun hq_4 => ?_)
  ·replace hq_4 := bt' hq_4
   refine aw_seq ?_
   refine aw_text (by kernel_rfl) ?_
   refine al_ro' (ro_assign ev_c) trivial rfl ?_
   refine al_end (fun e_5 he_5 => ?_)
   have s4_5 := ef 4 he_5 up_h
   clear he_5 s11_3
   refine then_n ?_
   refine aw_ret ?_
   refine then_r ?_
   refine ret1 (.inr rfl) (by kernel_rfl) (resV_tmp s4_5) (.ro _ rfl) ?_
   clear s4_5 mo0_1 ml_1
   (unfold misE; simp_all)
  replace hq_4 := bf' hq_4
  refine aw_skip ?_
  refine then_n ?_
  refine aw_seq ?_
  refine aw_text (by kernel_rfl) ?_
  refine al_ro' (ro_assign ev_c) trivial rfl ?_
  refine al_end (fun e_6 he_6 => ?_)
  have s4_6 := ef 4 he_6 up_h
  clear he_6 s11_3
  refine then_n ?_
  refine aw_ret ?_
  refine ret1 (.inr rfl) (by kernel_rfl) (resV_tmp s4_6) (.ro _ rfl) ?_
  clear s4_6 mo0_1 ml_1
  (unfold misE; simp_all)
set_option maxRecDepth 100000 in
set_option maxHeartbeats 1000000 in
theorem innerErr_ok (l : Lin) (h : Rgt l) (n : Int) : FnOk Try.prog 30 [lnA l, mA n] (fun q => q = mA (misE n 1 (l.js.length - 2))) := by
  have hn1 := h.n1
  have hjs := h.js
  refine fnOk_of (fn := Try.f30) 12 (by kernel_rfl) rfl (by kernel_rfl) (Nat.le_of_ble_eq_true rfl) ?_
  intro e_0 m_0 hA hm_0
  have s0_0 : evA e_0 (.tmp 0) = _ := hA 0 _ rfl
  have s1_0 : evA e_0 (.tmp 1) = _ := hA 1 _ rfl
  have ml_0 : m_0.length = 0 := by rw [hm_0]; rfl
  clear hA hm_0
  refine aw_seq ?_
  refine aw_text (by kernel_rfl) ?_
  refine al_stm (st_box s0_0 rfl ml_0) trivial rfl (fun m_1 hm_1 => ?_)
  have mo0_1 := m_push hm_1 ml_0
  have ml_1 := m_push_l hm_1 ml_0
  have ml_1 : _ = 1 := ml_1
  clear hm_1
  refine al_ro' (ro_assign ev_c) trivial rfl ?_
  refine al_end (fun e_2 he_2 => ?_)
  have s1_2 := ef 1 he_2 (u2 rfl s1_0)
  have s2_2 := ef 2 he_2 (up_m rfl up_h)
  clear he_2 s0_0 s1_0
  refine then_n ?_
  refine aw_seq ?_
  refine aw_seq ?_
  refine aw_text (by kernel_rfl) ?_
  refine al_ro' (ro_move s1_2) trivial rfl ?_
  refine al_ro' (ro_fld_ptr y31_fl26_1 rfl (up_m rfl s2_2)) trivial rfl ?_
  refine al_ro' (ro_eq (ro_ld_ptr y31_ty22 rfl mo0_1 up_h (by exact Nat.le_of_ble_eq_true rfl)) (by simp only [packA_t, packA_f, iE, bE, setAt, cellsA, Value.cells, map_vc, map_vn, Nat.reduceAdd, qS] <;> rfl)) trivial rfl ?_
  refine al_ro' (ro_eq (ro_len_row up_h rfl y31_sl22.1) (by simp only [lnS] <;> rfl)) trivial rfl ?_
  (refine al_ro' (ro_sub' up_h ev_c ?_) trivial rfl ?_; · (unfold In64; omega))
  refine al_ro' (ro_call (evL_cons (u4 rfl up_h) (evL_cons ev_c (evL_cons up_h evL_nil))) rfl (bWithin_ok _ _ _) y31_hcf44) trivial rfl ?_
  refine al_ro' (ro_not up_h) trivial rfl ?_
  refine al_end (fun e_3 he_3 => ?_)
  have s11_3 := ef 11 he_3 up_h
  clear he_3 s1_2 s2_2
  refine then_n ?_
  refine aw_case s11_3 (fun hq_4 => ?_) (fun hq_4 => ?_)
  ·replace hq_4 := bt' hq_4
   refine aw_seq ?_
   refine aw_text (by kernel_rfl) ?_
   refine al_ro' (ro_assign ev_c) trivial rfl ?_
   refine al_end (fun e_5 he_5 => ?_)
   have s4_5 := ef 4 he_5 up_h
   clear he_5 s11_3
   refine then_n ?_
   refine aw_ret ?_
   refine then_r ?_
   refine ret1 (.inr rfl) (by kernel_rfl) (resV_tmp s4_5) (.ro _ rfl) ?_
   clear s4_5 mo0_1 ml_1
   (unfold misE; simp_all)
  replace hq_4 := bf' hq_4
  refine aw_skip ?_
  refine then_n ?_
  refine aw_seq ?_
  refine aw_text (by kernel_rfl) ?_
  refine al_ro' (ro_assign ev_c) trivial rfl ?_
  refine al_end (fun e_6 he_6 => ?_)
  have s4_6 := ef 4 he_6 up_h
  clear he_6 s11_3
  refine then_n ?_
  refine aw_ret ?_
  refine ret1 (.inr rfl) (by kernel_rfl) (resV_tmp s4_6) (.ro _ rfl) ?_
  clear s4_6 mo0_1 ml_1
  (unfold misE; simp_all)
set_option maxRecDepth 100000 in
set_option maxHeartbeats 4000000 in
theorem slopes_ok (l : Lin) (h : Rgt l) (j : Nat) (hj : 1 ≤ j ∧ j + 2 ≤ l.js.length) : FnOk Try.prog 61 [lnA l, mA j] (fun q => q = .tuple [mA (benN l j), mA (benD l j)]) := by
  refine fnOk_of (fn := Try.f61) 56 (by kernel_rfl) rfl (by kernel_rfl) (Nat.le_of_ble_eq_true rfl) ?_
  intro e_0 m_0 hA hm_0
  have s0_0 : evA e_0 (.tmp 0) = _ := hA 0 _ rfl
  have s1_0 : evA e_0 (.tmp 1) = _ := hA 1 _ rfl
  have ml_0 : m_0.length = 0 := by rw [hm_0]; rfl
  clear hA hm_0
  have hn1 := h.n1; have hn0 := h.n0; have hjs := h.js; have j1 := h.jnt (j - 1) (by omega); have j2 := h.jnt j (by omega); have j3 := h.jnt (j + 1) (by omega); have b1 := h.bea (j - 1) (by omega); have b2 := h.bea j (by omega); have m1 := mul_in (x := (l.js.getD (j + 1) default).acr - (l.js.getD j default).acr) (y := (l.bs.getD (j - 1) default).len) 40000 30000 (by omega) (by omega); have m2 := mul_in (x := (l.js.getD j default).acr - (l.js.getD (j - 1) default).acr) (y := (l.bs.getD j default).len) 40000 30000 (by omega) (by omega); have m3 := mul_in (x := (l.bs.getD (j - 1) default).len) (y := (l.bs.getD j default).len) 30000 30000 (by omega) (by omega)
  refine aw_seq ?_
  refine aw_text (by kernel_rfl) ?_
  refine al_stm (st_box s0_0 rfl ml_0) trivial rfl (fun m_1 hm_1 => ?_)
  have mo0_1 := m_push hm_1 ml_0
  have ml_1 := m_push_l hm_1 ml_0
  have ml_1 : _ = 1 := ml_1
  clear hm_1
  refine al_ro' (ro_assign ev_c) trivial rfl ?_
  refine al_ro' (ro_assign ev_c) trivial rfl ?_
  refine al_end (fun e_2 he_2 => ?_)
  have s1_2 := ef 1 he_2 (up_m rfl (u2 rfl s1_0))
  have s2_2 := ef 2 he_2 (u2 rfl up_h)
  clear he_2 s0_0 s1_0
  refine then_n ?_
  refine aw_seq ?_
  refine aw_draw 15 (by kernel_rfl) (by kernel_rfl) (by kernel_rfl) (by kernel_rfl) ?_
  refine ds_ro' (ro_fld_ptr y31_fl26_2 rfl s2_2) trivial rfl ?_
  refine ds_ro' (ro_eq (ro_ld_ptr y31_ty23 rfl mo0_1 up_h (by exact Nat.le_of_ble_eq_true rfl)) (by simp only [packA_t, packA_f, iE, bE, setAt, cellsA, Value.cells, map_vc, map_vn, Nat.reduceAdd, qS, jnE, beE, Int.toNat_natCast, toNat_suc, toNat_pre] <;> rfl)) trivial rfl ?_
  refine ds_ro' (ro_move (u2 rfl s1_2)) trivial rfl ?_
  (refine ds_ro' (ro_sub' up_h ev_c ?_) trivial rfl ?_; · (unfold In64; omega))
  refine ds_ro' (ro_eq (ro_ix y31_sl23 (u2 rfl up_h) up_h (by omega) (by first | (refine idx_map ?_; first | omega | (simp only [lnS]; omega)) | (refine idx_mapI ?_; first | omega | (simp only [lnS]; omega)) | (refine idx_mapN ?_; first | omega | (simp only [lnS]; omega)) | rfl)) (by simp only [packA_t, packA_f, iE, bE, setAt, cellsA, Value.cells, map_vc, map_vn, Nat.reduceAdd, qS, jnE, beE, Int.toNat_natCast, toNat_suc, toNat_pre] <;> rfl)) trivial rfl ?_
  refine ds_ro' (ro_eq (ro_fld_ref y31_fl88_0 rfl up_h) (by simp only [packA_t, packA_f, iE, bE, setAt, cellsA, Value.cells, map_vc, map_vn, Nat.reduceAdd, qS, jnE, beE, Int.toNat_natCast, toNat_suc, toNat_pre] <;> rfl)) trivial rfl ?_
  refine ds_ro' (ro_eq (ro_ld_ref y31_ty3 rfl up_h (by exact Nat.le_of_ble_eq_true rfl)) (by simp only [packA_t, packA_f, iE, bE, setAt, cellsA, Value.cells, map_vc, map_vn, Nat.reduceAdd, qS, jnE, beE, Int.toNat_natCast, toNat_suc, toNat_pre] <;> rfl)) trivial rfl ?_
  refine ds_ro' (ro_fld_ptr y31_fl26_2 rfl (up_m rfl (u2 rfl (u4 rfl s2_2)))) trivial rfl ?_
  refine ds_ro' (ro_eq (ro_ld_ptr y31_ty23 rfl mo0_1 up_h (by exact Nat.le_of_ble_eq_true rfl)) (by simp only [packA_t, packA_f, iE, bE, setAt, cellsA, Value.cells, map_vc, map_vn, Nat.reduceAdd, qS, jnE, beE, Int.toNat_natCast, toNat_suc, toNat_pre] <;> rfl)) trivial rfl ?_
  refine ds_ro' (ro_move (up_m rfl (u8 rfl s1_2))) trivial rfl ?_
  refine ds_ro' (ro_eq (ro_ix y31_sl23 (up_m rfl up_h) up_h (by omega) (by first | (refine idx_map ?_; first | omega | (simp only [lnS]; omega)) | (refine idx_mapI ?_; first | omega | (simp only [lnS]; omega)) | (refine idx_mapN ?_; first | omega | (simp only [lnS]; omega)) | rfl)) (by simp only [packA_t, packA_f, iE, bE, setAt, cellsA, Value.cells, map_vc, map_vn, Nat.reduceAdd, qS, jnE, beE, Int.toNat_natCast, toNat_suc, toNat_pre] <;> rfl)) trivial rfl ?_
  refine ds_ro' (ro_eq (ro_fld_ref y31_fl88_0 rfl up_h) (by simp only [packA_t, packA_f, iE, bE, setAt, cellsA, Value.cells, map_vc, map_vn, Nat.reduceAdd, qS, jnE, beE, Int.toNat_natCast, toNat_suc, toNat_pre] <;> rfl)) trivial rfl ?_
  refine ds_ro' (ro_eq (ro_ld_ref y31_ty3 rfl up_h (by exact Nat.le_of_ble_eq_true rfl)) (by simp only [packA_t, packA_f, iE, bE, setAt, cellsA, Value.cells, map_vc, map_vn, Nat.reduceAdd, qS, jnE, beE, Int.toNat_natCast, toNat_suc, toNat_pre] <;> rfl)) trivial rfl ?_
  refine ds_ro' (ro_assign (u2 rfl (u4 rfl up_h))) trivial rfl ?_
  refine ds_ro' (ro_assign (up_m rfl up_h)) trivial rfl ?_
  refine ds_nil ?_
  refine al_end (fun e_3 he_3 => ?_)
  have s1_3 := ef 1 he_3 (up_m rfl (u2 rfl (u4 rfl (u8 rfl s1_2))))
  have s2_3 := ef 2 he_3 (up_m rfl (u2 rfl (u4 rfl (u8 rfl s2_2))))
  have s6_3 := ef 6 he_3 (up_m rfl up_h)
  have s7_3 := ef 7 he_3 up_h
  clear he_3 s1_2 s2_2
  refine then_n ?_
  refine aw_seq ?_
  refine aw_text (by kernel_rfl) ?_
  refine al_ro' (ro_fld_ptr y31_fl26_1 rfl s2_3) trivial rfl ?_
  refine al_ro' (ro_eq (ro_ld_ptr y31_ty22 rfl mo0_1 up_h (by exact Nat.le_of_ble_eq_true rfl)) (by simp only [packA_t, packA_f, iE, bE, setAt, cellsA, Value.cells, map_vc, map_vn, Nat.reduceAdd, qS, jnE, beE, Int.toNat_natCast, toNat_suc, toNat_pre] <;> rfl)) trivial rfl ?_
  refine al_ro' (ro_assign up_h) trivial rfl ?_
  refine al_end (fun e_4 he_4 => ?_)
  have s1_4 := ef 1 he_4 (up_m rfl (u2 rfl s1_3))
  have s6_4 := ef 6 he_4 (up_m rfl (u2 rfl s6_3))
  have s7_4 := ef 7 he_4 (up_m rfl (u2 rfl s7_3))
  have s8_4 := ef 8 he_4 up_h
  clear he_4 s1_3 s2_3 s6_3 s7_3
  refine then_n ?_
  refine aw_seq ?_
  refine aw_draw 34 (by kernel_rfl) (by kernel_rfl) (by kernel_rfl) (by kernel_rfl) ?_
  refine ds_ro' (ro_move s8_4) trivial rfl ?_
  refine ds_ro' (ro_move (up_m rfl s1_4)) trivial rfl ?_
  (refine ds_ro' (ro_add' up_h ev_c ?_) trivial rfl ?_; · (unfold In64; omega))
  refine ds_ro' (ro_eq (ro_ix y31_sl22 (u2 rfl up_h) up_h (by omega) (by refine idx_map ?_; first | omega | (simp only [lnS]; omega))) (by simp only [packA_t, packA_f, iE, bE, setAt, cellsA, Value.cells, map_vc, map_vn, Nat.reduceAdd, qS, jnE, beE, Int.toNat_natCast, toNat_suc, toNat_pre] <;> rfl)) trivial rfl ?_
  refine ds_ro' (ro_eq (ro_fld_ref y31_fl85_0 rfl up_h) (by simp only [packA_t, packA_f, iE, bE, setAt, cellsA, Value.cells, map_vc, map_vn, Nat.reduceAdd, qS, jnE, beE, Int.toNat_natCast, toNat_suc, toNat_pre] <;> rfl)) trivial rfl ?_
  refine ds_ro' (ro_eq (ro_ld_ref y31_ty3 rfl up_h (by exact Nat.le_of_ble_eq_true rfl)) (by simp only [packA_t, packA_f, iE, bE, setAt, cellsA, Value.cells, map_vc, map_vn, Nat.reduceAdd, qS, jnE, beE, Int.toNat_natCast, toNat_suc, toNat_pre] <;> rfl)) trivial rfl ?_
  refine ds_ro' (ro_move (u2 rfl (u4 rfl s8_4))) trivial rfl ?_
  refine ds_ro' (ro_move (up_m rfl (u2 rfl (u4 rfl s1_4)))) trivial rfl ?_
  refine ds_ro' (ro_eq (ro_ix y31_sl22 (up_m rfl up_h) up_h (by omega) (by first | (refine idx_map ?_; first | omega | (simp only [lnS]; omega)) | (refine idx_mapI ?_; first | omega | (simp only [lnS]; omega)) | (refine idx_mapN ?_; first | omega | (simp only [lnS]; omega)) | rfl)) (by simp only [packA_t, packA_f, iE, bE, setAt, cellsA, Value.cells, map_vc, map_vn, Nat.reduceAdd, qS, jnE, beE, Int.toNat_natCast, toNat_suc, toNat_pre] <;> rfl)) trivial rfl ?_
  refine ds_ro' (ro_eq (ro_fld_ref y31_fl85_0 rfl up_h) (by simp only [packA_t, packA_f, iE, bE, setAt, cellsA, Value.cells, map_vc, map_vn, Nat.reduceAdd, qS, jnE, beE, Int.toNat_natCast, toNat_suc, toNat_pre] <;> rfl)) trivial rfl ?_
  refine ds_ro' (ro_eq (ro_ld_ref y31_ty3 rfl up_h (by exact Nat.le_of_ble_eq_true rfl)) (by simp only [packA_t, packA_f, iE, bE, setAt, cellsA, Value.cells, map_vc, map_vn, Nat.reduceAdd, qS, jnE, beE, Int.toNat_natCast, toNat_suc, toNat_pre] <;> rfl)) trivial rfl ?_
  (refine ds_ro' (ro_sub' (up_m rfl (u4 rfl up_h)) up_h ?_) trivial rfl ?_; · (unfold In64; omega))
  refine ds_ro' (ro_move (u4 rfl (u8 rfl s6_4))) trivial rfl ?_
  (refine ds_ro' (ro_mul' (up_m rfl up_h) up_h ?_) trivial rfl ?_; · (unfold In64; omega))
  refine ds_ro' (ro_move (u2 rfl (u4 rfl (u8 rfl s8_4)))) trivial rfl ?_
  refine ds_ro' (ro_move (up_m rfl (u2 rfl (u4 rfl (u8 rfl s1_4))))) trivial rfl ?_
  refine ds_ro' (ro_eq (ro_ix y31_sl22 (up_m rfl up_h) up_h (by omega) (by first | (refine idx_map ?_; first | omega | (simp only [lnS]; omega)) | (refine idx_mapI ?_; first | omega | (simp only [lnS]; omega)) | (refine idx_mapN ?_; first | omega | (simp only [lnS]; omega)) | rfl)) (by simp only [packA_t, packA_f, iE, bE, setAt, cellsA, Value.cells, map_vc, map_vn, Nat.reduceAdd, qS, jnE, beE, Int.toNat_natCast, toNat_suc, toNat_pre] <;> rfl)) trivial rfl ?_
  refine ds_ro' (ro_eq (ro_fld_ref y31_fl85_0 rfl up_h) (by simp only [packA_t, packA_f, iE, bE, setAt, cellsA, Value.cells, map_vc, map_vn, Nat.reduceAdd, qS, jnE, beE, Int.toNat_natCast, toNat_suc, toNat_pre] <;> rfl)) trivial rfl ?_
  refine ds_ro' (ro_eq (ro_ld_ref y31_ty3 rfl up_h (by exact Nat.le_of_ble_eq_true rfl)) (by simp only [packA_t, packA_f, iE, bE, setAt, cellsA, Value.cells, map_vc, map_vn, Nat.reduceAdd, qS, jnE, beE, Int.toNat_natCast, toNat_suc, toNat_pre] <;> rfl)) trivial rfl ?_
  refine ds_ro' (ro_move (up_m rfl (u2 rfl (u16 rfl s8_4)))) trivial rfl ?_
  refine ds_ro' (ro_move (u4 rfl (u16 rfl s1_4))) trivial rfl ?_
  (refine ds_ro' (ro_sub' up_h ev_c ?_) trivial rfl ?_; · (unfold In64; omega))
  refine ds_ro' (ro_eq (ro_ix y31_sl22 (u2 rfl up_h) up_h (by omega) (by first | (refine idx_map ?_; first | omega | (simp only [lnS]; omega)) | (refine idx_mapI ?_; first | omega | (simp only [lnS]; omega)) | (refine idx_mapN ?_; first | omega | (simp only [lnS]; omega)) | rfl)) (by simp only [packA_t, packA_f, iE, bE, setAt, cellsA, Value.cells, map_vc, map_vn, Nat.reduceAdd, qS, jnE, beE, Int.toNat_natCast, toNat_suc, toNat_pre] <;> rfl)) trivial rfl ?_
  refine ds_ro' (ro_eq (ro_fld_ref y31_fl85_0 rfl up_h) (by simp only [packA_t, packA_f, iE, bE, setAt, cellsA, Value.cells, map_vc, map_vn, Nat.reduceAdd, qS, jnE, beE, Int.toNat_natCast, toNat_suc, toNat_pre] <;> rfl)) trivial rfl ?_
  refine ds_ro' (ro_eq (ro_ld_ref y31_ty3 rfl up_h (by exact Nat.le_of_ble_eq_true rfl)) (by simp only [packA_t, packA_f, iE, bE, setAt, cellsA, Value.cells, map_vc, map_vn, Nat.reduceAdd, qS, jnE, beE, Int.toNat_natCast, toNat_suc, toNat_pre] <;> rfl)) trivial rfl ?_
  (refine ds_ro' (ro_sub' (u2 rfl (u4 rfl up_h)) up_h ?_) trivial rfl ?_; · (unfold In64; omega))
  refine ds_ro' (ro_move (u2 rfl (u8 rfl (u16 rfl s7_4)))) trivial rfl ?_
  (refine ds_ro' (ro_mul' (up_m rfl up_h) up_h ?_) trivial rfl ?_; · (unfold In64; omega))
  (refine ds_ro' (ro_sub' (u2 rfl (u4 rfl (u8 rfl up_h))) up_h ?_) trivial rfl ?_; · (unfold In64; omega))
  refine ds_ro' (ro_move (up_m rfl (u4 rfl (u8 rfl (u16 rfl s6_4))))) trivial rfl ?_
  refine ds_ro' (ro_move (u2 rfl (u4 rfl (u8 rfl (u16 rfl s7_4))))) trivial rfl ?_
  (refine ds_ro' (ro_mul' (up_m rfl up_h) up_h ?_) trivial rfl ?_; · (unfold In64; omega))
  refine ds_ro' (ro_assign (up_m rfl (u2 rfl up_h))) trivial rfl ?_
  refine ds_ro' (ro_assign (up_m rfl up_h)) trivial rfl ?_
  refine ds_nil ?_
  refine al_end (fun e_5 he_5 => ?_)
  have s4_5 := ef 4 he_5 (up_m rfl up_h)
  have s5_5 := ef 5 he_5 up_h
  clear he_5 s1_4 s6_4 s7_4 s8_4
  refine then_n ?_
  refine aw_ret ?_
  refine ret2 (.inr rfl) (by kernel_rfl) (resV_tmp s4_5) (resV_tmp s5_5) (.ro _ rfl) (.ro _ rfl) ?_
  clear s4_5 s5_5 mo0_1 ml_1
  rfl
set_option maxRecDepth 100000 in
set_option maxHeartbeats 4000000 in
theorem rBendAt_ok (l : Lin) (h : Rgt l) (j : Nat) (hj : 1 ≤ j ∧ j + 2 ≤ l.js.length) : FnOk Try.prog 31 [lnA l, mA j] (fun q => q = frA (benX l j) (benZ l j)) := by
  refine fnOk_of (fn := Try.f31) 17 (by kernel_rfl) rfl (by kernel_rfl) (Nat.le_of_ble_eq_true rfl) ?_
  intro e_0 m_0 hA hm_0
  have s0_0 : evA e_0 (.tmp 0) = _ := hA 0 _ rfl
  have s1_0 : evA e_0 (.tmp 1) = _ := hA 1 _ rfl
  have ml_0 : m_0.length = 0 := by rw [hm_0]; rfl
  clear hA hm_0
  obtain ⟨e1, e2, e3⟩ := ben_bd h hj
  refine aw_seq ?_
  refine aw_text (by kernel_rfl) ?_
  refine al_stm (st_box s0_0 rfl ml_0) trivial rfl (fun m_1 hm_1 => ?_)
  have mo0_1 := m_push hm_1 ml_0
  have ml_1 := m_push_l hm_1 ml_0
  have ml_1 : _ = 1 := ml_1
  clear hm_1
  refine al_stm (st_alloc y31_az46 rfl ml_1) trivial rfl (fun m_2 hm_2 => ?_)
  have mo1_2 := m_push hm_2 ml_1
  simp only [packA_t, packA_f, iE, bE, setAt, cellsA, Value.cells, map_vc, map_vn, Nat.reduceAdd, qS] at mo1_2
  have mo0_2 := m_push_o hm_2 mo0_1
  have ml_2 := m_push_l hm_2 ml_1
  have ml_2 : _ = 2 := ml_2
  clear hm_2 mo0_1
  refine al_end (fun e_3 he_3 => ?_)
  have s1_3 := ef 1 he_3 (u2 rfl s1_0)
  have s2_3 := ef 2 he_3 (up_m rfl up_h)
  have s4_3 := ef 4 he_3 up_h
  clear he_3 s0_0 s1_0
  refine then_n ?_
  refine aw_seq ?_
  refine aw_text (by kernel_rfl) ?_
  refine al_ro' (ro_eq (ro_ld_ptr y31_ty26 rfl mo0_2 s2_3 (by exact Nat.le_of_ble_eq_true rfl)) (by simp only [packA_t, packA_f, iE, bE, setAt, cellsA, Value.cells, map_vc, map_vn, Nat.reduceAdd, qS] <;> rfl)) trivial rfl ?_
  refine al_ro' (ro_move (up_m rfl s1_3)) trivial rfl ?_
  refine al_ro' (ro_call (evL_cons (up_m rfl up_h) (evL_cons up_h evL_nil)) rfl (slopes_ok l h j hj) y31_hcf61) trivial rfl ?_
  refine al_ro' (ro_move up_h) trivial rfl ?_
  refine al_ro' (ro_extract up_h rfl) trivial rfl ?_
  refine al_ro' (ro_extract (up_m rfl up_h) rfl) trivial rfl ?_
  refine al_ro' (ro_assign (up_m rfl up_h)) trivial rfl ?_
  refine al_ro' (ro_assign (up_m rfl up_h)) trivial rfl ?_
  refine al_end (fun e_4 he_4 => ?_)
  have s4_4 := ef 4 he_4 (u8 rfl s4_3)
  have s5_4 := ef 5 he_4 (up_m rfl up_h)
  have s6_4 := ef 6 he_4 up_h
  clear he_4 s1_3 s2_3 s4_3
  refine then_n ?_
  refine aw_seq ?_
  refine aw_text (by kernel_rfl) ?_
  refine al_ro' (ro_move s5_4) trivial rfl ?_
  (refine al_ro' (ro_mul' ev_c up_h ?_) trivial rfl ?_; · (unfold In64; omega))
  refine al_ro' (ro_move (u2 rfl s6_4)) trivial rfl ?_
  refine al_ro' (ro_call (evL_cons (up_m rfl up_h) (evL_cons up_h evL_nil)) rfl (lowest_ok _ _ (by omega) (by omega)) y31_hcf60) trivial rfl ?_
  refine al_stm (st_store (u4 rfl s4_4) up_h rfl rfl mo1_2 y31_sz46 rfl (by exact Nat.le_of_ble_eq_true rfl)) trivial rfl (fun m_5 hm_5 => ?_)
  have mo1_5 := m_set hm_5 mo1_2
  simp only [packA_t, packA_f, iE, bE, setAt, cellsA, Value.cells, map_vc, map_vn, Nat.reduceAdd, qS] at mo1_5
  have mo0_5 := m_set_o hm_5 mo0_2 (by decide)
  have ml_5 := m_set_l hm_5 ml_2
  clear hm_5 mo1_2 mo0_2
  refine al_end (fun e_6 he_6 => ?_)
  have s4_6 := ef 4 he_6 (up_n (u4 rfl s4_4))
  clear he_6 s4_4 s5_4 s6_4
  refine then_n ?_
  refine aw_ret ?_
  refine ret1 (.inr rfl) (by kernel_rfl) (resV_cell s4_6 mo1_5 y31_ty46 (by exact Nat.le_of_ble_eq_true rfl) (by simp)) (vw_r (.ro _ rfl)) ?_
  clear s4_6 mo1_5 mo0_5 ml_5
  rfl
set_option maxRecDepth 100000 in
set_option maxHeartbeats 1000000 in
theorem isSmall_ok (a b : Int) : FnOk Try.prog 32 [frA a b] (fun q => q = tbA (withinB a (-1000000000) 1000000000 && withinB b 1 1000000000)) := by
  refine fnOk_of (fn := Try.f32) 11 (by kernel_rfl) rfl (by kernel_rfl) (Nat.le_of_ble_eq_true rfl) ?_
  intro e_0 m_0 hA hm_0
  have s0_0 : evA e_0 (.tmp 0) = _ := hA 0 _ rfl
  have ml_0 : m_0.length = 0 := by rw [hm_0]; rfl
  clear hA hm_0
  refine aw_seq ?_
  refine aw_text (by kernel_rfl) ?_
  refine al_stm (st_box s0_0 rfl ml_0) trivial rfl (fun m_1 hm_1 => ?_)
  have mo0_1 := m_push hm_1 ml_0
  have ml_1 := m_push_l hm_1 ml_0
  have ml_1 : _ = 1 := ml_1
  clear hm_1
  refine al_ro' (ro_assign ev_c) trivial rfl ?_
  refine al_end (fun e_2 he_2 => ?_)
  have s1_2 := ef 1 he_2 (up_m rfl up_h)
  clear he_2 s0_0
  refine then_n ?_
  refine aw_seq ?_
  refine aw_text (by kernel_rfl) ?_
  refine al_ro' (ro_fld_ptr y31_fl46_0 rfl s1_2) trivial rfl ?_
  refine al_ro' (ro_eq (ro_ld_ptr y31_ty3 rfl mo0_1 up_h (by exact Nat.le_of_ble_eq_true rfl)) (by simp only [packA_t, packA_f, iE, bE, setAt, cellsA, Value.cells, map_vc, map_vn, Nat.reduceAdd, qS] <;> rfl)) trivial rfl ?_
  refine al_ro' (ro_call (evL_cons up_h (evL_cons ev_c (evL_cons ev_c evL_nil))) rfl (bWithin_ok _ _ _) y31_hcf44) trivial rfl ?_
  refine al_ro' (ro_move up_h) trivial rfl ?_
  refine al_case up_h (fun hb_3 hq_3 => ?_) (fun hb_3 hq_3 => ?_)
  ·skip
   refine al_ro' (ro_fld_ptr y31_fl46_1 rfl (u4 rfl s1_2)) ⟨_, rfl, hb_3⟩ rfl ?_
   refine al_ro' (ro_eq (ro_ld_ptr y31_ty3 rfl mo0_1 up_h (by exact Nat.le_of_ble_eq_true rfl)) (by simp only [packA_t, packA_f, iE, bE, setAt, cellsA, Value.cells, map_vc, map_vn, Nat.reduceAdd, qS] <;> rfl)) ⟨_, rfl, (up_m rfl hb_3)⟩ rfl ?_
   refine al_ro' (ro_call (evL_cons up_h (evL_cons ev_c (evL_cons ev_c evL_nil))) rfl (bWithin_ok _ _ _) y31_hcf44) ⟨_, rfl, (u2 rfl hb_3)⟩ rfl ?_
   refine al_ro' (ro_pickT (up_m rfl (u2 rfl hb_3)) up_h) trivial rfl ?_
   refine al_ro' (ro_assign up_h) trivial rfl ?_
   refine al_end (fun e_4 he_4 => ?_)
   have s2_4 := ef 2 he_4 up_h
   clear he_4 hb_3 s1_2
   refine then_n ?_
   refine aw_ret ?_
   refine ret1 (.inr rfl) (by kernel_rfl) (resV_tmp s2_4) (.ro _ rfl) ?_
   clear s2_4 mo0_1 ml_1
   simp_all
  refine al_skip' ⟨_, rfl, .inl hb_3⟩ rfl ?_
  refine al_skip' ⟨_, rfl, .inl (up_m rfl hb_3)⟩ rfl ?_
  refine al_skip' ⟨_, rfl, .inl (u2 rfl hb_3)⟩ rfl ?_
  refine al_ro' (ro_pickF (up_m rfl (u2 rfl hb_3)) ev_c) trivial rfl ?_
  refine al_ro' (ro_assign up_h) trivial rfl ?_
  refine al_end (fun e_5 he_5 => ?_)
  have s2_5 := ef 2 he_5 up_h
  clear he_5 hb_3 s1_2
  refine then_n ?_
  refine aw_ret ?_
  refine ret1 (.inr rfl) (by kernel_rfl) (resV_tmp s2_5) (.ro _ rfl) ?_
  clear s2_5 mo0_1 ml_1
  simp_all
end Go.Proofs.Ytlebjleebclmgaa

/- The law of chapter 1 on gradients. No conditions on a program. -/
namespace Go.Proofs.Ytlebjleebclmgaa
open Go Go.RowKit Go.Proofs
set_option linter.unusedSimpArgs false
set_option linter.unusedVariables false
theorem y32_az46 : (Try.prog.info? 46).bind (·.zero) = some (.agg #[.int .i64 0, .int .i64 0]) := by kernel_rfl
theorem y32_bz46 : (Try.prog.info? 46).bind (·.zero) = some (.agg #[.int .i64 0, .int .i64 0]) := by kernel_rfl
theorem y32_bu46 : Try.prog.underlying 46 = some (.struct (fsOf Try.prog 46)) := by kernel_rfl
theorem y32_bp46 : ∀ w, ((fsOf Try.prog 46).mapM fun f => Prod.mk f.offset <$> sizeOf f.type : Sem (Array (Nat × Nat))).run Try.prog w = .ok (#[(0, 1), (1, 1)]) w := fun _ => by kernel_rfl
theorem y32_hcf19 : ∀ args w, (callFunc 19 args).run Try.prog w = .ok (.enter 19 args) w := fun _ _ => by kernel_rfl
theorem y32_hcf24 : ∀ args w, (callFunc 24 args).run Try.prog w = .ok (.enter 24 args) w := fun _ _ => by kernel_rfl
theorem y32_hcf25 : ∀ args w, (callFunc 25 args).run Try.prog w = .ok (.enter 25 args) w := fun _ _ => by kernel_rfl
theorem y32_hcf26 : ∀ args w, (callFunc 26 args).run Try.prog w = .ok (.enter 26 args) w := fun _ _ => by kernel_rfl
theorem y32_hcf27 : ∀ args w, (callFunc 27 args).run Try.prog w = .ok (.enter 27 args) w := fun _ _ => by kernel_rfl
theorem y32_hcf28 : ∀ args w, (callFunc 28 args).run Try.prog w = .ok (.enter 28 args) w := fun _ _ => by kernel_rfl
theorem y32_hcf29 : ∀ args w, (callFunc 29 args).run Try.prog w = .ok (.enter 29 args) w := fun _ _ => by kernel_rfl
theorem y32_hcf30 : ∀ args w, (callFunc 30 args).run Try.prog w = .ok (.enter 30 args) w := fun _ _ => by kernel_rfl
theorem y32_hcf31 : ∀ args w, (callFunc 31 args).run Try.prog w = .ok (.enter 31 args) w := fun _ _ => by kernel_rfl
theorem y32_hcf32 : ∀ args w, (callFunc 32 args).run Try.prog w = .ok (.enter 32 args) w := fun _ _ => by kernel_rfl
theorem y32_hcf6 : ∀ args w, (callFunc 6 args).run Try.prog w = .ok (.enter 6 args) w := fun _ _ => by kernel_rfl
theorem y32_hcf7 : ∀ args w, (callFunc 7 args).run Try.prog w = .ok (.enter 7 args) w := fun _ _ => by kernel_rfl
theorem y32_hcf9 : ∀ args w, (callFunc 9 args).run Try.prog w = .ok (.enter 9 args) w := fun _ _ => by kernel_rfl
theorem y32_gq46 : Try.prog.eqGuardType Try.prog.depth 46 = false := by kernel_rfl
theorem y32_sq46 {a0 b0 : Int} {a1 b1 : Int} : EqV Try.prog 2 46 (.agg #[.int .i64 a0, .int .i64 a1]) (.agg #[.int .i64 b0, .int .i64 b1]) (decide (a0 = b0) && (decide (a1 = b1) && true)) := (eqs_struct [(3, 0), (3, 1)] (by kernel_rfl) (by kernel_rfl) (by kernel_rfl) (by kernel_rfl) (.cons (fun _ => by kernel_rfl) (fun _ => by kernel_rfl) (eqv_int (k := .i64) (k' := .i64) (by kernel_rfl) a0 b0) (.cons (fun _ => by kernel_rfl) (fun _ => by kernel_rfl) (eqv_int (k := .i64) (k' := .i64) (by kernel_rfl) a1 b1) .nil)))
theorem y32_sz46 : (Try.prog.info? 46).map (·.size) = some 2 := by kernel_rfl
theorem y32_ty26 : TyIs Try.prog 26 true 4 := ⟨by kernel_rfl, by kernel_rfl⟩
theorem y32_ty46 : TyIs Try.prog 46 true 2 := ⟨by kernel_rfl, by kernel_rfl⟩

set_option maxRecDepth 100000 in
set_option maxHeartbeats 4000000 in
theorem lineGradients_many (l : Lin) (hf : fewL l = false) (i : Int) : FnOk Try.prog 5 [lnA l, mA i] (fun q => q = tbA true) := by
  refine fnOk_of (fn := Try.f5) 152 (by kernel_rfl) rfl (by kernel_rfl) (Nat.le_of_ble_eq_true rfl) ?_
  intro e_0 m_0 hA hm_0
  have s0_0 : evA e_0 (.tmp 0) = _ := hA 0 _ rfl
  have s1_0 : evA e_0 (.tmp 1) = _ := hA 1 _ rfl
  have ml_0 : m_0.length = 0 := by rw [hm_0]; rfl
  clear hA hm_0
  refine aw_seq ?_
  refine aw_text (by kernel_rfl) ?_
  refine al_stm (st_box s0_0 rfl ml_0) trivial rfl (fun m_1 hm_1 => ?_)
  have mo0_1 := m_push hm_1 ml_0
  have ml_1 := m_push_l hm_1 ml_0
  have ml_1 : _ = 1 := ml_1
  clear hm_1
  refine al_ro' (ro_assign ev_c) trivial rfl ?_
  refine al_end (fun e_2 he_2 => ?_)
  have s1_2 := ef 1 he_2 (u2 rfl s1_0)
  have s2_2 := ef 2 he_2 (up_m rfl up_h)
  clear he_2 s0_0 s1_0
  refine then_n ?_
  refine aw_seq ?_
  refine aw_seq ?_
  refine aw_text (by kernel_rfl) ?_
  refine al_ro' (ro_call evL_nil rfl (awake_ok) y32_hcf6) trivial rfl ?_
  refine al_ro' (ro_not up_h) trivial rfl ?_
  refine al_end (fun e_3 he_3 => ?_)
  have s1_3 := ef 1 he_3 (u2 rfl s1_2)
  have s2_3 := ef 2 he_3 (u2 rfl s2_2)
  have s19_3 := ef 19 he_3 up_h
  clear he_3 s1_2 s2_2
  refine then_n ?_
  refine aw_case s19_3 (fun hq_4 => ?_) (fun hq_4 => ?_)
  · replace hq_4 := bt' hq_4; cases hq_4
  replace hq_4 := bf' hq_4
  refine aw_skip ?_
  refine then_n ?_
  refine aw_seq ?_
  refine aw_seq ?_
  refine aw_text (by kernel_rfl) ?_
  refine al_ro' (ro_eq (ro_ld_ptr y32_ty26 rfl mo0_1 s2_3 (by exact Nat.le_of_ble_eq_true rfl)) (by simp only [packA_t, packA_f, iE, bE, setAt, cellsA, Value.cells, map_vc, map_vn, Nat.reduceAdd, qS] <;> rfl)) trivial rfl ?_
  refine al_ro' (ro_call (evL_cons up_h evL_nil) rfl ((fewL_ok l).mono (fun q h => h.trans (by rw [hf]))) y32_hcf7) trivial rfl ?_
  refine al_ro' (ro_not up_h) trivial rfl ?_
  refine al_end (fun e_5 he_5 => ?_)
  have s1_5 := ef 1 he_5 (up_m rfl (u2 rfl s1_3))
  have s2_5 := ef 2 he_5 (up_m rfl (u2 rfl s2_3))
  have s22_5 := ef 22 he_5 up_h
  clear he_5 s19_3 s1_3 s2_3
  refine then_n ?_
  refine aw_case s22_5 (fun hq_6 => ?_) (fun hq_6 => ?_)
  ·replace hq_6 := bt' hq_6
   refine aw_seq ?_
   refine aw_text (by kernel_rfl) ?_
   refine al_ro' (ro_assign ev_c) trivial rfl ?_
   refine al_end (fun e_7 he_7 => ?_)
   have s4_7 := ef 4 he_7 up_h
   clear he_7 s1_5 s22_5 s2_5
   refine then_n ?_
   refine aw_ret ?_
   refine then_r ?_
   refine ret1 (.inr rfl) (by kernel_rfl) (resV_tmp s4_7) (.ro _ rfl) ?_
   clear s4_7 mo0_1 ml_1
   first | rfl | simp_all
  · replace hq_6 := bf' hq_6; cases hq_6
set_option maxRecDepth 100000 in
set_option maxHeartbeats 4000000 in
theorem lineGradients_bad (l : Lin) (hf : fewL l = true) (hb : (linM l).2 ≠ 0) (i : Int) : FnOk Try.prog 5 [lnA l, mA i] (fun q => q = tbA true) := by
  refine fnOk_of (fn := Try.f5) 152 (by kernel_rfl) rfl (by kernel_rfl) (Nat.le_of_ble_eq_true rfl) ?_
  intro e_0 m_0 hA hm_0
  have s0_0 : evA e_0 (.tmp 0) = _ := hA 0 _ rfl
  have s1_0 : evA e_0 (.tmp 1) = _ := hA 1 _ rfl
  have ml_0 : m_0.length = 0 := by rw [hm_0]; rfl
  clear hA hm_0
  have hl := fewL_sho hf
  refine aw_seq ?_
  refine aw_text (by kernel_rfl) ?_
  refine al_stm (st_box s0_0 rfl ml_0) trivial rfl (fun m_1 hm_1 => ?_)
  have mo0_1 := m_push hm_1 ml_0
  have ml_1 := m_push_l hm_1 ml_0
  have ml_1 : _ = 1 := ml_1
  clear hm_1
  refine al_ro' (ro_assign ev_c) trivial rfl ?_
  refine al_end (fun e_2 he_2 => ?_)
  have s1_2 := ef 1 he_2 (u2 rfl s1_0)
  have s2_2 := ef 2 he_2 (up_m rfl up_h)
  clear he_2 s0_0 s1_0
  refine then_n ?_
  refine aw_seq ?_
  refine aw_seq ?_
  refine aw_text (by kernel_rfl) ?_
  refine al_ro' (ro_call evL_nil rfl (awake_ok) y32_hcf6) trivial rfl ?_
  refine al_ro' (ro_not up_h) trivial rfl ?_
  refine al_end (fun e_3 he_3 => ?_)
  have s1_3 := ef 1 he_3 (u2 rfl s1_2)
  have s2_3 := ef 2 he_3 (u2 rfl s2_2)
  have s19_3 := ef 19 he_3 up_h
  clear he_3 s1_2 s2_2
  refine then_n ?_
  refine aw_case s19_3 (fun hq_4 => ?_) (fun hq_4 => ?_)
  · cases hq_4
  replace hq_4 := bf' hq_4
  refine aw_skip ?_
  refine then_n ?_
  refine aw_seq ?_
  refine aw_seq ?_
  refine aw_text (by kernel_rfl) ?_
  refine al_ro' (ro_eq (ro_ld_ptr y32_ty26 rfl mo0_1 s2_3 (by exact Nat.le_of_ble_eq_true rfl)) (by simp only [packA_t, packA_f, iE, bE, setAt, cellsA, Value.cells, map_vc, map_vn, Nat.reduceAdd, qS] <;> rfl)) trivial rfl ?_
  refine al_ro' (ro_call (evL_cons up_h evL_nil) rfl ((fewL_ok l).mono (fun q h => h.trans (by rw [hf]))) y32_hcf7) trivial rfl ?_
  refine al_ro' (ro_not up_h) trivial rfl ?_
  refine al_end (fun e_5 he_5 => ?_)
  have s1_5 := ef 1 he_5 (up_m rfl (u2 rfl s1_3))
  have s2_5 := ef 2 he_5 (up_m rfl (u2 rfl s2_3))
  have s22_5 := ef 22 he_5 up_h
  clear he_5 s19_3 s1_3 s2_3
  refine then_n ?_
  refine aw_case s22_5 (fun hq_6 => ?_) (fun hq_6 => ?_)
  · cases hq_6
  replace hq_6 := bf' hq_6
  refine aw_skip ?_
  refine then_n ?_
  refine aw_seq ?_
  refine aw_text (by kernel_rfl) ?_
  refine al_ro' (ro_eq (ro_ld_ptr y32_ty26 rfl mo0_1 s2_5 (by exact Nat.le_of_ble_eq_true rfl)) (by simp only [packA_t, packA_f, iE, bE, setAt, cellsA, Value.cells, map_vc, map_vn, Nat.reduceAdd, qS] <;> rfl)) trivial rfl ?_
  refine al_ro' (ro_call (evL_cons up_h evL_nil) rfl (yCopy_ok l hl) y32_hcf9) trivial rfl ?_
  refine al_ro' (ro_move (u2 rfl s1_5)) trivial rfl ?_
  refine al_ro' (ro_call (evL_cons (up_m rfl up_h) (evL_cons up_h evL_nil)) rfl (gradientOf_bad l hl hb i) y32_hcf24) trivial rfl ?_
  refine al_ro' (ro_move up_h) trivial rfl ?_
  refine al_ro' (ro_extract up_h rfl) trivial rfl ?_
  refine al_ro' (ro_extract (up_m rfl up_h) rfl) trivial rfl ?_
  refine al_stm (st_alloc y32_az46 rfl ml_1) trivial rfl (fun m_7 hm_7 => ?_)
  have mo1_7 := m_push hm_7 ml_1
  simp only [packA_t, packA_f, iE, bE, setAt, cellsA, Value.cells, map_vc, map_vn, Nat.reduceAdd, qS] at mo1_7
  have mo0_7 := m_push_o hm_7 mo0_1
  have ml_7 := m_push_l hm_7 ml_1
  have ml_7 : _ = 2 := ml_7
  clear hm_7 mo0_1
  refine al_stm (st_store up_h (u2 rfl up_h) rfl rfl mo1_7 y32_sz46 rfl (by exact Nat.le_of_ble_eq_true rfl)) trivial rfl (fun m_8 hm_8 => ?_)
  have mo1_8 := m_set hm_8 mo1_7
  simp only [packA_t, packA_f, iE, bE, setAt, cellsA, Value.cells, map_vc, map_vn, Nat.reduceAdd, qS] at mo1_8
  have mo0_8 := m_set_o hm_8 mo0_7 (by decide)
  have ml_8 := m_set_l hm_8 ml_7
  clear hm_8 mo1_7 mo0_7
  refine al_ro' (ro_assign (up_n (up_m rfl up_h))) trivial rfl ?_
  refine al_end (fun e_9 he_9 => ?_)
  have s1_9 := ef 1 he_9 (up_m rfl (up_n (u8 rfl s1_5)))
  have s2_9 := ef 2 he_9 (up_m rfl (up_n (u8 rfl s2_5)))
  have s5_9 := ef 5 he_9 (up_m rfl (up_n up_h))
  have s6_9 := ef 6 he_9 up_h
  clear he_9 s1_5 s22_5 s2_5
  refine then_n ?_
  refine aw_seq ?_
  refine aw_text (by kernel_rfl) ?_
  refine al_ro' (ro_eq (ro_ld_ptr y32_ty26 rfl mo0_8 s2_9 (by exact Nat.le_of_ble_eq_true rfl)) (by simp only [packA_t, packA_f, iE, bE, setAt, cellsA, Value.cells, map_vc, map_vn, Nat.reduceAdd, qS] <;> rfl)) trivial rfl ?_
  refine al_ro' (ro_call (evL_cons up_h evL_nil) rfl (yCopy_ok l hl) y32_hcf9) trivial rfl ?_
  refine al_ro' (ro_call (evL_cons up_h evL_nil) rfl (steepestOf_bad l hl hb) y32_hcf25) trivial rfl ?_
  refine al_ro' (ro_move up_h) trivial rfl ?_
  refine al_ro' (ro_extract up_h rfl) trivial rfl ?_
  refine al_ro' (ro_extract (up_m rfl up_h) rfl) trivial rfl ?_
  refine al_ro' (ro_extract (u2 rfl up_h) rfl) trivial rfl ?_
  refine al_stm (st_alloc y32_az46 rfl ml_8) trivial rfl (fun m_10 hm_10 => ?_)
  have mo2_10 := m_push hm_10 ml_8
  simp only [packA_t, packA_f, iE, bE, setAt, cellsA, Value.cells, map_vc, map_vn, Nat.reduceAdd, qS] at mo2_10
  have mo1_10 := m_push_o hm_10 mo1_8
  have mo0_10 := m_push_o hm_10 mo0_8
  have ml_10 := m_push_l hm_10 ml_8
  have ml_10 : _ = 3 := ml_10
  clear hm_10 mo1_8 mo0_8
  refine al_ro' (ro_assign (up_m rfl (u2 rfl up_h))) trivial rfl ?_
  refine al_stm (st_store (up_m rfl up_h) (up_m rfl (u2 rfl up_h)) rfl rfl mo2_10 y32_sz46 rfl (by exact Nat.le_of_ble_eq_true rfl)) trivial rfl (fun m_11 hm_11 => ?_)
  have mo2_11 := m_set hm_11 mo2_10
  simp only [packA_t, packA_f, iE, bE, setAt, cellsA, Value.cells, map_vc, map_vn, Nat.reduceAdd, qS] at mo2_11
  have mo1_11 := m_set_o hm_11 mo1_10 (by decide)
  have mo0_11 := m_set_o hm_11 mo0_10 (by decide)
  have ml_11 := m_set_l hm_11 ml_10
  clear hm_11 mo2_10 mo1_10 mo0_10
  refine al_ro' (ro_assign (up_n (u2 rfl up_h))) trivial rfl ?_
  refine al_end (fun e_12 he_12 => ?_)
  have s1_12 := ef 1 he_12 (up_m rfl (up_n (up_m rfl (u8 rfl s1_9))))
  have s2_12 := ef 2 he_12 (up_m rfl (up_n (up_m rfl (u8 rfl s2_9))))
  have s5_12 := ef 5 he_12 (up_m rfl (up_n (up_m rfl (u8 rfl s5_9))))
  have s6_12 := ef 6 he_12 (up_m rfl (up_n (up_m rfl (u8 rfl s6_9))))
  have s7_12 := ef 7 he_12 (up_m rfl (up_n up_h))
  have s8_12 := ef 8 he_12 (up_m rfl (up_n (up_m rfl up_h)))
  have s9_12 := ef 9 he_12 up_h
  clear he_12 s1_9 s2_9 s5_9 s6_9
  refine then_n ?_
  refine aw_seq ?_
  refine aw_text (by kernel_rfl) ?_
  refine al_ro' (ro_eq (ro_ld_ptr y32_ty26 rfl mo0_11 s2_12 (by exact Nat.le_of_ble_eq_true rfl)) (by simp only [packA_t, packA_f, iE, bE, setAt, cellsA, Value.cells, map_vc, map_vn, Nat.reduceAdd, qS] <;> rfl)) trivial rfl ?_
  refine al_ro' (ro_call (evL_cons up_h evL_nil) rfl (yCopy_ok l hl) y32_hcf9) trivial rfl ?_
  refine al_ro' (ro_move (u2 rfl s1_12)) trivial rfl ?_
  refine al_ro' (ro_call (evL_cons (up_m rfl up_h) (evL_cons up_h evL_nil)) rfl (bendAt_bad l hl hb i) y32_hcf26) trivial rfl ?_
  refine al_ro' (ro_move up_h) trivial rfl ?_
  refine al_ro' (ro_extract up_h rfl) trivial rfl ?_
  refine al_ro' (ro_extract (up_m rfl up_h) rfl) trivial rfl ?_
  refine al_stm (st_alloc y32_az46 rfl ml_11) trivial rfl (fun m_13 hm_13 => ?_)
  have mo3_13 := m_push hm_13 ml_11
  simp only [packA_t, packA_f, iE, bE, setAt, cellsA, Value.cells, map_vc, map_vn, Nat.reduceAdd, qS] at mo3_13
  have mo2_13 := m_push_o hm_13 mo2_11
  have mo1_13 := m_push_o hm_13 mo1_11
  have mo0_13 := m_push_o hm_13 mo0_11
  have ml_13 := m_push_l hm_13 ml_11
  have ml_13 : _ = 4 := ml_13
  clear hm_13 mo2_11 mo1_11 mo0_11
  refine al_stm (st_store up_h (u2 rfl up_h) rfl rfl mo3_13 y32_sz46 rfl (by exact Nat.le_of_ble_eq_true rfl)) trivial rfl (fun m_14 hm_14 => ?_)
  have mo3_14 := m_set hm_14 mo3_13
  simp only [packA_t, packA_f, iE, bE, setAt, cellsA, Value.cells, map_vc, map_vn, Nat.reduceAdd, qS] at mo3_14
  have mo2_14 := m_set_o hm_14 mo2_13 (by decide)
  have mo1_14 := m_set_o hm_14 mo1_13 (by decide)
  have mo0_14 := m_set_o hm_14 mo0_13 (by decide)
  have ml_14 := m_set_l hm_14 ml_13
  clear hm_14 mo3_13 mo2_13 mo1_13 mo0_13
  refine al_ro' (ro_assign (up_n (up_m rfl up_h))) trivial rfl ?_
  refine al_end (fun e_15 he_15 => ?_)
  have s1_15 := ef 1 he_15 (up_m rfl (up_n (u8 rfl s1_12)))
  have s2_15 := ef 2 he_15 (up_m rfl (up_n (u8 rfl s2_12)))
  have s5_15 := ef 5 he_15 (up_m rfl (up_n (u8 rfl s5_12)))
  have s6_15 := ef 6 he_15 (up_m rfl (up_n (u8 rfl s6_12)))
  have s7_15 := ef 7 he_15 (up_m rfl (up_n (u8 rfl s7_12)))
  have s8_15 := ef 8 he_15 (up_m rfl (up_n (u8 rfl s8_12)))
  have s9_15 := ef 9 he_15 (up_m rfl (up_n (u8 rfl s9_12)))
  have s10_15 := ef 10 he_15 (up_m rfl (up_n up_h))
  have s11_15 := ef 11 he_15 up_h
  clear he_15 s1_12 s2_12 s5_12 s6_12 s7_12 s8_12 s9_12
  refine then_n ?_
  refine aw_seq ?_
  refine aw_seq ?_
  refine aw_text (by kernel_rfl) ?_
  refine al_ro' (ro_eq (ro_ld_ptr y32_ty26 rfl mo0_14 s2_15 (by exact Nat.le_of_ble_eq_true rfl)) (by simp only [packA_t, packA_f, iE, bE, setAt, cellsA, Value.cells, map_vc, map_vn, Nat.reduceAdd, qS] <;> rfl)) trivial rfl ?_
  refine al_ro' (ro_call (evL_cons up_h evL_nil) rfl (lineErr_ok l hl) y32_hcf19) trivial rfl ?_
  refine al_ro' (ro_assign up_h) trivial rfl ?_
  refine al_end (fun e_16 he_16 => ?_)
  have s1_16 := ef 1 he_16 (up_m rfl (u2 rfl s1_15))
  have s2_16 := ef 2 he_16 (up_m rfl (u2 rfl s2_15))
  have s5_16 := ef 5 he_16 (up_m rfl (u2 rfl s5_15))
  have s6_16 := ef 6 he_16 (up_m rfl (u2 rfl s6_15))
  have s7_16 := ef 7 he_16 (up_m rfl (u2 rfl s7_15))
  have s8_16 := ef 8 he_16 (up_m rfl (u2 rfl s8_15))
  have s9_16 := ef 9 he_16 (up_m rfl (u2 rfl s9_15))
  have s10_16 := ef 10 he_16 (up_m rfl (u2 rfl s10_15))
  have s11_16 := ef 11 he_16 (up_m rfl (u2 rfl s11_15))
  have s12_16 := ef 12 he_16 up_h
  clear he_16 s10_15 s11_15 s1_15 s2_15 s5_15 s6_15 s7_15 s8_15 s9_15
  refine then_n ?_
  refine aw_seq ?_
  refine aw_text (by kernel_rfl) ?_
  refine al_ro' (ro_move s12_16) trivial rfl ?_
  refine al_ro' (ro_neq up_h ev_c) trivial rfl ?_
  refine al_end (fun e_17 he_17 => ?_)
  have s1_17 := ef 1 he_17 (u2 rfl s1_16)
  have s2_17 := ef 2 he_17 (u2 rfl s2_16)
  have s5_17 := ef 5 he_17 (u2 rfl s5_16)
  have s6_17 := ef 6 he_17 (u2 rfl s6_16)
  have s7_17 := ef 7 he_17 (u2 rfl s7_16)
  have s8_17 := ef 8 he_17 (u2 rfl s8_16)
  have s9_17 := ef 9 he_17 (u2 rfl s9_16)
  have s10_17 := ef 10 he_17 (u2 rfl s10_16)
  have s11_17 := ef 11 he_17 (u2 rfl s11_16)
  have s12_17 := ef 12 he_17 (u2 rfl s12_16)
  have s47_17 := ef 47 he_17 up_h
  clear he_17 s10_16 s11_16 s12_16 s1_16 s2_16 s5_16 s6_16 s7_16 s8_16 s9_16
  refine then_n ?_
  refine aw_case s47_17 (fun hq_18 => ?_) (fun hq_18 => ?_)
  ·replace hq_18 := bnt hq_18
   refine aw_seq ?_
   refine aw_text (by kernel_rfl) ?_
   refine al_ro' (ro_move s6_17) trivial rfl ?_
   refine al_ro' (ro_move (up_m rfl s12_17)) trivial rfl ?_
   refine al_ro' (ro_eql (up_m rfl up_h) up_h) trivial rfl ?_
   refine al_ro' (ro_move up_h) trivial rfl ?_
   refine al_case up_h (fun hb_19 hq_19 => ?_) (fun hb_19 hq_19 => ?_)
   ·replace hq_19 := bt hq_19
    refine al_ro' (ro_move (u4 rfl s9_17)) ⟨_, rfl, hb_19⟩ rfl ?_
    refine al_ro' (ro_move (up_m rfl (u4 rfl s12_17))) ⟨_, rfl, (up_m rfl hb_19)⟩ rfl ?_
    refine al_ro' (ro_eql (up_m rfl up_h) up_h) ⟨_, rfl, (u2 rfl hb_19)⟩ rfl ?_
    refine al_ro' (ro_pickT (up_m rfl (u2 rfl hb_19)) up_h) trivial rfl ?_
    refine al_ro' (ro_move up_h) trivial rfl ?_
    refine al_case up_h (fun hb_20 hq_20 => ?_) (fun hb_20 hq_20 => ?_)
    ·replace hq_20 := bt hq_20
     refine al_ro' (ro_move (up_m rfl (u8 rfl s11_17))) ⟨_, rfl, hb_20⟩ rfl ?_
     refine al_ro' (ro_move (u2 rfl (u8 rfl s12_17))) ⟨_, rfl, (up_m rfl hb_20)⟩ rfl ?_
     refine al_ro' (ro_eql (up_m rfl up_h) up_h) ⟨_, rfl, (u2 rfl hb_20)⟩ rfl ?_
     refine al_ro' (ro_pickT (up_m rfl (u2 rfl hb_20)) up_h) trivial rfl ?_
     refine al_ro' (ro_move up_h) trivial rfl ?_
     refine al_case up_h (fun hb_21 hq_21 => ?_) (fun hb_21 hq_21 => ?_)
     ·replace hq_21 := bt hq_21
      refine al_ro' (ro_eq (ro_ld_ptr y32_ty46 rfl mo1_14 (u2 rfl (u4 rfl (u8 rfl s5_17))) (by exact Nat.le_of_ble_eq_true rfl)) (by simp only [packA_t, packA_f, iE, bE, setAt, cellsA, Value.cells, map_vc, map_vn, Nat.reduceAdd, qS] <;> rfl)) ⟨_, rfl, hb_21⟩ rfl ?_
      refine al_ro' (ro_build evP_nil y32_bz46 y32_bu46 y32_bp46 rfl) ⟨_, rfl, (up_m rfl hb_21)⟩ rfl ?_
      refine al_ro' (ro_sqeql (up_m rfl up_h) up_h rfl rfl y32_gq46 y32_sq46 (by decide)) ⟨_, rfl, (u2 rfl hb_21)⟩ rfl ?_
      refine al_ro' (ro_pickT (up_m rfl (u2 rfl hb_21)) up_h) trivial rfl ?_
      refine al_ro' (ro_move up_h) trivial rfl ?_
      refine al_case up_h (fun hb_22 hq_22 => ?_) (fun hb_22 hq_22 => ?_)
      ·skip
       refine al_ro' (ro_move (up_m rfl (u2 rfl (u16 rfl s7_17)))) ⟨_, rfl, hb_22⟩ rfl ?_
       refine al_ro' (ro_eql up_h ev_c) ⟨_, rfl, (up_m rfl hb_22)⟩ rfl ?_
       refine al_ro' (ro_pickT (u2 rfl hb_22) up_h) trivial rfl ?_
       refine al_ro' (ro_move up_h) trivial rfl ?_
       refine al_case up_h (fun hb_23 hq_23 => ?_) (fun hb_23 hq_23 => ?_)
       ·replace hq_23 := bt hq_23
        refine al_ro' (ro_eq (ro_ld_ptr y32_ty46 rfl mo2_14 (up_m rfl (u2 rfl (u4 rfl (u16 rfl s8_17)))) (by exact Nat.le_of_ble_eq_true rfl)) (by simp only [packA_t, packA_f, iE, bE, setAt, cellsA, Value.cells, map_vc, map_vn, Nat.reduceAdd, qS] <;> rfl)) ⟨_, rfl, hb_23⟩ rfl ?_
        refine al_ro' (ro_build evP_nil y32_bz46 y32_bu46 y32_bp46 rfl) ⟨_, rfl, (up_m rfl hb_23)⟩ rfl ?_
        refine al_ro' (ro_sqeql (up_m rfl up_h) up_h rfl rfl y32_gq46 y32_sq46 (by decide)) ⟨_, rfl, (u2 rfl hb_23)⟩ rfl ?_
        refine al_ro' (ro_pickT (up_m rfl (u2 rfl hb_23)) up_h) trivial rfl ?_
        refine al_ro' (ro_move up_h) trivial rfl ?_
        refine al_case up_h (fun hb_24 hq_24 => ?_) (fun hb_24 hq_24 => ?_)
        ·skip
         refine al_ro' (ro_eq (ro_ld_ptr y32_ty46 rfl mo3_14 (u4 rfl (u8 rfl (u16 rfl s10_17))) (by exact Nat.le_of_ble_eq_true rfl)) (by simp only [packA_t, packA_f, iE, bE, setAt, cellsA, Value.cells, map_vc, map_vn, Nat.reduceAdd, qS] <;> rfl)) ⟨_, rfl, hb_24⟩ rfl ?_
         refine al_ro' (ro_build evP_nil y32_bz46 y32_bu46 y32_bp46 rfl) ⟨_, rfl, (up_m rfl hb_24)⟩ rfl ?_
         refine al_ro' (ro_sqeql (up_m rfl up_h) up_h rfl rfl y32_gq46 y32_sq46 (by decide)) ⟨_, rfl, (u2 rfl hb_24)⟩ rfl ?_
         refine al_ro' (ro_pickT (up_m rfl (u2 rfl hb_24)) up_h) trivial rfl ?_
         refine al_ro' (ro_assign up_h) trivial rfl ?_
         refine al_end (fun e_25 he_25 => ?_)
         have s4_25 := ef 4 he_25 up_h
         clear he_25 hb_19 hb_20 hb_21 hb_22 hb_23 hb_24 s10_17 s11_17 s12_17 s1_17 s2_17 s47_17 s5_17 s6_17 s7_17 s8_17 s9_17
         refine then_n ?_
         refine aw_ret ?_
         refine then_r ?_
         refine ret1 (.inr rfl) (by kernel_rfl) (resV_tmp s4_25) (.ro _ rfl) ?_
         clear s4_25 mo3_14 mo2_14 mo1_14 mo0_14 ml_14
         first | rfl | simp_all
        · cases hq_24
       · cases hq_23
      · cases hq_22
     · replace hq_21 := bf hq_21; exfalso; omega
    · replace hq_20 := bf hq_20; exfalso; omega
   · replace hq_19 := bf hq_19; exfalso; omega
  · replace hq_18 := bnf hq_18; exfalso; omega
set_option maxRecDepth 100000 in
set_option maxHeartbeats 4000000 in
theorem lineGradients_A (l : Lin) (hf : fewL l = true) (hg : (linM l).2 = 0) (i : Int) (hm : misE i 0 (l.bs.length - 1) ≠ 0) (hi : misE i 1 (l.js.length - 2) ≠ 0) : FnOk Try.prog 5 [lnA l, mA i] (fun q => q = tbA true) := by
  refine fnOk_of (fn := Try.f5) 152 (by kernel_rfl) rfl (by kernel_rfl) (Nat.le_of_ble_eq_true rfl) ?_
  intro e_0 m_0 hA hm_0
  have s0_0 : evA e_0 (.tmp 0) = _ := hA 0 _ rfl
  have s1_0 : evA e_0 (.tmp 1) = _ := hA 1 _ rfl
  have ml_0 : m_0.length = 0 := by rw [hm_0]; rfl
  clear hA hm_0
  have hl := fewL_sho hf; have hr := rgt_of hg
  refine aw_seq ?_
  refine aw_text (by kernel_rfl) ?_
  refine al_stm (st_box s0_0 rfl ml_0) trivial rfl (fun m_1 hm_1 => ?_)
  have mo0_1 := m_push hm_1 ml_0
  have ml_1 := m_push_l hm_1 ml_0
  have ml_1 : _ = 1 := ml_1
  clear hm_1
  refine al_ro' (ro_assign ev_c) trivial rfl ?_
  refine al_end (fun e_2 he_2 => ?_)
  have s1_2 := ef 1 he_2 (u2 rfl s1_0)
  have s2_2 := ef 2 he_2 (up_m rfl up_h)
  clear he_2 s0_0 s1_0
  refine then_n ?_
  refine aw_seq ?_
  refine aw_seq ?_
  refine aw_text (by kernel_rfl) ?_
  refine al_ro' (ro_call evL_nil rfl (awake_ok) y32_hcf6) trivial rfl ?_
  refine al_ro' (ro_not up_h) trivial rfl ?_
  refine al_end (fun e_3 he_3 => ?_)
  have s1_3 := ef 1 he_3 (u2 rfl s1_2)
  have s2_3 := ef 2 he_3 (u2 rfl s2_2)
  have s19_3 := ef 19 he_3 up_h
  clear he_3 s1_2 s2_2
  refine then_n ?_
  refine aw_case s19_3 (fun hq_4 => ?_) (fun hq_4 => ?_)
  · cases hq_4
  replace hq_4 := bf' hq_4
  refine aw_skip ?_
  refine then_n ?_
  refine aw_seq ?_
  refine aw_seq ?_
  refine aw_text (by kernel_rfl) ?_
  refine al_ro' (ro_eq (ro_ld_ptr y32_ty26 rfl mo0_1 s2_3 (by exact Nat.le_of_ble_eq_true rfl)) (by simp only [packA_t, packA_f, iE, bE, setAt, cellsA, Value.cells, map_vc, map_vn, Nat.reduceAdd, qS] <;> rfl)) trivial rfl ?_
  refine al_ro' (ro_call (evL_cons up_h evL_nil) rfl ((fewL_ok l).mono (fun q h => h.trans (by rw [hf]))) y32_hcf7) trivial rfl ?_
  refine al_ro' (ro_not up_h) trivial rfl ?_
  refine al_end (fun e_5 he_5 => ?_)
  have s1_5 := ef 1 he_5 (up_m rfl (u2 rfl s1_3))
  have s2_5 := ef 2 he_5 (up_m rfl (u2 rfl s2_3))
  have s22_5 := ef 22 he_5 up_h
  clear he_5 s19_3 s1_3 s2_3
  refine then_n ?_
  refine aw_case s22_5 (fun hq_6 => ?_) (fun hq_6 => ?_)
  · cases hq_6
  replace hq_6 := bf' hq_6
  refine aw_skip ?_
  refine then_n ?_
  refine aw_seq ?_
  refine aw_text (by kernel_rfl) ?_
  refine al_ro' (ro_eq (ro_ld_ptr y32_ty26 rfl mo0_1 s2_5 (by exact Nat.le_of_ble_eq_true rfl)) (by simp only [packA_t, packA_f, iE, bE, setAt, cellsA, Value.cells, map_vc, map_vn, Nat.reduceAdd, qS] <;> rfl)) trivial rfl ?_
  refine al_ro' (ro_call (evL_cons up_h evL_nil) rfl (yCopy_ok l hl) y32_hcf9) trivial rfl ?_
  refine al_ro' (ro_move (u2 rfl s1_5)) trivial rfl ?_
  refine al_ro' (ro_call (evL_cons (up_m rfl up_h) (evL_cons up_h evL_nil)) rfl (gradientOf_out l hl hg i hm) y32_hcf24) trivial rfl ?_
  refine al_ro' (ro_move up_h) trivial rfl ?_
  refine al_ro' (ro_extract up_h rfl) trivial rfl ?_
  refine al_ro' (ro_extract (up_m rfl up_h) rfl) trivial rfl ?_
  refine al_stm (st_alloc y32_az46 rfl ml_1) trivial rfl (fun m_7 hm_7 => ?_)
  have mo1_7 := m_push hm_7 ml_1
  simp only [packA_t, packA_f, iE, bE, setAt, cellsA, Value.cells, map_vc, map_vn, Nat.reduceAdd, qS] at mo1_7
  have mo0_7 := m_push_o hm_7 mo0_1
  have ml_7 := m_push_l hm_7 ml_1
  have ml_7 : _ = 2 := ml_7
  clear hm_7 mo0_1
  refine al_stm (st_store up_h (u2 rfl up_h) rfl rfl mo1_7 y32_sz46 rfl (by exact Nat.le_of_ble_eq_true rfl)) trivial rfl (fun m_8 hm_8 => ?_)
  have mo1_8 := m_set hm_8 mo1_7
  simp only [packA_t, packA_f, iE, bE, setAt, cellsA, Value.cells, map_vc, map_vn, Nat.reduceAdd, qS] at mo1_8
  have mo0_8 := m_set_o hm_8 mo0_7 (by decide)
  have ml_8 := m_set_l hm_8 ml_7
  clear hm_8 mo1_7 mo0_7
  refine al_ro' (ro_assign (up_n (up_m rfl up_h))) trivial rfl ?_
  refine al_end (fun e_9 he_9 => ?_)
  have s1_9 := ef 1 he_9 (up_m rfl (up_n (u8 rfl s1_5)))
  have s2_9 := ef 2 he_9 (up_m rfl (up_n (u8 rfl s2_5)))
  have s5_9 := ef 5 he_9 (up_m rfl (up_n up_h))
  have s6_9 := ef 6 he_9 up_h
  clear he_9 s1_5 s22_5 s2_5
  refine then_n ?_
  refine aw_seq ?_
  refine aw_text (by kernel_rfl) ?_
  refine al_ro' (ro_eq (ro_ld_ptr y32_ty26 rfl mo0_8 s2_9 (by exact Nat.le_of_ble_eq_true rfl)) (by simp only [packA_t, packA_f, iE, bE, setAt, cellsA, Value.cells, map_vc, map_vn, Nat.reduceAdd, qS] <;> rfl)) trivial rfl ?_
  refine al_ro' (ro_call (evL_cons up_h evL_nil) rfl (yCopy_ok l hl) y32_hcf9) trivial rfl ?_
  refine al_ro' (ro_call (evL_cons up_h evL_nil) rfl (steepestOf_good l hl hg) y32_hcf25) trivial rfl ?_
  refine al_ro' (ro_move up_h) trivial rfl ?_
  refine al_ro' (ro_extract up_h rfl) trivial rfl ?_
  refine al_ro' (ro_extract (up_m rfl up_h) rfl) trivial rfl ?_
  refine al_ro' (ro_extract (u2 rfl up_h) rfl) trivial rfl ?_
  refine al_stm (st_alloc y32_az46 rfl ml_8) trivial rfl (fun m_10 hm_10 => ?_)
  have mo2_10 := m_push hm_10 ml_8
  simp only [packA_t, packA_f, iE, bE, setAt, cellsA, Value.cells, map_vc, map_vn, Nat.reduceAdd, qS] at mo2_10
  have mo1_10 := m_push_o hm_10 mo1_8
  have mo0_10 := m_push_o hm_10 mo0_8
  have ml_10 := m_push_l hm_10 ml_8
  have ml_10 : _ = 3 := ml_10
  clear hm_10 mo1_8 mo0_8
  refine al_ro' (ro_assign (up_m rfl (u2 rfl up_h))) trivial rfl ?_
  refine al_stm (st_store (up_m rfl up_h) (up_m rfl (u2 rfl up_h)) rfl rfl mo2_10 y32_sz46 rfl (by exact Nat.le_of_ble_eq_true rfl)) trivial rfl (fun m_11 hm_11 => ?_)
  have mo2_11 := m_set hm_11 mo2_10
  simp only [packA_t, packA_f, iE, bE, setAt, cellsA, Value.cells, map_vc, map_vn, Nat.reduceAdd, qS] at mo2_11
  have mo1_11 := m_set_o hm_11 mo1_10 (by decide)
  have mo0_11 := m_set_o hm_11 mo0_10 (by decide)
  have ml_11 := m_set_l hm_11 ml_10
  clear hm_11 mo2_10 mo1_10 mo0_10
  refine al_ro' (ro_assign (up_n (u2 rfl up_h))) trivial rfl ?_
  refine al_end (fun e_12 he_12 => ?_)
  have s1_12 := ef 1 he_12 (up_m rfl (up_n (up_m rfl (u8 rfl s1_9))))
  have s2_12 := ef 2 he_12 (up_m rfl (up_n (up_m rfl (u8 rfl s2_9))))
  have s5_12 := ef 5 he_12 (up_m rfl (up_n (up_m rfl (u8 rfl s5_9))))
  have s6_12 := ef 6 he_12 (up_m rfl (up_n (up_m rfl (u8 rfl s6_9))))
  have s7_12 := ef 7 he_12 (up_m rfl (up_n up_h))
  have s8_12 := ef 8 he_12 (up_m rfl (up_n (up_m rfl up_h)))
  have s9_12 := ef 9 he_12 up_h
  clear he_12 s1_9 s2_9 s5_9 s6_9
  refine then_n ?_
  refine aw_seq ?_
  refine aw_text (by kernel_rfl) ?_
  refine al_ro' (ro_eq (ro_ld_ptr y32_ty26 rfl mo0_11 s2_12 (by exact Nat.le_of_ble_eq_true rfl)) (by simp only [packA_t, packA_f, iE, bE, setAt, cellsA, Value.cells, map_vc, map_vn, Nat.reduceAdd, qS] <;> rfl)) trivial rfl ?_
  refine al_ro' (ro_call (evL_cons up_h evL_nil) rfl (yCopy_ok l hl) y32_hcf9) trivial rfl ?_
  refine al_ro' (ro_move (u2 rfl s1_12)) trivial rfl ?_
  refine al_ro' (ro_call (evL_cons (up_m rfl up_h) (evL_cons up_h evL_nil)) rfl (bendAt_out l hl hg i hi) y32_hcf26) trivial rfl ?_
  refine al_ro' (ro_move up_h) trivial rfl ?_
  refine al_ro' (ro_extract up_h rfl) trivial rfl ?_
  refine al_ro' (ro_extract (up_m rfl up_h) rfl) trivial rfl ?_
  refine al_stm (st_alloc y32_az46 rfl ml_11) trivial rfl (fun m_13 hm_13 => ?_)
  have mo3_13 := m_push hm_13 ml_11
  simp only [packA_t, packA_f, iE, bE, setAt, cellsA, Value.cells, map_vc, map_vn, Nat.reduceAdd, qS] at mo3_13
  have mo2_13 := m_push_o hm_13 mo2_11
  have mo1_13 := m_push_o hm_13 mo1_11
  have mo0_13 := m_push_o hm_13 mo0_11
  have ml_13 := m_push_l hm_13 ml_11
  have ml_13 : _ = 4 := ml_13
  clear hm_13 mo2_11 mo1_11 mo0_11
  refine al_stm (st_store up_h (u2 rfl up_h) rfl rfl mo3_13 y32_sz46 rfl (by exact Nat.le_of_ble_eq_true rfl)) trivial rfl (fun m_14 hm_14 => ?_)
  have mo3_14 := m_set hm_14 mo3_13
  simp only [packA_t, packA_f, iE, bE, setAt, cellsA, Value.cells, map_vc, map_vn, Nat.reduceAdd, qS] at mo3_14
  have mo2_14 := m_set_o hm_14 mo2_13 (by decide)
  have mo1_14 := m_set_o hm_14 mo1_13 (by decide)
  have mo0_14 := m_set_o hm_14 mo0_13 (by decide)
  have ml_14 := m_set_l hm_14 ml_13
  clear hm_14 mo3_13 mo2_13 mo1_13 mo0_13
  refine al_ro' (ro_assign (up_n (up_m rfl up_h))) trivial rfl ?_
  refine al_end (fun e_15 he_15 => ?_)
  have s1_15 := ef 1 he_15 (up_m rfl (up_n (u8 rfl s1_12)))
  have s2_15 := ef 2 he_15 (up_m rfl (up_n (u8 rfl s2_12)))
  have s5_15 := ef 5 he_15 (up_m rfl (up_n (u8 rfl s5_12)))
  have s6_15 := ef 6 he_15 (up_m rfl (up_n (u8 rfl s6_12)))
  have s7_15 := ef 7 he_15 (up_m rfl (up_n (u8 rfl s7_12)))
  have s8_15 := ef 8 he_15 (up_m rfl (up_n (u8 rfl s8_12)))
  have s9_15 := ef 9 he_15 (up_m rfl (up_n (u8 rfl s9_12)))
  have s10_15 := ef 10 he_15 (up_m rfl (up_n up_h))
  have s11_15 := ef 11 he_15 up_h
  clear he_15 s1_12 s2_12 s5_12 s6_12 s7_12 s8_12 s9_12
  refine then_n ?_
  refine aw_seq ?_
  refine aw_seq ?_
  refine aw_text (by kernel_rfl) ?_
  refine al_ro' (ro_eq (ro_ld_ptr y32_ty26 rfl mo0_14 s2_15 (by exact Nat.le_of_ble_eq_true rfl)) (by simp only [packA_t, packA_f, iE, bE, setAt, cellsA, Value.cells, map_vc, map_vn, Nat.reduceAdd, qS] <;> rfl)) trivial rfl ?_
  refine al_ro' (ro_call (evL_cons up_h evL_nil) rfl (lineErr_ok l hl) y32_hcf19) trivial rfl ?_
  refine al_ro' (ro_assign up_h) trivial rfl ?_
  refine al_end (fun e_16 he_16 => ?_)
  have s1_16 := ef 1 he_16 (up_m rfl (u2 rfl s1_15))
  have s2_16 := ef 2 he_16 (up_m rfl (u2 rfl s2_15))
  have s5_16 := ef 5 he_16 (up_m rfl (u2 rfl s5_15))
  have s6_16 := ef 6 he_16 (up_m rfl (u2 rfl s6_15))
  have s7_16 := ef 7 he_16 (up_m rfl (u2 rfl s7_15))
  have s8_16 := ef 8 he_16 (up_m rfl (u2 rfl s8_15))
  have s9_16 := ef 9 he_16 (up_m rfl (u2 rfl s9_15))
  have s10_16 := ef 10 he_16 (up_m rfl (u2 rfl s10_15))
  have s11_16 := ef 11 he_16 (up_m rfl (u2 rfl s11_15))
  have s12_16 := ef 12 he_16 up_h
  clear he_16 s10_15 s11_15 s1_15 s2_15 s5_15 s6_15 s7_15 s8_15 s9_15
  refine then_n ?_
  refine aw_seq ?_
  refine aw_text (by kernel_rfl) ?_
  refine al_ro' (ro_move s12_16) trivial rfl ?_
  refine al_ro' (ro_neq up_h ev_c) trivial rfl ?_
  refine al_end (fun e_17 he_17 => ?_)
  have s1_17 := ef 1 he_17 (u2 rfl s1_16)
  have s2_17 := ef 2 he_17 (u2 rfl s2_16)
  have s5_17 := ef 5 he_17 (u2 rfl s5_16)
  have s6_17 := ef 6 he_17 (u2 rfl s6_16)
  have s7_17 := ef 7 he_17 (u2 rfl s7_16)
  have s8_17 := ef 8 he_17 (u2 rfl s8_16)
  have s9_17 := ef 9 he_17 (u2 rfl s9_16)
  have s10_17 := ef 10 he_17 (u2 rfl s10_16)
  have s11_17 := ef 11 he_17 (u2 rfl s11_16)
  have s12_17 := ef 12 he_17 (u2 rfl s12_16)
  have s47_17 := ef 47 he_17 up_h
  clear he_17 s10_16 s11_16 s12_16 s1_16 s2_16 s5_16 s6_16 s7_16 s8_16 s9_16
  refine then_n ?_
  refine aw_case s47_17 (fun hq_18 => ?_) (fun hq_18 => ?_)
  · replace hq_18 := bnt hq_18; exfalso; omega
  replace hq_18 := bnf hq_18
  refine aw_skip ?_
  refine then_n ?_
  refine aw_seq ?_
  refine aw_text (by kernel_rfl) ?_
  refine al_ro' (ro_eq (ro_ld_ptr y32_ty26 rfl mo0_14 s2_17 (by exact Nat.le_of_ble_eq_true rfl)) (by simp only [packA_t, packA_f, iE, bE, setAt, cellsA, Value.cells, map_vc, map_vn, Nat.reduceAdd, qS] <;> rfl)) trivial rfl ?_
  refine al_ro' (ro_call (evL_cons up_h evL_nil) rfl (rSteepestOf_ok l hr) y32_hcf27) trivial rfl ?_
  refine al_ro' (ro_move up_h) trivial rfl ?_
  refine al_ro' (ro_extract up_h rfl) trivial rfl ?_
  refine al_ro' (ro_extract (up_m rfl up_h) rfl) trivial rfl ?_
  refine al_stm (st_alloc y32_az46 rfl ml_14) trivial rfl (fun m_19 hm_19 => ?_)
  have mo4_19 := m_push hm_19 ml_14
  simp only [packA_t, packA_f, iE, bE, setAt, cellsA, Value.cells, map_vc, map_vn, Nat.reduceAdd, qS] at mo4_19
  have mo3_19 := m_push_o hm_19 mo3_14
  have mo2_19 := m_push_o hm_19 mo2_14
  have mo1_19 := m_push_o hm_19 mo1_14
  have mo0_19 := m_push_o hm_19 mo0_14
  have ml_19 := m_push_l hm_19 ml_14
  have ml_19 : _ = 5 := ml_19
  clear hm_19 mo3_14 mo2_14 mo1_14 mo0_14
  refine al_ro' (ro_assign (u2 rfl up_h)) trivial rfl ?_
  refine al_stm (st_store (up_m rfl up_h) (u2 rfl up_h) rfl rfl mo4_19 y32_sz46 rfl (by exact Nat.le_of_ble_eq_true rfl)) trivial rfl (fun m_20 hm_20 => ?_)
  have mo4_20 := m_set hm_20 mo4_19
  simp only [packA_t, packA_f, iE, bE, setAt, cellsA, Value.cells, map_vc, map_vn, Nat.reduceAdd, qS] at mo4_20
  have mo3_20 := m_set_o hm_20 mo3_19 (by decide)
  have mo2_20 := m_set_o hm_20 mo2_19 (by decide)
  have mo1_20 := m_set_o hm_20 mo1_19 (by decide)
  have mo0_20 := m_set_o hm_20 mo0_19 (by decide)
  have ml_20 := m_set_l hm_20 ml_19
  clear hm_20 mo4_19 mo3_19 mo2_19 mo1_19 mo0_19
  refine al_end (fun e_21 he_21 => ?_)
  have s1_21 := ef 1 he_21 (up_n (up_m rfl (u2 rfl (u4 rfl s1_17))))
  have s2_21 := ef 2 he_21 (up_n (up_m rfl (u2 rfl (u4 rfl s2_17))))
  have s5_21 := ef 5 he_21 (up_n (up_m rfl (u2 rfl (u4 rfl s5_17))))
  have s6_21 := ef 6 he_21 (up_n (up_m rfl (u2 rfl (u4 rfl s6_17))))
  have s7_21 := ef 7 he_21 (up_n (up_m rfl (u2 rfl (u4 rfl s7_17))))
  have s8_21 := ef 8 he_21 (up_n (up_m rfl (u2 rfl (u4 rfl s8_17))))
  have s9_21 := ef 9 he_21 (up_n (up_m rfl (u2 rfl (u4 rfl s9_17))))
  have s10_21 := ef 10 he_21 (up_n (up_m rfl (u2 rfl (u4 rfl s10_17))))
  have s11_21 := ef 11 he_21 (up_n (up_m rfl (u2 rfl (u4 rfl s11_17))))
  have s13_21 := ef 13 he_21 (up_n up_h)
  have s14_21 := ef 14 he_21 (up_n (up_m rfl up_h))
  clear he_21 s10_17 s11_17 s12_17 s1_17 s2_17 s47_17 s5_17 s6_17 s7_17 s8_17 s9_17
  refine then_n ?_
  refine aw_seq ?_
  refine aw_seq ?_
  refine aw_text (by kernel_rfl) ?_
  refine al_ro' (ro_move s9_21) trivial rfl ?_
  refine al_ro' (ro_neq up_h ev_c) trivial rfl ?_
  refine al_ro' (ro_move up_h) trivial rfl ?_
  refine al_case up_h (fun hb_22 hq_22 => ?_) (fun hb_22 hq_22 => ?_)
  · cases hq_22
  replace hq_22 := bnf hq_22
  refine al_ro' (ro_move (up_m rfl (u2 rfl s7_21))) ⟨_, rfl, hb_22⟩ rfl ?_
  refine al_ro' (ro_move (u4 rfl s13_21)) ⟨_, rfl, (up_m rfl hb_22)⟩ rfl ?_
  refine al_ro' (ro_neq (up_m rfl up_h) up_h) ⟨_, rfl, (u2 rfl hb_22)⟩ rfl ?_
  refine al_ro' (ro_pickF (up_m rfl (u2 rfl hb_22)) up_h) trivial rfl ?_
  refine al_ro' (ro_move up_h) trivial rfl ?_
  refine al_case up_h (fun hb_23 hq_23 => ?_) (fun hb_23 hq_23 => ?_)
  · replace hq_23 := bnt hq_23; exfalso; omega
  replace hq_23 := bnf hq_23
  refine al_ro' (ro_eq (ro_ld_ptr y32_ty46 rfl mo2_20 (u8 rfl s8_21) (by exact Nat.le_of_ble_eq_true rfl)) (by simp only [packA_t, packA_f, iE, bE, setAt, cellsA, Value.cells, map_vc, map_vn, Nat.reduceAdd, qS] <;> rfl)) ⟨_, rfl, hb_23⟩ rfl ?_
  refine al_ro' (ro_eq (ro_ld_ptr y32_ty46 rfl mo4_20 (up_m rfl (u8 rfl s14_21)) (by exact Nat.le_of_ble_eq_true rfl)) (by simp only [packA_t, packA_f, iE, bE, setAt, cellsA, Value.cells, map_vc, map_vn, Nat.reduceAdd, qS] <;> rfl)) ⟨_, rfl, (up_m rfl hb_23)⟩ rfl ?_
  refine al_ro' (ro_sqneq (up_m rfl up_h) up_h rfl rfl y32_gq46 y32_sq46 (by decide)) ⟨_, rfl, (u2 rfl hb_23)⟩ rfl ?_
  refine al_ro' (ro_pickF (up_m rfl (u2 rfl hb_23)) up_h) trivial rfl ?_
  refine al_end (fun e_24 he_24 => ?_)
  have s1_24 := ef 1 he_24 (u4 rfl (u8 rfl s1_21))
  have s2_24 := ef 2 he_24 (u4 rfl (u8 rfl s2_21))
  have s5_24 := ef 5 he_24 (u4 rfl (u8 rfl s5_21))
  have s6_24 := ef 6 he_24 (u4 rfl (u8 rfl s6_21))
  have s10_24 := ef 10 he_24 (u4 rfl (u8 rfl s10_21))
  have s11_24 := ef 11 he_24 (u4 rfl (u8 rfl s11_21))
  have s96_24 := ef 96 he_24 up_h
  clear he_24 hb_22 hb_23 s10_21 s11_21 s13_21 s14_21 s1_21 s2_21 s5_21 s6_21 s7_21 s8_21 s9_21
  refine then_n ?_
  refine aw_case s96_24 (fun hq_25 => ?_) (fun hq_25 => ?_)
  · first | (simp at hq_25; done) | (exact absurd hg (by simpa using hq_25)) | (exact absurd hq_25 hm) | (exact absurd hm hq_25) | (exact absurd hq_25 hi) | (exact absurd hi hq_25)
  replace hq_25 := bf' hq_25
  refine aw_skip ?_
  refine then_n ?_
  refine aw_seq ?_
  refine aw_seq ?_
  refine aw_text (by kernel_rfl) ?_
  refine al_ro' (ro_eq (ro_ld_ptr y32_ty26 rfl mo0_20 s2_24 (by exact Nat.le_of_ble_eq_true rfl)) (by simp only [packA_t, packA_f, iE, bE, setAt, cellsA, Value.cells, map_vc, map_vn, Nat.reduceAdd, qS] <;> rfl)) trivial rfl ?_
  refine al_ro' (ro_move (up_m rfl s1_24)) trivial rfl ?_
  refine al_ro' (ro_call (evL_cons (up_m rfl up_h) (evL_cons up_h evL_nil)) rfl (beamErr_ok l hr i) y32_hcf28) trivial rfl ?_
  refine al_ro' (ro_assign up_h) trivial rfl ?_
  refine al_end (fun e_26 he_26 => ?_)
  have s1_26 := ef 1 he_26 (u4 rfl s1_24)
  have s2_26 := ef 2 he_26 (u4 rfl s2_24)
  have s5_26 := ef 5 he_26 (u4 rfl s5_24)
  have s6_26 := ef 6 he_26 (u4 rfl s6_24)
  have s10_26 := ef 10 he_26 (u4 rfl s10_24)
  have s11_26 := ef 11 he_26 (u4 rfl s11_24)
  have s15_26 := ef 15 he_26 up_h
  clear he_26 s10_24 s11_24 s1_24 s2_24 s5_24 s6_24 s96_24
  refine then_n ?_
  refine aw_seq ?_
  refine aw_text (by kernel_rfl) ?_
  refine al_ro' (ro_move s15_26) trivial rfl ?_
  refine al_ro' (ro_neq up_h ev_c) trivial rfl ?_
  refine al_end (fun e_27 he_27 => ?_)
  have s1_27 := ef 1 he_27 (u2 rfl s1_26)
  have s2_27 := ef 2 he_27 (u2 rfl s2_26)
  have s5_27 := ef 5 he_27 (u2 rfl s5_26)
  have s6_27 := ef 6 he_27 (u2 rfl s6_26)
  have s10_27 := ef 10 he_27 (u2 rfl s10_26)
  have s11_27 := ef 11 he_27 (u2 rfl s11_26)
  have s15_27 := ef 15 he_27 (u2 rfl s15_26)
  have s101_27 := ef 101 he_27 up_h
  clear he_27 s10_26 s11_26 s15_26 s1_26 s2_26 s5_26 s6_26
  refine then_n ?_
  refine aw_case s101_27 (fun hq_28 => ?_) (fun hq_28 => ?_)
  ·replace hq_28 := bnt hq_28
   refine aw_seq ?_
   refine aw_text (by kernel_rfl) ?_
   refine al_ro' (ro_move s6_27) trivial rfl ?_
   refine al_ro' (ro_move (up_m rfl s15_27)) trivial rfl ?_
   refine al_ro' (ro_neq (up_m rfl up_h) up_h) trivial rfl ?_
   refine al_ro' (ro_move up_h) trivial rfl ?_
   refine al_case up_h (fun hb_29 hq_29 => ?_) (fun hb_29 hq_29 => ?_)
   · replace hq_29 := bnt hq_29; exfalso; omega
   replace hq_29 := bnf hq_29
   refine al_ro' (ro_eq (ro_ld_ptr y32_ty46 rfl mo1_20 (u4 rfl s5_27) (by exact Nat.le_of_ble_eq_true rfl)) (by simp only [packA_t, packA_f, iE, bE, setAt, cellsA, Value.cells, map_vc, map_vn, Nat.reduceAdd, qS] <;> rfl)) ⟨_, rfl, hb_29⟩ rfl ?_
   refine al_ro' (ro_build evP_nil y32_bz46 y32_bu46 y32_bp46 rfl) ⟨_, rfl, (up_m rfl hb_29)⟩ rfl ?_
   refine al_ro' (ro_sqneq (up_m rfl up_h) up_h rfl rfl y32_gq46 y32_sq46 (by decide)) ⟨_, rfl, (u2 rfl hb_29)⟩ rfl ?_
   refine al_ro' (ro_pickF (up_m rfl (u2 rfl hb_29)) up_h) trivial rfl ?_
   refine al_end (fun e_30 he_30 => ?_)
   have s1_30 := ef 1 he_30 (u8 rfl s1_27)
   have s2_30 := ef 2 he_30 (u8 rfl s2_27)
   have s10_30 := ef 10 he_30 (u8 rfl s10_27)
   have s11_30 := ef 11 he_30 (u8 rfl s11_27)
   have s109_30 := ef 109 he_30 up_h
   clear he_30 hb_29 s101_27 s10_27 s11_27 s15_27 s1_27 s2_27 s5_27 s6_27
   refine then_n ?_
   refine aw_case s109_30 (fun hq_31 => ?_) (fun hq_31 => ?_)
   · cases hq_31
   replace hq_31 := bf' hq_31
   refine aw_skip ?_
   refine then_n ?_
   refine aw_seq ?_
   refine aw_seq ?_
   refine aw_text (by kernel_rfl) ?_
   refine al_ro' (ro_eq (ro_ld_ptr y32_ty26 rfl mo0_20 s2_30 (by exact Nat.le_of_ble_eq_true rfl)) (by simp only [packA_t, packA_f, iE, bE, setAt, cellsA, Value.cells, map_vc, map_vn, Nat.reduceAdd, qS] <;> rfl)) trivial rfl ?_
   refine al_ro' (ro_move (up_m rfl s1_30)) trivial rfl ?_
   refine al_ro' (ro_call (evL_cons (up_m rfl up_h) (evL_cons up_h evL_nil)) rfl (innerErr_ok l hr i) y32_hcf30) trivial rfl ?_
   refine al_ro' (ro_assign up_h) trivial rfl ?_
   refine al_end (fun e_32 he_32 => ?_)
   have s1_32 := ef 1 he_32 (u4 rfl s1_30)
   have s2_32 := ef 2 he_32 (u4 rfl s2_30)
   have s10_32 := ef 10 he_32 (u4 rfl s10_30)
   have s11_32 := ef 11 he_32 (u4 rfl s11_30)
   have s16_32 := ef 16 he_32 up_h
   clear he_32 s109_30 s10_30 s11_30 s1_30 s2_30
   refine then_n ?_
   refine aw_seq ?_
   refine aw_text (by kernel_rfl) ?_
   refine al_ro' (ro_move s16_32) trivial rfl ?_
   refine al_ro' (ro_neq up_h ev_c) trivial rfl ?_
   refine al_end (fun e_33 he_33 => ?_)
   have s1_33 := ef 1 he_33 (u2 rfl s1_32)
   have s2_33 := ef 2 he_33 (u2 rfl s2_32)
   have s10_33 := ef 10 he_33 (u2 rfl s10_32)
   have s11_33 := ef 11 he_33 (u2 rfl s11_32)
   have s16_33 := ef 16 he_33 (u2 rfl s16_32)
   have s123_33 := ef 123 he_33 up_h
   clear he_33 s10_32 s11_32 s16_32 s1_32 s2_32
   refine then_n ?_
   refine aw_case s123_33 (fun hq_34 => ?_) (fun hq_34 => ?_)
   ·replace hq_34 := bnt hq_34
    refine aw_seq ?_
    refine aw_text (by kernel_rfl) ?_
    refine al_ro' (ro_move s11_33) trivial rfl ?_
    refine al_ro' (ro_move (up_m rfl s16_33)) trivial rfl ?_
    refine al_ro' (ro_eql (up_m rfl up_h) up_h) trivial rfl ?_
    refine al_ro' (ro_move up_h) trivial rfl ?_
    refine al_case up_h (fun hb_35 hq_35 => ?_) (fun hb_35 hq_35 => ?_)
    ·replace hq_35 := bt hq_35
     refine al_ro' (ro_eq (ro_ld_ptr y32_ty46 rfl mo3_20 (u4 rfl s10_33) (by exact Nat.le_of_ble_eq_true rfl)) (by simp only [packA_t, packA_f, iE, bE, setAt, cellsA, Value.cells, map_vc, map_vn, Nat.reduceAdd, qS] <;> rfl)) ⟨_, rfl, hb_35⟩ rfl ?_
     refine al_ro' (ro_build evP_nil y32_bz46 y32_bu46 y32_bp46 rfl) ⟨_, rfl, (up_m rfl hb_35)⟩ rfl ?_
     refine al_ro' (ro_sqeql (up_m rfl up_h) up_h rfl rfl y32_gq46 y32_sq46 (by decide)) ⟨_, rfl, (u2 rfl hb_35)⟩ rfl ?_
     refine al_ro' (ro_pickT (up_m rfl (u2 rfl hb_35)) up_h) trivial rfl ?_
     refine al_ro' (ro_assign up_h) trivial rfl ?_
     refine al_end (fun e_36 he_36 => ?_)
     have s4_36 := ef 4 he_36 up_h
     clear he_36 hb_35 s10_33 s11_33 s123_33 s16_33 s1_33 s2_33
     refine then_n ?_
     refine aw_ret ?_
     refine then_r ?_
     refine ret1 (.inr rfl) (by kernel_rfl) (resV_tmp s4_36) (.ro _ rfl) ?_
     clear s4_36 mo4_20 mo3_20 mo2_20 mo1_20 mo0_20 ml_20
     first | rfl | simp_all
    · replace hq_35 := bf hq_35; exfalso; omega
   · replace hq_34 := bnf hq_34; exfalso; omega
  · replace hq_28 := bnf hq_28; exfalso; omega
set_option maxRecDepth 100000 in
set_option maxHeartbeats 4000000 in
theorem lineGradients_B (l : Lin) (hf : fewL l = true) (hg : (linM l).2 = 0) (i : Int) (hm : misE i 0 (l.bs.length - 1) = 0) (hi : misE i 1 (l.js.length - 2) ≠ 0) : FnOk Try.prog 5 [lnA l, mA i] (fun q => q = tbA true) := by
  refine fnOk_of (fn := Try.f5) 152 (by kernel_rfl) rfl (by kernel_rfl) (Nat.le_of_ble_eq_true rfl) ?_
  intro e_0 m_0 hA hm_0
  have s0_0 : evA e_0 (.tmp 0) = _ := hA 0 _ rfl
  have s1_0 : evA e_0 (.tmp 1) = _ := hA 1 _ rfl
  have ml_0 : m_0.length = 0 := by rw [hm_0]; rfl
  clear hA hm_0
  have hl := fewL_sho hf; have hr := rgt_of hg; have hm2 := misE_z.1 hm; have gr := rGradientOf_ok l hr i.toNat (by omega); rw [show ((i.toNat : Nat) : Int) = i by omega] at gr
  refine aw_seq ?_
  refine aw_text (by kernel_rfl) ?_
  refine al_stm (st_box s0_0 rfl ml_0) trivial rfl (fun m_1 hm_1 => ?_)
  have mo0_1 := m_push hm_1 ml_0
  have ml_1 := m_push_l hm_1 ml_0
  have ml_1 : _ = 1 := ml_1
  clear hm_1
  refine al_ro' (ro_assign ev_c) trivial rfl ?_
  refine al_end (fun e_2 he_2 => ?_)
  have s1_2 := ef 1 he_2 (u2 rfl s1_0)
  have s2_2 := ef 2 he_2 (up_m rfl up_h)
  clear he_2 s0_0 s1_0
  refine then_n ?_
  refine aw_seq ?_
  refine aw_seq ?_
  refine aw_text (by kernel_rfl) ?_
  refine al_ro' (ro_call evL_nil rfl (awake_ok) y32_hcf6) trivial rfl ?_
  refine al_ro' (ro_not up_h) trivial rfl ?_
  refine al_end (fun e_3 he_3 => ?_)
  have s1_3 := ef 1 he_3 (u2 rfl s1_2)
  have s2_3 := ef 2 he_3 (u2 rfl s2_2)
  have s19_3 := ef 19 he_3 up_h
  clear he_3 s1_2 s2_2
  refine then_n ?_
  refine aw_case s19_3 (fun hq_4 => ?_) (fun hq_4 => ?_)
  · cases hq_4
  replace hq_4 := bf' hq_4
  refine aw_skip ?_
  refine then_n ?_
  refine aw_seq ?_
  refine aw_seq ?_
  refine aw_text (by kernel_rfl) ?_
  refine al_ro' (ro_eq (ro_ld_ptr y32_ty26 rfl mo0_1 s2_3 (by exact Nat.le_of_ble_eq_true rfl)) (by simp only [packA_t, packA_f, iE, bE, setAt, cellsA, Value.cells, map_vc, map_vn, Nat.reduceAdd, qS] <;> rfl)) trivial rfl ?_
  refine al_ro' (ro_call (evL_cons up_h evL_nil) rfl ((fewL_ok l).mono (fun q h => h.trans (by rw [hf]))) y32_hcf7) trivial rfl ?_
  refine al_ro' (ro_not up_h) trivial rfl ?_
  refine al_end (fun e_5 he_5 => ?_)
  have s1_5 := ef 1 he_5 (up_m rfl (u2 rfl s1_3))
  have s2_5 := ef 2 he_5 (up_m rfl (u2 rfl s2_3))
  have s22_5 := ef 22 he_5 up_h
  clear he_5 s19_3 s1_3 s2_3
  refine then_n ?_
  refine aw_case s22_5 (fun hq_6 => ?_) (fun hq_6 => ?_)
  · cases hq_6
  replace hq_6 := bf' hq_6
  refine aw_skip ?_
  refine then_n ?_
  refine aw_seq ?_
  refine aw_text (by kernel_rfl) ?_
  refine al_ro' (ro_eq (ro_ld_ptr y32_ty26 rfl mo0_1 s2_5 (by exact Nat.le_of_ble_eq_true rfl)) (by simp only [packA_t, packA_f, iE, bE, setAt, cellsA, Value.cells, map_vc, map_vn, Nat.reduceAdd, qS] <;> rfl)) trivial rfl ?_
  refine al_ro' (ro_call (evL_cons up_h evL_nil) rfl (yCopy_ok l hl) y32_hcf9) trivial rfl ?_
  refine al_ro' (ro_move (u2 rfl s1_5)) trivial rfl ?_
  refine al_ro' (ro_call (evL_cons (up_m rfl up_h) (evL_cons up_h evL_nil)) rfl (gradientOf_in l hl hg i hm) y32_hcf24) trivial rfl ?_
  refine al_ro' (ro_move up_h) trivial rfl ?_
  refine al_ro' (ro_extract up_h rfl) trivial rfl ?_
  refine al_ro' (ro_extract (up_m rfl up_h) rfl) trivial rfl ?_
  refine al_stm (st_alloc y32_az46 rfl ml_1) trivial rfl (fun m_7 hm_7 => ?_)
  have mo1_7 := m_push hm_7 ml_1
  simp only [packA_t, packA_f, iE, bE, setAt, cellsA, Value.cells, map_vc, map_vn, Nat.reduceAdd, qS] at mo1_7
  have mo0_7 := m_push_o hm_7 mo0_1
  have ml_7 := m_push_l hm_7 ml_1
  have ml_7 : _ = 2 := ml_7
  clear hm_7 mo0_1
  refine al_stm (st_store up_h (u2 rfl up_h) rfl rfl mo1_7 y32_sz46 rfl (by exact Nat.le_of_ble_eq_true rfl)) trivial rfl (fun m_8 hm_8 => ?_)
  have mo1_8 := m_set hm_8 mo1_7
  simp only [packA_t, packA_f, iE, bE, setAt, cellsA, Value.cells, map_vc, map_vn, Nat.reduceAdd, qS] at mo1_8
  have mo0_8 := m_set_o hm_8 mo0_7 (by decide)
  have ml_8 := m_set_l hm_8 ml_7
  clear hm_8 mo1_7 mo0_7
  refine al_ro' (ro_assign (up_n (up_m rfl up_h))) trivial rfl ?_
  refine al_end (fun e_9 he_9 => ?_)
  have s1_9 := ef 1 he_9 (up_m rfl (up_n (u8 rfl s1_5)))
  have s2_9 := ef 2 he_9 (up_m rfl (up_n (u8 rfl s2_5)))
  have s5_9 := ef 5 he_9 (up_m rfl (up_n up_h))
  have s6_9 := ef 6 he_9 up_h
  clear he_9 s1_5 s22_5 s2_5
  refine then_n ?_
  refine aw_seq ?_
  refine aw_text (by kernel_rfl) ?_
  refine al_ro' (ro_eq (ro_ld_ptr y32_ty26 rfl mo0_8 s2_9 (by exact Nat.le_of_ble_eq_true rfl)) (by simp only [packA_t, packA_f, iE, bE, setAt, cellsA, Value.cells, map_vc, map_vn, Nat.reduceAdd, qS] <;> rfl)) trivial rfl ?_
  refine al_ro' (ro_call (evL_cons up_h evL_nil) rfl (yCopy_ok l hl) y32_hcf9) trivial rfl ?_
  refine al_ro' (ro_call (evL_cons up_h evL_nil) rfl (steepestOf_good l hl hg) y32_hcf25) trivial rfl ?_
  refine al_ro' (ro_move up_h) trivial rfl ?_
  refine al_ro' (ro_extract up_h rfl) trivial rfl ?_
  refine al_ro' (ro_extract (up_m rfl up_h) rfl) trivial rfl ?_
  refine al_ro' (ro_extract (u2 rfl up_h) rfl) trivial rfl ?_
  refine al_stm (st_alloc y32_az46 rfl ml_8) trivial rfl (fun m_10 hm_10 => ?_)
  have mo2_10 := m_push hm_10 ml_8
  simp only [packA_t, packA_f, iE, bE, setAt, cellsA, Value.cells, map_vc, map_vn, Nat.reduceAdd, qS] at mo2_10
  have mo1_10 := m_push_o hm_10 mo1_8
  have mo0_10 := m_push_o hm_10 mo0_8
  have ml_10 := m_push_l hm_10 ml_8
  have ml_10 : _ = 3 := ml_10
  clear hm_10 mo1_8 mo0_8
  refine al_ro' (ro_assign (up_m rfl (u2 rfl up_h))) trivial rfl ?_
  refine al_stm (st_store (up_m rfl up_h) (up_m rfl (u2 rfl up_h)) rfl rfl mo2_10 y32_sz46 rfl (by exact Nat.le_of_ble_eq_true rfl)) trivial rfl (fun m_11 hm_11 => ?_)
  have mo2_11 := m_set hm_11 mo2_10
  simp only [packA_t, packA_f, iE, bE, setAt, cellsA, Value.cells, map_vc, map_vn, Nat.reduceAdd, qS] at mo2_11
  have mo1_11 := m_set_o hm_11 mo1_10 (by decide)
  have mo0_11 := m_set_o hm_11 mo0_10 (by decide)
  have ml_11 := m_set_l hm_11 ml_10
  clear hm_11 mo2_10 mo1_10 mo0_10
  refine al_ro' (ro_assign (up_n (u2 rfl up_h))) trivial rfl ?_
  refine al_end (fun e_12 he_12 => ?_)
  have s1_12 := ef 1 he_12 (up_m rfl (up_n (up_m rfl (u8 rfl s1_9))))
  have s2_12 := ef 2 he_12 (up_m rfl (up_n (up_m rfl (u8 rfl s2_9))))
  have s5_12 := ef 5 he_12 (up_m rfl (up_n (up_m rfl (u8 rfl s5_9))))
  have s6_12 := ef 6 he_12 (up_m rfl (up_n (up_m rfl (u8 rfl s6_9))))
  have s7_12 := ef 7 he_12 (up_m rfl (up_n up_h))
  have s8_12 := ef 8 he_12 (up_m rfl (up_n (up_m rfl up_h)))
  have s9_12 := ef 9 he_12 up_h
  clear he_12 s1_9 s2_9 s5_9 s6_9
  refine then_n ?_
  refine aw_seq ?_
  refine aw_text (by kernel_rfl) ?_
  refine al_ro' (ro_eq (ro_ld_ptr y32_ty26 rfl mo0_11 s2_12 (by exact Nat.le_of_ble_eq_true rfl)) (by simp only [packA_t, packA_f, iE, bE, setAt, cellsA, Value.cells, map_vc, map_vn, Nat.reduceAdd, qS] <;> rfl)) trivial rfl ?_
  refine al_ro' (ro_call (evL_cons up_h evL_nil) rfl (yCopy_ok l hl) y32_hcf9) trivial rfl ?_
  refine al_ro' (ro_move (u2 rfl s1_12)) trivial rfl ?_
  refine al_ro' (ro_call (evL_cons (up_m rfl up_h) (evL_cons up_h evL_nil)) rfl (bendAt_out l hl hg i hi) y32_hcf26) trivial rfl ?_
  refine al_ro' (ro_move up_h) trivial rfl ?_
  refine al_ro' (ro_extract up_h rfl) trivial rfl ?_
  refine al_ro' (ro_extract (up_m rfl up_h) rfl) trivial rfl ?_
  refine al_stm (st_alloc y32_az46 rfl ml_11) trivial rfl (fun m_13 hm_13 => ?_)
  have mo3_13 := m_push hm_13 ml_11
  simp only [packA_t, packA_f, iE, bE, setAt, cellsA, Value.cells, map_vc, map_vn, Nat.reduceAdd, qS] at mo3_13
  have mo2_13 := m_push_o hm_13 mo2_11
  have mo1_13 := m_push_o hm_13 mo1_11
  have mo0_13 := m_push_o hm_13 mo0_11
  have ml_13 := m_push_l hm_13 ml_11
  have ml_13 : _ = 4 := ml_13
  clear hm_13 mo2_11 mo1_11 mo0_11
  refine al_stm (st_store up_h (u2 rfl up_h) rfl rfl mo3_13 y32_sz46 rfl (by exact Nat.le_of_ble_eq_true rfl)) trivial rfl (fun m_14 hm_14 => ?_)
  have mo3_14 := m_set hm_14 mo3_13
  simp only [packA_t, packA_f, iE, bE, setAt, cellsA, Value.cells, map_vc, map_vn, Nat.reduceAdd, qS] at mo3_14
  have mo2_14 := m_set_o hm_14 mo2_13 (by decide)
  have mo1_14 := m_set_o hm_14 mo1_13 (by decide)
  have mo0_14 := m_set_o hm_14 mo0_13 (by decide)
  have ml_14 := m_set_l hm_14 ml_13
  clear hm_14 mo3_13 mo2_13 mo1_13 mo0_13
  refine al_ro' (ro_assign (up_n (up_m rfl up_h))) trivial rfl ?_
  refine al_end (fun e_15 he_15 => ?_)
  have s1_15 := ef 1 he_15 (up_m rfl (up_n (u8 rfl s1_12)))
  have s2_15 := ef 2 he_15 (up_m rfl (up_n (u8 rfl s2_12)))
  have s5_15 := ef 5 he_15 (up_m rfl (up_n (u8 rfl s5_12)))
  have s6_15 := ef 6 he_15 (up_m rfl (up_n (u8 rfl s6_12)))
  have s7_15 := ef 7 he_15 (up_m rfl (up_n (u8 rfl s7_12)))
  have s8_15 := ef 8 he_15 (up_m rfl (up_n (u8 rfl s8_12)))
  have s9_15 := ef 9 he_15 (up_m rfl (up_n (u8 rfl s9_12)))
  have s10_15 := ef 10 he_15 (up_m rfl (up_n up_h))
  have s11_15 := ef 11 he_15 up_h
  clear he_15 s1_12 s2_12 s5_12 s6_12 s7_12 s8_12 s9_12
  refine then_n ?_
  refine aw_seq ?_
  refine aw_seq ?_
  refine aw_text (by kernel_rfl) ?_
  refine al_ro' (ro_eq (ro_ld_ptr y32_ty26 rfl mo0_14 s2_15 (by exact Nat.le_of_ble_eq_true rfl)) (by simp only [packA_t, packA_f, iE, bE, setAt, cellsA, Value.cells, map_vc, map_vn, Nat.reduceAdd, qS] <;> rfl)) trivial rfl ?_
  refine al_ro' (ro_call (evL_cons up_h evL_nil) rfl (lineErr_ok l hl) y32_hcf19) trivial rfl ?_
  refine al_ro' (ro_assign up_h) trivial rfl ?_
  refine al_end (fun e_16 he_16 => ?_)
  have s1_16 := ef 1 he_16 (up_m rfl (u2 rfl s1_15))
  have s2_16 := ef 2 he_16 (up_m rfl (u2 rfl s2_15))
  have s5_16 := ef 5 he_16 (up_m rfl (u2 rfl s5_15))
  have s6_16 := ef 6 he_16 (up_m rfl (u2 rfl s6_15))
  have s7_16 := ef 7 he_16 (up_m rfl (u2 rfl s7_15))
  have s8_16 := ef 8 he_16 (up_m rfl (u2 rfl s8_15))
  have s9_16 := ef 9 he_16 (up_m rfl (u2 rfl s9_15))
  have s10_16 := ef 10 he_16 (up_m rfl (u2 rfl s10_15))
  have s11_16 := ef 11 he_16 (up_m rfl (u2 rfl s11_15))
  have s12_16 := ef 12 he_16 up_h
  clear he_16 s10_15 s11_15 s1_15 s2_15 s5_15 s6_15 s7_15 s8_15 s9_15
  refine then_n ?_
  refine aw_seq ?_
  refine aw_text (by kernel_rfl) ?_
  refine al_ro' (ro_move s12_16) trivial rfl ?_
  refine al_ro' (ro_neq up_h ev_c) trivial rfl ?_
  refine al_end (fun e_17 he_17 => ?_)
  have s1_17 := ef 1 he_17 (u2 rfl s1_16)
  have s2_17 := ef 2 he_17 (u2 rfl s2_16)
  have s5_17 := ef 5 he_17 (u2 rfl s5_16)
  have s6_17 := ef 6 he_17 (u2 rfl s6_16)
  have s7_17 := ef 7 he_17 (u2 rfl s7_16)
  have s8_17 := ef 8 he_17 (u2 rfl s8_16)
  have s9_17 := ef 9 he_17 (u2 rfl s9_16)
  have s10_17 := ef 10 he_17 (u2 rfl s10_16)
  have s11_17 := ef 11 he_17 (u2 rfl s11_16)
  have s12_17 := ef 12 he_17 (u2 rfl s12_16)
  have s47_17 := ef 47 he_17 up_h
  clear he_17 s10_16 s11_16 s12_16 s1_16 s2_16 s5_16 s6_16 s7_16 s8_16 s9_16
  refine then_n ?_
  refine aw_case s47_17 (fun hq_18 => ?_) (fun hq_18 => ?_)
  · replace hq_18 := bnt hq_18; exfalso; omega
  replace hq_18 := bnf hq_18
  refine aw_skip ?_
  refine then_n ?_
  refine aw_seq ?_
  refine aw_text (by kernel_rfl) ?_
  refine al_ro' (ro_eq (ro_ld_ptr y32_ty26 rfl mo0_14 s2_17 (by exact Nat.le_of_ble_eq_true rfl)) (by simp only [packA_t, packA_f, iE, bE, setAt, cellsA, Value.cells, map_vc, map_vn, Nat.reduceAdd, qS] <;> rfl)) trivial rfl ?_
  refine al_ro' (ro_call (evL_cons up_h evL_nil) rfl (rSteepestOf_ok l hr) y32_hcf27) trivial rfl ?_
  refine al_ro' (ro_move up_h) trivial rfl ?_
  refine al_ro' (ro_extract up_h rfl) trivial rfl ?_
  refine al_ro' (ro_extract (up_m rfl up_h) rfl) trivial rfl ?_
  refine al_stm (st_alloc y32_az46 rfl ml_14) trivial rfl (fun m_19 hm_19 => ?_)
  have mo4_19 := m_push hm_19 ml_14
  simp only [packA_t, packA_f, iE, bE, setAt, cellsA, Value.cells, map_vc, map_vn, Nat.reduceAdd, qS] at mo4_19
  have mo3_19 := m_push_o hm_19 mo3_14
  have mo2_19 := m_push_o hm_19 mo2_14
  have mo1_19 := m_push_o hm_19 mo1_14
  have mo0_19 := m_push_o hm_19 mo0_14
  have ml_19 := m_push_l hm_19 ml_14
  have ml_19 : _ = 5 := ml_19
  clear hm_19 mo3_14 mo2_14 mo1_14 mo0_14
  refine al_ro' (ro_assign (u2 rfl up_h)) trivial rfl ?_
  refine al_stm (st_store (up_m rfl up_h) (u2 rfl up_h) rfl rfl mo4_19 y32_sz46 rfl (by exact Nat.le_of_ble_eq_true rfl)) trivial rfl (fun m_20 hm_20 => ?_)
  have mo4_20 := m_set hm_20 mo4_19
  simp only [packA_t, packA_f, iE, bE, setAt, cellsA, Value.cells, map_vc, map_vn, Nat.reduceAdd, qS] at mo4_20
  have mo3_20 := m_set_o hm_20 mo3_19 (by decide)
  have mo2_20 := m_set_o hm_20 mo2_19 (by decide)
  have mo1_20 := m_set_o hm_20 mo1_19 (by decide)
  have mo0_20 := m_set_o hm_20 mo0_19 (by decide)
  have ml_20 := m_set_l hm_20 ml_19
  clear hm_20 mo4_19 mo3_19 mo2_19 mo1_19 mo0_19
  refine al_end (fun e_21 he_21 => ?_)
  have s1_21 := ef 1 he_21 (up_n (up_m rfl (u2 rfl (u4 rfl s1_17))))
  have s2_21 := ef 2 he_21 (up_n (up_m rfl (u2 rfl (u4 rfl s2_17))))
  have s5_21 := ef 5 he_21 (up_n (up_m rfl (u2 rfl (u4 rfl s5_17))))
  have s6_21 := ef 6 he_21 (up_n (up_m rfl (u2 rfl (u4 rfl s6_17))))
  have s7_21 := ef 7 he_21 (up_n (up_m rfl (u2 rfl (u4 rfl s7_17))))
  have s8_21 := ef 8 he_21 (up_n (up_m rfl (u2 rfl (u4 rfl s8_17))))
  have s9_21 := ef 9 he_21 (up_n (up_m rfl (u2 rfl (u4 rfl s9_17))))
  have s10_21 := ef 10 he_21 (up_n (up_m rfl (u2 rfl (u4 rfl s10_17))))
  have s11_21 := ef 11 he_21 (up_n (up_m rfl (u2 rfl (u4 rfl s11_17))))
  have s13_21 := ef 13 he_21 (up_n up_h)
  have s14_21 := ef 14 he_21 (up_n (up_m rfl up_h))
  clear he_21 s10_17 s11_17 s12_17 s1_17 s2_17 s47_17 s5_17 s6_17 s7_17 s8_17 s9_17
  refine then_n ?_
  refine aw_seq ?_
  refine aw_seq ?_
  refine aw_text (by kernel_rfl) ?_
  refine al_ro' (ro_move s9_21) trivial rfl ?_
  refine al_ro' (ro_neq up_h ev_c) trivial rfl ?_
  refine al_ro' (ro_move up_h) trivial rfl ?_
  refine al_case up_h (fun hb_22 hq_22 => ?_) (fun hb_22 hq_22 => ?_)
  · cases hq_22
  replace hq_22 := bnf hq_22
  refine al_ro' (ro_move (up_m rfl (u2 rfl s7_21))) ⟨_, rfl, hb_22⟩ rfl ?_
  refine al_ro' (ro_move (u4 rfl s13_21)) ⟨_, rfl, (up_m rfl hb_22)⟩ rfl ?_
  refine al_ro' (ro_neq (up_m rfl up_h) up_h) ⟨_, rfl, (u2 rfl hb_22)⟩ rfl ?_
  refine al_ro' (ro_pickF (up_m rfl (u2 rfl hb_22)) up_h) trivial rfl ?_
  refine al_ro' (ro_move up_h) trivial rfl ?_
  refine al_case up_h (fun hb_23 hq_23 => ?_) (fun hb_23 hq_23 => ?_)
  · replace hq_23 := bnt hq_23; exfalso; omega
  replace hq_23 := bnf hq_23
  refine al_ro' (ro_eq (ro_ld_ptr y32_ty46 rfl mo2_20 (u8 rfl s8_21) (by exact Nat.le_of_ble_eq_true rfl)) (by simp only [packA_t, packA_f, iE, bE, setAt, cellsA, Value.cells, map_vc, map_vn, Nat.reduceAdd, qS] <;> rfl)) ⟨_, rfl, hb_23⟩ rfl ?_
  refine al_ro' (ro_eq (ro_ld_ptr y32_ty46 rfl mo4_20 (up_m rfl (u8 rfl s14_21)) (by exact Nat.le_of_ble_eq_true rfl)) (by simp only [packA_t, packA_f, iE, bE, setAt, cellsA, Value.cells, map_vc, map_vn, Nat.reduceAdd, qS] <;> rfl)) ⟨_, rfl, (up_m rfl hb_23)⟩ rfl ?_
  refine al_ro' (ro_sqneq (up_m rfl up_h) up_h rfl rfl y32_gq46 y32_sq46 (by decide)) ⟨_, rfl, (u2 rfl hb_23)⟩ rfl ?_
  refine al_ro' (ro_pickF (up_m rfl (u2 rfl hb_23)) up_h) trivial rfl ?_
  refine al_end (fun e_24 he_24 => ?_)
  have s1_24 := ef 1 he_24 (u4 rfl (u8 rfl s1_21))
  have s2_24 := ef 2 he_24 (u4 rfl (u8 rfl s2_21))
  have s5_24 := ef 5 he_24 (u4 rfl (u8 rfl s5_21))
  have s6_24 := ef 6 he_24 (u4 rfl (u8 rfl s6_21))
  have s10_24 := ef 10 he_24 (u4 rfl (u8 rfl s10_21))
  have s11_24 := ef 11 he_24 (u4 rfl (u8 rfl s11_21))
  have s96_24 := ef 96 he_24 up_h
  clear he_24 hb_22 hb_23 s10_21 s11_21 s13_21 s14_21 s1_21 s2_21 s5_21 s6_21 s7_21 s8_21 s9_21
  refine then_n ?_
  refine aw_case s96_24 (fun hq_25 => ?_) (fun hq_25 => ?_)
  · first | (simp at hq_25; done) | (exact absurd hg (by simpa using hq_25)) | (exact absurd hq_25 hm) | (exact absurd hm hq_25) | (exact absurd hq_25 hi) | (exact absurd hi hq_25)
  replace hq_25 := bf' hq_25
  refine aw_skip ?_
  refine then_n ?_
  refine aw_seq ?_
  refine aw_seq ?_
  refine aw_text (by kernel_rfl) ?_
  refine al_ro' (ro_eq (ro_ld_ptr y32_ty26 rfl mo0_20 s2_24 (by exact Nat.le_of_ble_eq_true rfl)) (by simp only [packA_t, packA_f, iE, bE, setAt, cellsA, Value.cells, map_vc, map_vn, Nat.reduceAdd, qS] <;> rfl)) trivial rfl ?_
  refine al_ro' (ro_move (up_m rfl s1_24)) trivial rfl ?_
  refine al_ro' (ro_call (evL_cons (up_m rfl up_h) (evL_cons up_h evL_nil)) rfl (beamErr_ok l hr i) y32_hcf28) trivial rfl ?_
  refine al_ro' (ro_assign up_h) trivial rfl ?_
  refine al_end (fun e_26 he_26 => ?_)
  have s1_26 := ef 1 he_26 (u4 rfl s1_24)
  have s2_26 := ef 2 he_26 (u4 rfl s2_24)
  have s5_26 := ef 5 he_26 (u4 rfl s5_24)
  have s6_26 := ef 6 he_26 (u4 rfl s6_24)
  have s10_26 := ef 10 he_26 (u4 rfl s10_24)
  have s11_26 := ef 11 he_26 (u4 rfl s11_24)
  have s15_26 := ef 15 he_26 up_h
  clear he_26 s10_24 s11_24 s1_24 s2_24 s5_24 s6_24 s96_24
  refine then_n ?_
  refine aw_seq ?_
  refine aw_text (by kernel_rfl) ?_
  refine al_ro' (ro_move s15_26) trivial rfl ?_
  refine al_ro' (ro_neq up_h ev_c) trivial rfl ?_
  refine al_end (fun e_27 he_27 => ?_)
  have s1_27 := ef 1 he_27 (u2 rfl s1_26)
  have s2_27 := ef 2 he_27 (u2 rfl s2_26)
  have s5_27 := ef 5 he_27 (u2 rfl s5_26)
  have s6_27 := ef 6 he_27 (u2 rfl s6_26)
  have s10_27 := ef 10 he_27 (u2 rfl s10_26)
  have s11_27 := ef 11 he_27 (u2 rfl s11_26)
  have s15_27 := ef 15 he_27 (u2 rfl s15_26)
  have s101_27 := ef 101 he_27 up_h
  clear he_27 s10_26 s11_26 s15_26 s1_26 s2_26 s5_26 s6_26
  refine then_n ?_
  refine aw_case s101_27 (fun hq_28 => ?_) (fun hq_28 => ?_)
  · replace hq_28 := bnt hq_28; exfalso; omega
  replace hq_28 := bnf hq_28
  refine aw_seq ?_
  refine aw_draw 9 (by kernel_rfl) (by kernel_rfl) (by kernel_rfl) (by kernel_rfl) ?_
  refine ds_ro' (ro_move s6_27) trivial rfl ?_
  refine ds_ro' (ro_neq up_h ev_c) trivial rfl ?_
  refine ds_ro' (ro_move up_h) trivial rfl ?_
  refine ds_case up_h (fun hb_29 hq_29 => ?_) (fun hb_29 hq_29 => ?_)
  · cases hq_29
  replace hq_29 := bnf hq_29
  refine ds_ro' (ro_eq (ro_ld_ptr y32_ty46 rfl mo1_20 (up_m rfl (u2 rfl s5_27)) (by exact Nat.le_of_ble_eq_true rfl)) (by simp only [packA_t, packA_f, iE, bE, setAt, cellsA, Value.cells, map_vc, map_vn, Nat.reduceAdd, qS] <;> rfl)) ⟨_, rfl, hb_29⟩ rfl ?_
  refine ds_ro' (ro_eq (ro_ld_ptr y32_ty26 rfl mo0_20 (u4 rfl s2_27) (by exact Nat.le_of_ble_eq_true rfl)) (by simp only [packA_t, packA_f, iE, bE, setAt, cellsA, Value.cells, map_vc, map_vn, Nat.reduceAdd, qS] <;> rfl)) ⟨_, rfl, (up_m rfl hb_29)⟩ rfl ?_
  refine ds_ro' (ro_move (up_m rfl (u4 rfl s1_27))) ⟨_, rfl, (u2 rfl hb_29)⟩ rfl ?_
  refine ds_ro' (ro_call (evL_cons (up_m rfl up_h) (evL_cons up_h evL_nil)) rfl (gr) y32_hcf29) ⟨_, rfl, (up_m rfl (u2 rfl hb_29))⟩ rfl ?_
  refine ds_ro' (ro_sqneq (up_m rfl (u2 rfl up_h)) up_h rfl rfl y32_gq46 y32_sq46 (by decide)) ⟨_, rfl, (u4 rfl hb_29)⟩ rfl ?_
  refine ds_ro' (ro_pickF (up_m rfl (u4 rfl hb_29)) up_h) trivial rfl ?_
  refine ds_nil ?_
  refine al_end (fun e_30 he_30 => ?_)
  have s1_30 := ef 1 he_30 (up_m rfl (u8 rfl s1_27))
  have s2_30 := ef 2 he_30 (up_m rfl (u8 rfl s2_27))
  have s10_30 := ef 10 he_30 (up_m rfl (u8 rfl s10_27))
  have s11_30 := ef 11 he_30 (up_m rfl (u8 rfl s11_27))
  have s118_30 := ef 118 he_30 up_h
  clear he_30 hb_29 s101_27 s10_27 s11_27 s15_27 s1_27 s2_27 s5_27 s6_27
  refine then_n ?_
  refine aw_case s118_30 (fun hq_31 => ?_) (fun hq_31 => ?_)
  · first | (simp at hq_31; done) | (exact absurd hg (by simpa using hq_31)) | (exact absurd hq_31 hm) | (exact absurd hm hq_31) | (exact absurd hq_31 hi) | (exact absurd hi hq_31)
  replace hq_31 := bf' hq_31
  refine aw_skip ?_
  refine then_n ?_
  refine aw_seq ?_
  refine aw_seq ?_
  refine aw_text (by kernel_rfl) ?_
  refine al_ro' (ro_eq (ro_ld_ptr y32_ty26 rfl mo0_20 s2_30 (by exact Nat.le_of_ble_eq_true rfl)) (by simp only [packA_t, packA_f, iE, bE, setAt, cellsA, Value.cells, map_vc, map_vn, Nat.reduceAdd, qS] <;> rfl)) trivial rfl ?_
  refine al_ro' (ro_move (up_m rfl s1_30)) trivial rfl ?_
  refine al_ro' (ro_call (evL_cons (up_m rfl up_h) (evL_cons up_h evL_nil)) rfl (innerErr_ok l hr i) y32_hcf30) trivial rfl ?_
  refine al_ro' (ro_assign up_h) trivial rfl ?_
  refine al_end (fun e_32 he_32 => ?_)
  have s1_32 := ef 1 he_32 (u4 rfl s1_30)
  have s2_32 := ef 2 he_32 (u4 rfl s2_30)
  have s10_32 := ef 10 he_32 (u4 rfl s10_30)
  have s11_32 := ef 11 he_32 (u4 rfl s11_30)
  have s16_32 := ef 16 he_32 up_h
  clear he_32 s10_30 s118_30 s11_30 s1_30 s2_30
  refine then_n ?_
  refine aw_seq ?_
  refine aw_text (by kernel_rfl) ?_
  refine al_ro' (ro_move s16_32) trivial rfl ?_
  refine al_ro' (ro_neq up_h ev_c) trivial rfl ?_
  refine al_end (fun e_33 he_33 => ?_)
  have s1_33 := ef 1 he_33 (u2 rfl s1_32)
  have s2_33 := ef 2 he_33 (u2 rfl s2_32)
  have s10_33 := ef 10 he_33 (u2 rfl s10_32)
  have s11_33 := ef 11 he_33 (u2 rfl s11_32)
  have s16_33 := ef 16 he_33 (u2 rfl s16_32)
  have s123_33 := ef 123 he_33 up_h
  clear he_33 s10_32 s11_32 s16_32 s1_32 s2_32
  refine then_n ?_
  refine aw_case s123_33 (fun hq_34 => ?_) (fun hq_34 => ?_)
  ·replace hq_34 := bnt hq_34
   refine aw_seq ?_
   refine aw_text (by kernel_rfl) ?_
   refine al_ro' (ro_move s11_33) trivial rfl ?_
   refine al_ro' (ro_move (up_m rfl s16_33)) trivial rfl ?_
   refine al_ro' (ro_eql (up_m rfl up_h) up_h) trivial rfl ?_
   refine al_ro' (ro_move up_h) trivial rfl ?_
   refine al_case up_h (fun hb_35 hq_35 => ?_) (fun hb_35 hq_35 => ?_)
   ·replace hq_35 := bt hq_35
    refine al_ro' (ro_eq (ro_ld_ptr y32_ty46 rfl mo3_20 (u4 rfl s10_33) (by exact Nat.le_of_ble_eq_true rfl)) (by simp only [packA_t, packA_f, iE, bE, setAt, cellsA, Value.cells, map_vc, map_vn, Nat.reduceAdd, qS] <;> rfl)) ⟨_, rfl, hb_35⟩ rfl ?_
    refine al_ro' (ro_build evP_nil y32_bz46 y32_bu46 y32_bp46 rfl) ⟨_, rfl, (up_m rfl hb_35)⟩ rfl ?_
    refine al_ro' (ro_sqeql (up_m rfl up_h) up_h rfl rfl y32_gq46 y32_sq46 (by decide)) ⟨_, rfl, (u2 rfl hb_35)⟩ rfl ?_
    refine al_ro' (ro_pickT (up_m rfl (u2 rfl hb_35)) up_h) trivial rfl ?_
    refine al_ro' (ro_assign up_h) trivial rfl ?_
    refine al_end (fun e_36 he_36 => ?_)
    have s4_36 := ef 4 he_36 up_h
    clear he_36 hb_35 s10_33 s11_33 s123_33 s16_33 s1_33 s2_33
    refine then_n ?_
    refine aw_ret ?_
    refine then_r ?_
    refine ret1 (.inr rfl) (by kernel_rfl) (resV_tmp s4_36) (.ro _ rfl) ?_
    clear s4_36 mo4_20 mo3_20 mo2_20 mo1_20 mo0_20 ml_20
    first | rfl | simp_all
   · replace hq_35 := bf hq_35; exfalso; omega
  · replace hq_34 := bnf hq_34; exfalso; omega
set_option maxRecDepth 100000 in
set_option maxHeartbeats 4000000 in
theorem lineGradients_C (l : Lin) (hf : fewL l = true) (hg : (linM l).2 = 0) (i : Int) (hm : misE i 0 (l.bs.length - 1) = 0) (hi : misE i 1 (l.js.length - 2) = 0) (hs : benS l i.toNat = true) : FnOk Try.prog 5 [lnA l, mA i] (fun q => q = tbA true) := by
  refine fnOk_of (fn := Try.f5) 152 (by kernel_rfl) rfl (by kernel_rfl) (Nat.le_of_ble_eq_true rfl) ?_
  intro e_0 m_0 hA hm_0
  have s0_0 : evA e_0 (.tmp 0) = _ := hA 0 _ rfl
  have s1_0 : evA e_0 (.tmp 1) = _ := hA 1 _ rfl
  have ml_0 : m_0.length = 0 := by rw [hm_0]; rfl
  clear hA hm_0
  have hl := fewL_sho hf; have hr := rgt_of hg; have hm2 := misE_z.1 hm; have gr := rGradientOf_ok l hr i.toNat (by omega); rw [show ((i.toNat : Nat) : Int) = i by omega] at gr; have hjs := hr.js; have hi2 := misE_z.1 hi; have hj : 1 ≤ i.toNat ∧ i.toNat + 2 ≤ l.js.length := (by omega); have br_ := rBendAt_ok l hr i.toNat hj; rw [show ((i.toNat : Nat) : Int) = i by omega] at br_; obtain ⟨x1, x2, x3⟩ := benX_bd hr hj; have hsm : (withinB (benX l i.toNat) (-1000000000) 1000000000 && withinB (benZ l i.toNat) 1 1000000000) = true := (by rw [← hs]; unfold benS smaB; congr 1; unfold withinB; simp [x2])
  refine aw_seq ?_
  refine aw_text (by kernel_rfl) ?_
  refine al_stm (st_box s0_0 rfl ml_0) trivial rfl (fun m_1 hm_1 => ?_)
  have mo0_1 := m_push hm_1 ml_0
  have ml_1 := m_push_l hm_1 ml_0
  have ml_1 : _ = 1 := ml_1
  clear hm_1
  refine al_ro' (ro_assign ev_c) trivial rfl ?_
  refine al_end (fun e_2 he_2 => ?_)
  have s1_2 := ef 1 he_2 (u2 rfl s1_0)
  have s2_2 := ef 2 he_2 (up_m rfl up_h)
  clear he_2 s0_0 s1_0
  refine then_n ?_
  refine aw_seq ?_
  refine aw_seq ?_
  refine aw_text (by kernel_rfl) ?_
  refine al_ro' (ro_call evL_nil rfl (awake_ok) y32_hcf6) trivial rfl ?_
  refine al_ro' (ro_not up_h) trivial rfl ?_
  refine al_end (fun e_3 he_3 => ?_)
  have s1_3 := ef 1 he_3 (u2 rfl s1_2)
  have s2_3 := ef 2 he_3 (u2 rfl s2_2)
  have s19_3 := ef 19 he_3 up_h
  clear he_3 s1_2 s2_2
  refine then_n ?_
  refine aw_case s19_3 (fun hq_4 => ?_) (fun hq_4 => ?_)
  · cases hq_4
  replace hq_4 := bf' hq_4
  refine aw_skip ?_
  refine then_n ?_
  refine aw_seq ?_
  refine aw_seq ?_
  refine aw_text (by kernel_rfl) ?_
  refine al_ro' (ro_eq (ro_ld_ptr y32_ty26 rfl mo0_1 s2_3 (by exact Nat.le_of_ble_eq_true rfl)) (by simp only [packA_t, packA_f, iE, bE, setAt, cellsA, Value.cells, map_vc, map_vn, Nat.reduceAdd, qS] <;> rfl)) trivial rfl ?_
  refine al_ro' (ro_call (evL_cons up_h evL_nil) rfl ((fewL_ok l).mono (fun q h => h.trans (by rw [hf]))) y32_hcf7) trivial rfl ?_
  refine al_ro' (ro_not up_h) trivial rfl ?_
  refine al_end (fun e_5 he_5 => ?_)
  have s1_5 := ef 1 he_5 (up_m rfl (u2 rfl s1_3))
  have s2_5 := ef 2 he_5 (up_m rfl (u2 rfl s2_3))
  have s22_5 := ef 22 he_5 up_h
  clear he_5 s19_3 s1_3 s2_3
  refine then_n ?_
  refine aw_case s22_5 (fun hq_6 => ?_) (fun hq_6 => ?_)
  · cases hq_6
  replace hq_6 := bf' hq_6
  refine aw_skip ?_
  refine then_n ?_
  refine aw_seq ?_
  refine aw_text (by kernel_rfl) ?_
  refine al_ro' (ro_eq (ro_ld_ptr y32_ty26 rfl mo0_1 s2_5 (by exact Nat.le_of_ble_eq_true rfl)) (by simp only [packA_t, packA_f, iE, bE, setAt, cellsA, Value.cells, map_vc, map_vn, Nat.reduceAdd, qS] <;> rfl)) trivial rfl ?_
  refine al_ro' (ro_call (evL_cons up_h evL_nil) rfl (yCopy_ok l hl) y32_hcf9) trivial rfl ?_
  refine al_ro' (ro_move (u2 rfl s1_5)) trivial rfl ?_
  refine al_ro' (ro_call (evL_cons (up_m rfl up_h) (evL_cons up_h evL_nil)) rfl (gradientOf_in l hl hg i hm) y32_hcf24) trivial rfl ?_
  refine al_ro' (ro_move up_h) trivial rfl ?_
  refine al_ro' (ro_extract up_h rfl) trivial rfl ?_
  refine al_ro' (ro_extract (up_m rfl up_h) rfl) trivial rfl ?_
  refine al_stm (st_alloc y32_az46 rfl ml_1) trivial rfl (fun m_7 hm_7 => ?_)
  have mo1_7 := m_push hm_7 ml_1
  simp only [packA_t, packA_f, iE, bE, setAt, cellsA, Value.cells, map_vc, map_vn, Nat.reduceAdd, qS] at mo1_7
  have mo0_7 := m_push_o hm_7 mo0_1
  have ml_7 := m_push_l hm_7 ml_1
  have ml_7 : _ = 2 := ml_7
  clear hm_7 mo0_1
  refine al_stm (st_store up_h (u2 rfl up_h) rfl rfl mo1_7 y32_sz46 rfl (by exact Nat.le_of_ble_eq_true rfl)) trivial rfl (fun m_8 hm_8 => ?_)
  have mo1_8 := m_set hm_8 mo1_7
  simp only [packA_t, packA_f, iE, bE, setAt, cellsA, Value.cells, map_vc, map_vn, Nat.reduceAdd, qS] at mo1_8
  have mo0_8 := m_set_o hm_8 mo0_7 (by decide)
  have ml_8 := m_set_l hm_8 ml_7
  clear hm_8 mo1_7 mo0_7
  refine al_ro' (ro_assign (up_n (up_m rfl up_h))) trivial rfl ?_
  refine al_end (fun e_9 he_9 => ?_)
  have s1_9 := ef 1 he_9 (up_m rfl (up_n (u8 rfl s1_5)))
  have s2_9 := ef 2 he_9 (up_m rfl (up_n (u8 rfl s2_5)))
  have s5_9 := ef 5 he_9 (up_m rfl (up_n up_h))
  have s6_9 := ef 6 he_9 up_h
  clear he_9 s1_5 s22_5 s2_5
  refine then_n ?_
  refine aw_seq ?_
  refine aw_text (by kernel_rfl) ?_
  refine al_ro' (ro_eq (ro_ld_ptr y32_ty26 rfl mo0_8 s2_9 (by exact Nat.le_of_ble_eq_true rfl)) (by simp only [packA_t, packA_f, iE, bE, setAt, cellsA, Value.cells, map_vc, map_vn, Nat.reduceAdd, qS] <;> rfl)) trivial rfl ?_
  refine al_ro' (ro_call (evL_cons up_h evL_nil) rfl (yCopy_ok l hl) y32_hcf9) trivial rfl ?_
  refine al_ro' (ro_call (evL_cons up_h evL_nil) rfl (steepestOf_good l hl hg) y32_hcf25) trivial rfl ?_
  refine al_ro' (ro_move up_h) trivial rfl ?_
  refine al_ro' (ro_extract up_h rfl) trivial rfl ?_
  refine al_ro' (ro_extract (up_m rfl up_h) rfl) trivial rfl ?_
  refine al_ro' (ro_extract (u2 rfl up_h) rfl) trivial rfl ?_
  refine al_stm (st_alloc y32_az46 rfl ml_8) trivial rfl (fun m_10 hm_10 => ?_)
  have mo2_10 := m_push hm_10 ml_8
  simp only [packA_t, packA_f, iE, bE, setAt, cellsA, Value.cells, map_vc, map_vn, Nat.reduceAdd, qS] at mo2_10
  have mo1_10 := m_push_o hm_10 mo1_8
  have mo0_10 := m_push_o hm_10 mo0_8
  have ml_10 := m_push_l hm_10 ml_8
  have ml_10 : _ = 3 := ml_10
  clear hm_10 mo1_8 mo0_8
  refine al_ro' (ro_assign (up_m rfl (u2 rfl up_h))) trivial rfl ?_
  refine al_stm (st_store (up_m rfl up_h) (up_m rfl (u2 rfl up_h)) rfl rfl mo2_10 y32_sz46 rfl (by exact Nat.le_of_ble_eq_true rfl)) trivial rfl (fun m_11 hm_11 => ?_)
  have mo2_11 := m_set hm_11 mo2_10
  simp only [packA_t, packA_f, iE, bE, setAt, cellsA, Value.cells, map_vc, map_vn, Nat.reduceAdd, qS] at mo2_11
  have mo1_11 := m_set_o hm_11 mo1_10 (by decide)
  have mo0_11 := m_set_o hm_11 mo0_10 (by decide)
  have ml_11 := m_set_l hm_11 ml_10
  clear hm_11 mo2_10 mo1_10 mo0_10
  refine al_ro' (ro_assign (up_n (u2 rfl up_h))) trivial rfl ?_
  refine al_end (fun e_12 he_12 => ?_)
  have s1_12 := ef 1 he_12 (up_m rfl (up_n (up_m rfl (u8 rfl s1_9))))
  have s2_12 := ef 2 he_12 (up_m rfl (up_n (up_m rfl (u8 rfl s2_9))))
  have s5_12 := ef 5 he_12 (up_m rfl (up_n (up_m rfl (u8 rfl s5_9))))
  have s6_12 := ef 6 he_12 (up_m rfl (up_n (up_m rfl (u8 rfl s6_9))))
  have s7_12 := ef 7 he_12 (up_m rfl (up_n up_h))
  have s8_12 := ef 8 he_12 (up_m rfl (up_n (up_m rfl up_h)))
  have s9_12 := ef 9 he_12 up_h
  clear he_12 s1_9 s2_9 s5_9 s6_9
  refine then_n ?_
  refine aw_seq ?_
  refine aw_text (by kernel_rfl) ?_
  refine al_ro' (ro_eq (ro_ld_ptr y32_ty26 rfl mo0_11 s2_12 (by exact Nat.le_of_ble_eq_true rfl)) (by simp only [packA_t, packA_f, iE, bE, setAt, cellsA, Value.cells, map_vc, map_vn, Nat.reduceAdd, qS] <;> rfl)) trivial rfl ?_
  refine al_ro' (ro_call (evL_cons up_h evL_nil) rfl (yCopy_ok l hl) y32_hcf9) trivial rfl ?_
  refine al_ro' (ro_move (u2 rfl s1_12)) trivial rfl ?_
  refine al_ro' (ro_call (evL_cons (up_m rfl up_h) (evL_cons up_h evL_nil)) rfl ((bendAt_in l hl hg i hi).mono (fun q h => by rw [if_pos hs] at h; exact h)) y32_hcf26) trivial rfl ?_
  refine al_ro' (ro_move up_h) trivial rfl ?_
  refine al_ro' (ro_extract up_h rfl) trivial rfl ?_
  refine al_ro' (ro_extract (up_m rfl up_h) rfl) trivial rfl ?_
  refine al_stm (st_alloc y32_az46 rfl ml_11) trivial rfl (fun m_13 hm_13 => ?_)
  have mo3_13 := m_push hm_13 ml_11
  simp only [packA_t, packA_f, iE, bE, setAt, cellsA, Value.cells, map_vc, map_vn, Nat.reduceAdd, qS] at mo3_13
  have mo2_13 := m_push_o hm_13 mo2_11
  have mo1_13 := m_push_o hm_13 mo1_11
  have mo0_13 := m_push_o hm_13 mo0_11
  have ml_13 := m_push_l hm_13 ml_11
  have ml_13 : _ = 4 := ml_13
  clear hm_13 mo2_11 mo1_11 mo0_11
  refine al_stm (st_store up_h (u2 rfl up_h) rfl rfl mo3_13 y32_sz46 rfl (by exact Nat.le_of_ble_eq_true rfl)) trivial rfl (fun m_14 hm_14 => ?_)
  have mo3_14 := m_set hm_14 mo3_13
  simp only [packA_t, packA_f, iE, bE, setAt, cellsA, Value.cells, map_vc, map_vn, Nat.reduceAdd, qS] at mo3_14
  have mo2_14 := m_set_o hm_14 mo2_13 (by decide)
  have mo1_14 := m_set_o hm_14 mo1_13 (by decide)
  have mo0_14 := m_set_o hm_14 mo0_13 (by decide)
  have ml_14 := m_set_l hm_14 ml_13
  clear hm_14 mo3_13 mo2_13 mo1_13 mo0_13
  refine al_ro' (ro_assign (up_n (up_m rfl up_h))) trivial rfl ?_
  refine al_end (fun e_15 he_15 => ?_)
  have s1_15 := ef 1 he_15 (up_m rfl (up_n (u8 rfl s1_12)))
  have s2_15 := ef 2 he_15 (up_m rfl (up_n (u8 rfl s2_12)))
  have s5_15 := ef 5 he_15 (up_m rfl (up_n (u8 rfl s5_12)))
  have s6_15 := ef 6 he_15 (up_m rfl (up_n (u8 rfl s6_12)))
  have s7_15 := ef 7 he_15 (up_m rfl (up_n (u8 rfl s7_12)))
  have s8_15 := ef 8 he_15 (up_m rfl (up_n (u8 rfl s8_12)))
  have s9_15 := ef 9 he_15 (up_m rfl (up_n (u8 rfl s9_12)))
  have s10_15 := ef 10 he_15 (up_m rfl (up_n up_h))
  have s11_15 := ef 11 he_15 up_h
  clear he_15 s1_12 s2_12 s5_12 s6_12 s7_12 s8_12 s9_12
  refine then_n ?_
  refine aw_seq ?_
  refine aw_seq ?_
  refine aw_text (by kernel_rfl) ?_
  refine al_ro' (ro_eq (ro_ld_ptr y32_ty26 rfl mo0_14 s2_15 (by exact Nat.le_of_ble_eq_true rfl)) (by simp only [packA_t, packA_f, iE, bE, setAt, cellsA, Value.cells, map_vc, map_vn, Nat.reduceAdd, qS] <;> rfl)) trivial rfl ?_
  refine al_ro' (ro_call (evL_cons up_h evL_nil) rfl (lineErr_ok l hl) y32_hcf19) trivial rfl ?_
  refine al_ro' (ro_assign up_h) trivial rfl ?_
  refine al_end (fun e_16 he_16 => ?_)
  have s1_16 := ef 1 he_16 (up_m rfl (u2 rfl s1_15))
  have s2_16 := ef 2 he_16 (up_m rfl (u2 rfl s2_15))
  have s5_16 := ef 5 he_16 (up_m rfl (u2 rfl s5_15))
  have s6_16 := ef 6 he_16 (up_m rfl (u2 rfl s6_15))
  have s7_16 := ef 7 he_16 (up_m rfl (u2 rfl s7_15))
  have s8_16 := ef 8 he_16 (up_m rfl (u2 rfl s8_15))
  have s9_16 := ef 9 he_16 (up_m rfl (u2 rfl s9_15))
  have s10_16 := ef 10 he_16 (up_m rfl (u2 rfl s10_15))
  have s11_16 := ef 11 he_16 (up_m rfl (u2 rfl s11_15))
  have s12_16 := ef 12 he_16 up_h
  clear he_16 s10_15 s11_15 s1_15 s2_15 s5_15 s6_15 s7_15 s8_15 s9_15
  refine then_n ?_
  refine aw_seq ?_
  refine aw_text (by kernel_rfl) ?_
  refine al_ro' (ro_move s12_16) trivial rfl ?_
  refine al_ro' (ro_neq up_h ev_c) trivial rfl ?_
  refine al_end (fun e_17 he_17 => ?_)
  have s1_17 := ef 1 he_17 (u2 rfl s1_16)
  have s2_17 := ef 2 he_17 (u2 rfl s2_16)
  have s5_17 := ef 5 he_17 (u2 rfl s5_16)
  have s6_17 := ef 6 he_17 (u2 rfl s6_16)
  have s7_17 := ef 7 he_17 (u2 rfl s7_16)
  have s8_17 := ef 8 he_17 (u2 rfl s8_16)
  have s9_17 := ef 9 he_17 (u2 rfl s9_16)
  have s10_17 := ef 10 he_17 (u2 rfl s10_16)
  have s11_17 := ef 11 he_17 (u2 rfl s11_16)
  have s12_17 := ef 12 he_17 (u2 rfl s12_16)
  have s47_17 := ef 47 he_17 up_h
  clear he_17 s10_16 s11_16 s12_16 s1_16 s2_16 s5_16 s6_16 s7_16 s8_16 s9_16
  refine then_n ?_
  refine aw_case s47_17 (fun hq_18 => ?_) (fun hq_18 => ?_)
  · replace hq_18 := bnt hq_18; exfalso; omega
  replace hq_18 := bnf hq_18
  refine aw_skip ?_
  refine then_n ?_
  refine aw_seq ?_
  refine aw_text (by kernel_rfl) ?_
  refine al_ro' (ro_eq (ro_ld_ptr y32_ty26 rfl mo0_14 s2_17 (by exact Nat.le_of_ble_eq_true rfl)) (by simp only [packA_t, packA_f, iE, bE, setAt, cellsA, Value.cells, map_vc, map_vn, Nat.reduceAdd, qS] <;> rfl)) trivial rfl ?_
  refine al_ro' (ro_call (evL_cons up_h evL_nil) rfl (rSteepestOf_ok l hr) y32_hcf27) trivial rfl ?_
  refine al_ro' (ro_move up_h) trivial rfl ?_
  refine al_ro' (ro_extract up_h rfl) trivial rfl ?_
  refine al_ro' (ro_extract (up_m rfl up_h) rfl) trivial rfl ?_
  refine al_stm (st_alloc y32_az46 rfl ml_14) trivial rfl (fun m_19 hm_19 => ?_)
  have mo4_19 := m_push hm_19 ml_14
  simp only [packA_t, packA_f, iE, bE, setAt, cellsA, Value.cells, map_vc, map_vn, Nat.reduceAdd, qS] at mo4_19
  have mo3_19 := m_push_o hm_19 mo3_14
  have mo2_19 := m_push_o hm_19 mo2_14
  have mo1_19 := m_push_o hm_19 mo1_14
  have mo0_19 := m_push_o hm_19 mo0_14
  have ml_19 := m_push_l hm_19 ml_14
  have ml_19 : _ = 5 := ml_19
  clear hm_19 mo3_14 mo2_14 mo1_14 mo0_14
  refine al_ro' (ro_assign (u2 rfl up_h)) trivial rfl ?_
  refine al_stm (st_store (up_m rfl up_h) (u2 rfl up_h) rfl rfl mo4_19 y32_sz46 rfl (by exact Nat.le_of_ble_eq_true rfl)) trivial rfl (fun m_20 hm_20 => ?_)
  have mo4_20 := m_set hm_20 mo4_19
  simp only [packA_t, packA_f, iE, bE, setAt, cellsA, Value.cells, map_vc, map_vn, Nat.reduceAdd, qS] at mo4_20
  have mo3_20 := m_set_o hm_20 mo3_19 (by decide)
  have mo2_20 := m_set_o hm_20 mo2_19 (by decide)
  have mo1_20 := m_set_o hm_20 mo1_19 (by decide)
  have mo0_20 := m_set_o hm_20 mo0_19 (by decide)
  have ml_20 := m_set_l hm_20 ml_19
  clear hm_20 mo4_19 mo3_19 mo2_19 mo1_19 mo0_19
  refine al_end (fun e_21 he_21 => ?_)
  have s1_21 := ef 1 he_21 (up_n (up_m rfl (u2 rfl (u4 rfl s1_17))))
  have s2_21 := ef 2 he_21 (up_n (up_m rfl (u2 rfl (u4 rfl s2_17))))
  have s5_21 := ef 5 he_21 (up_n (up_m rfl (u2 rfl (u4 rfl s5_17))))
  have s6_21 := ef 6 he_21 (up_n (up_m rfl (u2 rfl (u4 rfl s6_17))))
  have s7_21 := ef 7 he_21 (up_n (up_m rfl (u2 rfl (u4 rfl s7_17))))
  have s8_21 := ef 8 he_21 (up_n (up_m rfl (u2 rfl (u4 rfl s8_17))))
  have s9_21 := ef 9 he_21 (up_n (up_m rfl (u2 rfl (u4 rfl s9_17))))
  have s10_21 := ef 10 he_21 (up_n (up_m rfl (u2 rfl (u4 rfl s10_17))))
  have s11_21 := ef 11 he_21 (up_n (up_m rfl (u2 rfl (u4 rfl s11_17))))
  have s13_21 := ef 13 he_21 (up_n up_h)
  have s14_21 := ef 14 he_21 (up_n (up_m rfl up_h))
  clear he_21 s10_17 s11_17 s12_17 s1_17 s2_17 s47_17 s5_17 s6_17 s7_17 s8_17 s9_17
  refine then_n ?_
  refine aw_seq ?_
  refine aw_seq ?_
  refine aw_text (by kernel_rfl) ?_
  refine al_ro' (ro_move s9_21) trivial rfl ?_
  refine al_ro' (ro_neq up_h ev_c) trivial rfl ?_
  refine al_ro' (ro_move up_h) trivial rfl ?_
  refine al_case up_h (fun hb_22 hq_22 => ?_) (fun hb_22 hq_22 => ?_)
  · cases hq_22
  replace hq_22 := bnf hq_22
  refine al_ro' (ro_move (up_m rfl (u2 rfl s7_21))) ⟨_, rfl, hb_22⟩ rfl ?_
  refine al_ro' (ro_move (u4 rfl s13_21)) ⟨_, rfl, (up_m rfl hb_22)⟩ rfl ?_
  refine al_ro' (ro_neq (up_m rfl up_h) up_h) ⟨_, rfl, (u2 rfl hb_22)⟩ rfl ?_
  refine al_ro' (ro_pickF (up_m rfl (u2 rfl hb_22)) up_h) trivial rfl ?_
  refine al_ro' (ro_move up_h) trivial rfl ?_
  refine al_case up_h (fun hb_23 hq_23 => ?_) (fun hb_23 hq_23 => ?_)
  · replace hq_23 := bnt hq_23; exfalso; omega
  replace hq_23 := bnf hq_23
  refine al_ro' (ro_eq (ro_ld_ptr y32_ty46 rfl mo2_20 (u8 rfl s8_21) (by exact Nat.le_of_ble_eq_true rfl)) (by simp only [packA_t, packA_f, iE, bE, setAt, cellsA, Value.cells, map_vc, map_vn, Nat.reduceAdd, qS] <;> rfl)) ⟨_, rfl, hb_23⟩ rfl ?_
  refine al_ro' (ro_eq (ro_ld_ptr y32_ty46 rfl mo4_20 (up_m rfl (u8 rfl s14_21)) (by exact Nat.le_of_ble_eq_true rfl)) (by simp only [packA_t, packA_f, iE, bE, setAt, cellsA, Value.cells, map_vc, map_vn, Nat.reduceAdd, qS] <;> rfl)) ⟨_, rfl, (up_m rfl hb_23)⟩ rfl ?_
  refine al_ro' (ro_sqneq (up_m rfl up_h) up_h rfl rfl y32_gq46 y32_sq46 (by decide)) ⟨_, rfl, (u2 rfl hb_23)⟩ rfl ?_
  refine al_ro' (ro_pickF (up_m rfl (u2 rfl hb_23)) up_h) trivial rfl ?_
  refine al_end (fun e_24 he_24 => ?_)
  have s1_24 := ef 1 he_24 (u4 rfl (u8 rfl s1_21))
  have s2_24 := ef 2 he_24 (u4 rfl (u8 rfl s2_21))
  have s5_24 := ef 5 he_24 (u4 rfl (u8 rfl s5_21))
  have s6_24 := ef 6 he_24 (u4 rfl (u8 rfl s6_21))
  have s10_24 := ef 10 he_24 (u4 rfl (u8 rfl s10_21))
  have s11_24 := ef 11 he_24 (u4 rfl (u8 rfl s11_21))
  have s96_24 := ef 96 he_24 up_h
  clear he_24 hb_22 hb_23 s10_21 s11_21 s13_21 s14_21 s1_21 s2_21 s5_21 s6_21 s7_21 s8_21 s9_21
  refine then_n ?_
  refine aw_case s96_24 (fun hq_25 => ?_) (fun hq_25 => ?_)
  · first | (simp at hq_25; done) | (exact absurd hg (by simpa using hq_25)) | (exact absurd hq_25 hm) | (exact absurd hm hq_25) | (exact absurd hq_25 hi) | (exact absurd hi hq_25) | (rw [hsm] at hq_25; simp at hq_25; done)
  replace hq_25 := bf' hq_25
  refine aw_skip ?_
  refine then_n ?_
  refine aw_seq ?_
  refine aw_seq ?_
  refine aw_text (by kernel_rfl) ?_
  refine al_ro' (ro_eq (ro_ld_ptr y32_ty26 rfl mo0_20 s2_24 (by exact Nat.le_of_ble_eq_true rfl)) (by simp only [packA_t, packA_f, iE, bE, setAt, cellsA, Value.cells, map_vc, map_vn, Nat.reduceAdd, qS] <;> rfl)) trivial rfl ?_
  refine al_ro' (ro_move (up_m rfl s1_24)) trivial rfl ?_
  refine al_ro' (ro_call (evL_cons (up_m rfl up_h) (evL_cons up_h evL_nil)) rfl (beamErr_ok l hr i) y32_hcf28) trivial rfl ?_
  refine al_ro' (ro_assign up_h) trivial rfl ?_
  refine al_end (fun e_26 he_26 => ?_)
  have s1_26 := ef 1 he_26 (u4 rfl s1_24)
  have s2_26 := ef 2 he_26 (u4 rfl s2_24)
  have s5_26 := ef 5 he_26 (u4 rfl s5_24)
  have s6_26 := ef 6 he_26 (u4 rfl s6_24)
  have s10_26 := ef 10 he_26 (u4 rfl s10_24)
  have s11_26 := ef 11 he_26 (u4 rfl s11_24)
  have s15_26 := ef 15 he_26 up_h
  clear he_26 s10_24 s11_24 s1_24 s2_24 s5_24 s6_24 s96_24
  refine then_n ?_
  refine aw_seq ?_
  refine aw_text (by kernel_rfl) ?_
  refine al_ro' (ro_move s15_26) trivial rfl ?_
  refine al_ro' (ro_neq up_h ev_c) trivial rfl ?_
  refine al_end (fun e_27 he_27 => ?_)
  have s1_27 := ef 1 he_27 (u2 rfl s1_26)
  have s2_27 := ef 2 he_27 (u2 rfl s2_26)
  have s5_27 := ef 5 he_27 (u2 rfl s5_26)
  have s6_27 := ef 6 he_27 (u2 rfl s6_26)
  have s10_27 := ef 10 he_27 (u2 rfl s10_26)
  have s11_27 := ef 11 he_27 (u2 rfl s11_26)
  have s15_27 := ef 15 he_27 (u2 rfl s15_26)
  have s101_27 := ef 101 he_27 up_h
  clear he_27 s10_26 s11_26 s15_26 s1_26 s2_26 s5_26 s6_26
  refine then_n ?_
  refine aw_case s101_27 (fun hq_28 => ?_) (fun hq_28 => ?_)
  · replace hq_28 := bnt hq_28; exfalso; omega
  replace hq_28 := bnf hq_28
  refine aw_seq ?_
  refine aw_draw 9 (by kernel_rfl) (by kernel_rfl) (by kernel_rfl) (by kernel_rfl) ?_
  refine ds_ro' (ro_move s6_27) trivial rfl ?_
  refine ds_ro' (ro_neq up_h ev_c) trivial rfl ?_
  refine ds_ro' (ro_move up_h) trivial rfl ?_
  refine ds_case up_h (fun hb_29 hq_29 => ?_) (fun hb_29 hq_29 => ?_)
  · cases hq_29
  replace hq_29 := bnf hq_29
  refine ds_ro' (ro_eq (ro_ld_ptr y32_ty46 rfl mo1_20 (up_m rfl (u2 rfl s5_27)) (by exact Nat.le_of_ble_eq_true rfl)) (by simp only [packA_t, packA_f, iE, bE, setAt, cellsA, Value.cells, map_vc, map_vn, Nat.reduceAdd, qS] <;> rfl)) ⟨_, rfl, hb_29⟩ rfl ?_
  refine ds_ro' (ro_eq (ro_ld_ptr y32_ty26 rfl mo0_20 (u4 rfl s2_27) (by exact Nat.le_of_ble_eq_true rfl)) (by simp only [packA_t, packA_f, iE, bE, setAt, cellsA, Value.cells, map_vc, map_vn, Nat.reduceAdd, qS] <;> rfl)) ⟨_, rfl, (up_m rfl hb_29)⟩ rfl ?_
  refine ds_ro' (ro_move (up_m rfl (u4 rfl s1_27))) ⟨_, rfl, (u2 rfl hb_29)⟩ rfl ?_
  refine ds_ro' (ro_call (evL_cons (up_m rfl up_h) (evL_cons up_h evL_nil)) rfl (gr) y32_hcf29) ⟨_, rfl, (up_m rfl (u2 rfl hb_29))⟩ rfl ?_
  refine ds_ro' (ro_sqneq (up_m rfl (u2 rfl up_h)) up_h rfl rfl y32_gq46 y32_sq46 (by decide)) ⟨_, rfl, (u4 rfl hb_29)⟩ rfl ?_
  refine ds_ro' (ro_pickF (up_m rfl (u4 rfl hb_29)) up_h) trivial rfl ?_
  refine ds_nil ?_
  refine al_end (fun e_30 he_30 => ?_)
  have s1_30 := ef 1 he_30 (up_m rfl (u8 rfl s1_27))
  have s2_30 := ef 2 he_30 (up_m rfl (u8 rfl s2_27))
  have s10_30 := ef 10 he_30 (up_m rfl (u8 rfl s10_27))
  have s11_30 := ef 11 he_30 (up_m rfl (u8 rfl s11_27))
  have s118_30 := ef 118 he_30 up_h
  clear he_30 hb_29 s101_27 s10_27 s11_27 s15_27 s1_27 s2_27 s5_27 s6_27
  refine then_n ?_
  refine aw_case s118_30 (fun hq_31 => ?_) (fun hq_31 => ?_)
  · first | (simp at hq_31; done) | (exact absurd hg (by simpa using hq_31)) | (exact absurd hq_31 hm) | (exact absurd hm hq_31) | (exact absurd hq_31 hi) | (exact absurd hi hq_31) | (rw [hsm] at hq_31; simp at hq_31; done)
  replace hq_31 := bf' hq_31
  refine aw_skip ?_
  refine then_n ?_
  refine aw_seq ?_
  refine aw_seq ?_
  refine aw_text (by kernel_rfl) ?_
  refine al_ro' (ro_eq (ro_ld_ptr y32_ty26 rfl mo0_20 s2_30 (by exact Nat.le_of_ble_eq_true rfl)) (by simp only [packA_t, packA_f, iE, bE, setAt, cellsA, Value.cells, map_vc, map_vn, Nat.reduceAdd, qS] <;> rfl)) trivial rfl ?_
  refine al_ro' (ro_move (up_m rfl s1_30)) trivial rfl ?_
  refine al_ro' (ro_call (evL_cons (up_m rfl up_h) (evL_cons up_h evL_nil)) rfl (innerErr_ok l hr i) y32_hcf30) trivial rfl ?_
  refine al_ro' (ro_assign up_h) trivial rfl ?_
  refine al_end (fun e_32 he_32 => ?_)
  have s1_32 := ef 1 he_32 (u4 rfl s1_30)
  have s2_32 := ef 2 he_32 (u4 rfl s2_30)
  have s10_32 := ef 10 he_32 (u4 rfl s10_30)
  have s11_32 := ef 11 he_32 (u4 rfl s11_30)
  have s16_32 := ef 16 he_32 up_h
  clear he_32 s10_30 s118_30 s11_30 s1_30 s2_30
  refine then_n ?_
  refine aw_seq ?_
  refine aw_text (by kernel_rfl) ?_
  refine al_ro' (ro_move s16_32) trivial rfl ?_
  refine al_ro' (ro_neq up_h ev_c) trivial rfl ?_
  refine al_end (fun e_33 he_33 => ?_)
  have s1_33 := ef 1 he_33 (u2 rfl s1_32)
  have s2_33 := ef 2 he_33 (u2 rfl s2_32)
  have s10_33 := ef 10 he_33 (u2 rfl s10_32)
  have s11_33 := ef 11 he_33 (u2 rfl s11_32)
  have s16_33 := ef 16 he_33 (u2 rfl s16_32)
  have s123_33 := ef 123 he_33 up_h
  clear he_33 s10_32 s11_32 s16_32 s1_32 s2_32
  refine then_n ?_
  refine aw_case s123_33 (fun hq_34 => ?_) (fun hq_34 => ?_)
  · replace hq_34 := bnt hq_34; exfalso; omega
  replace hq_34 := bnf hq_34
  refine aw_skip ?_
  refine then_n ?_
  refine aw_seq ?_
  refine aw_text (by kernel_rfl) ?_
  refine al_ro' (ro_eq (ro_ld_ptr y32_ty26 rfl mo0_20 s2_33 (by exact Nat.le_of_ble_eq_true rfl)) (by simp only [packA_t, packA_f, iE, bE, setAt, cellsA, Value.cells, map_vc, map_vn, Nat.reduceAdd, qS] <;> rfl)) trivial rfl ?_
  refine al_ro' (ro_move (up_m rfl s1_33)) trivial rfl ?_
  refine al_ro' (ro_call (evL_cons (up_m rfl up_h) (evL_cons up_h evL_nil)) rfl (br_) y32_hcf31) trivial rfl ?_
  refine al_stm (st_alloc y32_az46 rfl ml_20) trivial rfl (fun m_35 hm_35 => ?_)
  have mo5_35 := m_push hm_35 ml_20
  simp only [packA_t, packA_f, iE, bE, setAt, cellsA, Value.cells, map_vc, map_vn, Nat.reduceAdd, qS] at mo5_35
  have mo4_35 := m_push_o hm_35 mo4_20
  have mo3_35 := m_push_o hm_35 mo3_20
  have mo2_35 := m_push_o hm_35 mo2_20
  have mo1_35 := m_push_o hm_35 mo1_20
  have mo0_35 := m_push_o hm_35 mo0_20
  have ml_35 := m_push_l hm_35 ml_20
  have ml_35 : _ = 6 := ml_35
  clear hm_35 mo4_20 mo3_20 mo2_20 mo1_20 mo0_20
  refine al_stm (st_store up_h (up_m rfl up_h) rfl rfl mo5_35 y32_sz46 rfl (by exact Nat.le_of_ble_eq_true rfl)) trivial rfl (fun m_36 hm_36 => ?_)
  have mo5_36 := m_set hm_36 mo5_35
  simp only [packA_t, packA_f, iE, bE, setAt, cellsA, Value.cells, map_vc, map_vn, Nat.reduceAdd, qS] at mo5_36
  have mo4_36 := m_set_o hm_36 mo4_35 (by decide)
  have mo3_36 := m_set_o hm_36 mo3_35 (by decide)
  have mo2_36 := m_set_o hm_36 mo2_35 (by decide)
  have mo1_36 := m_set_o hm_36 mo1_35 (by decide)
  have mo0_36 := m_set_o hm_36 mo0_35 (by decide)
  have ml_36 := m_set_l hm_36 ml_35
  clear hm_36 mo5_35 mo4_35 mo3_35 mo2_35 mo1_35 mo0_35
  refine al_end (fun e_37 he_37 => ?_)
  have s10_37 := ef 10 he_37 (up_n (u4 rfl s10_33))
  have s11_37 := ef 11 he_37 (up_n (u4 rfl s11_33))
  have s17_37 := ef 17 he_37 (up_n up_h)
  clear he_37 s10_33 s11_33 s123_33 s16_33 s1_33 s2_33
  refine then_n ?_
  refine aw_seq ?_
  refine aw_seq ?_
  refine aw_text (by kernel_rfl) ?_
  refine al_ro' (ro_eq (ro_ld_ptr y32_ty46 rfl mo5_36 s17_37 (by exact Nat.le_of_ble_eq_true rfl)) (by simp only [packA_t, packA_f, iE, bE, setAt, cellsA, Value.cells, map_vc, map_vn, Nat.reduceAdd, qS] <;> rfl)) trivial rfl ?_
  refine al_ro' (ro_call (evL_cons up_h evL_nil) rfl (isSmall_ok _ _) y32_hcf32) trivial rfl ?_
  refine al_ro' (ro_not up_h) trivial rfl ?_
  refine al_end (fun e_38 he_38 => ?_)
  have s10_38 := ef 10 he_38 (up_m rfl (u2 rfl s10_37))
  have s11_38 := ef 11 he_38 (up_m rfl (u2 rfl s11_37))
  have s17_38 := ef 17 he_38 (up_m rfl (u2 rfl s17_37))
  have s137_38 := ef 137 he_38 up_h
  clear he_38 s10_37 s11_37 s17_37
  refine then_n ?_
  refine aw_case s137_38 (fun hq_39 => ?_) (fun hq_39 => ?_)
  · first | (simp at hq_39; done) | (exact absurd hg (by simpa using hq_39)) | (exact absurd hq_39 hm) | (exact absurd hm hq_39) | (exact absurd hq_39 hi) | (exact absurd hi hq_39) | (rw [hsm] at hq_39; simp at hq_39; done)
  replace hq_39 := bf' hq_39
  refine aw_skip ?_
  refine then_n ?_
  refine aw_seq ?_
  refine aw_text (by kernel_rfl) ?_
  refine al_ro' (ro_move s11_38) trivial rfl ?_
  refine al_ro' (ro_eql up_h ev_c) trivial rfl ?_
  refine al_ro' (ro_move up_h) trivial rfl ?_
  refine al_case up_h (fun hb_40 hq_40 => ?_) (fun hb_40 hq_40 => ?_)
  ·replace hq_40 := bt hq_40
   refine al_ro' (ro_eq (ro_ld_ptr y32_ty46 rfl mo3_36 (up_m rfl (u2 rfl s10_38)) (by exact Nat.le_of_ble_eq_true rfl)) (by simp only [packA_t, packA_f, iE, bE, setAt, cellsA, Value.cells, map_vc, map_vn, Nat.reduceAdd, qS] <;> rfl)) ⟨_, rfl, hb_40⟩ rfl ?_
   refine al_ro' (ro_eq (ro_ld_ptr y32_ty46 rfl mo5_36 (u4 rfl s17_38) (by exact Nat.le_of_ble_eq_true rfl)) (by simp only [packA_t, packA_f, iE, bE, setAt, cellsA, Value.cells, map_vc, map_vn, Nat.reduceAdd, qS] <;> rfl)) ⟨_, rfl, (up_m rfl hb_40)⟩ rfl ?_
   refine al_ro' (ro_sqeql (up_m rfl up_h) up_h rfl rfl y32_gq46 y32_sq46 (by decide)) ⟨_, rfl, (u2 rfl hb_40)⟩ rfl ?_
   refine al_ro' (ro_pickT (up_m rfl (u2 rfl hb_40)) up_h) trivial rfl ?_
   refine al_ro' (ro_assign up_h) trivial rfl ?_
   refine al_end (fun e_41 he_41 => ?_)
   have s4_41 := ef 4 he_41 up_h
   clear he_41 hb_40 s10_38 s11_38 s137_38 s17_38
   refine then_n ?_
   refine aw_ret ?_
   refine ret1 (.inr rfl) (by kernel_rfl) (resV_tmp s4_41) (.ro _ rfl) ?_
   clear s4_41 mo5_36 mo4_36 mo3_36 mo2_36 mo1_36 mo0_36 ml_36
   first | rfl | simp_all
  · cases hq_40
set_option maxRecDepth 100000 in
set_option maxHeartbeats 4000000 in
theorem lineGradients_D (l : Lin) (hf : fewL l = true) (hg : (linM l).2 = 0) (i : Int) (hm : misE i 0 (l.bs.length - 1) = 0) (hi : misE i 1 (l.js.length - 2) = 0) (hs : benS l i.toNat = false) : FnOk Try.prog 5 [lnA l, mA i] (fun q => q = tbA true) := by
  refine fnOk_of (fn := Try.f5) 152 (by kernel_rfl) rfl (by kernel_rfl) (Nat.le_of_ble_eq_true rfl) ?_
  intro e_0 m_0 hA hm_0
  have s0_0 : evA e_0 (.tmp 0) = _ := hA 0 _ rfl
  have s1_0 : evA e_0 (.tmp 1) = _ := hA 1 _ rfl
  have ml_0 : m_0.length = 0 := by rw [hm_0]; rfl
  clear hA hm_0
  have hl := fewL_sho hf; have hr := rgt_of hg; have hm2 := misE_z.1 hm; have gr := rGradientOf_ok l hr i.toNat (by omega); rw [show ((i.toNat : Nat) : Int) = i by omega] at gr; have hjs := hr.js; have hi2 := misE_z.1 hi; have hj : 1 ≤ i.toNat ∧ i.toNat + 2 ≤ l.js.length := (by omega); have br_ := rBendAt_ok l hr i.toNat hj; rw [show ((i.toNat : Nat) : Int) = i by omega] at br_; obtain ⟨x1, x2, x3⟩ := benX_bd hr hj; have hsm : (withinB (benX l i.toNat) (-1000000000) 1000000000 && withinB (benZ l i.toNat) 1 1000000000) = false := (by rw [← hs]; unfold benS smaB; congr 1; unfold withinB; simp [x2])
  refine aw_seq ?_
  refine aw_text (by kernel_rfl) ?_
  refine al_stm (st_box s0_0 rfl ml_0) trivial rfl (fun m_1 hm_1 => ?_)
  have mo0_1 := m_push hm_1 ml_0
  have ml_1 := m_push_l hm_1 ml_0
  have ml_1 : _ = 1 := ml_1
  clear hm_1
  refine al_ro' (ro_assign ev_c) trivial rfl ?_
  refine al_end (fun e_2 he_2 => ?_)
  have s1_2 := ef 1 he_2 (u2 rfl s1_0)
  have s2_2 := ef 2 he_2 (up_m rfl up_h)
  clear he_2 s0_0 s1_0
  refine then_n ?_
  refine aw_seq ?_
  refine aw_seq ?_
  refine aw_text (by kernel_rfl) ?_
  refine al_ro' (ro_call evL_nil rfl (awake_ok) y32_hcf6) trivial rfl ?_
  refine al_ro' (ro_not up_h) trivial rfl ?_
  refine al_end (fun e_3 he_3 => ?_)
  have s1_3 := ef 1 he_3 (u2 rfl s1_2)
  have s2_3 := ef 2 he_3 (u2 rfl s2_2)
  have s19_3 := ef 19 he_3 up_h
  clear he_3 s1_2 s2_2
  refine then_n ?_
  refine aw_case s19_3 (fun hq_4 => ?_) (fun hq_4 => ?_)
  · cases hq_4
  replace hq_4 := bf' hq_4
  refine aw_skip ?_
  refine then_n ?_
  refine aw_seq ?_
  refine aw_seq ?_
  refine aw_text (by kernel_rfl) ?_
  refine al_ro' (ro_eq (ro_ld_ptr y32_ty26 rfl mo0_1 s2_3 (by exact Nat.le_of_ble_eq_true rfl)) (by simp only [packA_t, packA_f, iE, bE, setAt, cellsA, Value.cells, map_vc, map_vn, Nat.reduceAdd, qS] <;> rfl)) trivial rfl ?_
  refine al_ro' (ro_call (evL_cons up_h evL_nil) rfl ((fewL_ok l).mono (fun q h => h.trans (by rw [hf]))) y32_hcf7) trivial rfl ?_
  refine al_ro' (ro_not up_h) trivial rfl ?_
  refine al_end (fun e_5 he_5 => ?_)
  have s1_5 := ef 1 he_5 (up_m rfl (u2 rfl s1_3))
  have s2_5 := ef 2 he_5 (up_m rfl (u2 rfl s2_3))
  have s22_5 := ef 22 he_5 up_h
  clear he_5 s19_3 s1_3 s2_3
  refine then_n ?_
  refine aw_case s22_5 (fun hq_6 => ?_) (fun hq_6 => ?_)
  · cases hq_6
  replace hq_6 := bf' hq_6
  refine aw_skip ?_
  refine then_n ?_
  refine aw_seq ?_
  refine aw_text (by kernel_rfl) ?_
  refine al_ro' (ro_eq (ro_ld_ptr y32_ty26 rfl mo0_1 s2_5 (by exact Nat.le_of_ble_eq_true rfl)) (by simp only [packA_t, packA_f, iE, bE, setAt, cellsA, Value.cells, map_vc, map_vn, Nat.reduceAdd, qS] <;> rfl)) trivial rfl ?_
  refine al_ro' (ro_call (evL_cons up_h evL_nil) rfl (yCopy_ok l hl) y32_hcf9) trivial rfl ?_
  refine al_ro' (ro_move (u2 rfl s1_5)) trivial rfl ?_
  refine al_ro' (ro_call (evL_cons (up_m rfl up_h) (evL_cons up_h evL_nil)) rfl (gradientOf_in l hl hg i hm) y32_hcf24) trivial rfl ?_
  refine al_ro' (ro_move up_h) trivial rfl ?_
  refine al_ro' (ro_extract up_h rfl) trivial rfl ?_
  refine al_ro' (ro_extract (up_m rfl up_h) rfl) trivial rfl ?_
  refine al_stm (st_alloc y32_az46 rfl ml_1) trivial rfl (fun m_7 hm_7 => ?_)
  have mo1_7 := m_push hm_7 ml_1
  simp only [packA_t, packA_f, iE, bE, setAt, cellsA, Value.cells, map_vc, map_vn, Nat.reduceAdd, qS] at mo1_7
  have mo0_7 := m_push_o hm_7 mo0_1
  have ml_7 := m_push_l hm_7 ml_1
  have ml_7 : _ = 2 := ml_7
  clear hm_7 mo0_1
  refine al_stm (st_store up_h (u2 rfl up_h) rfl rfl mo1_7 y32_sz46 rfl (by exact Nat.le_of_ble_eq_true rfl)) trivial rfl (fun m_8 hm_8 => ?_)
  have mo1_8 := m_set hm_8 mo1_7
  simp only [packA_t, packA_f, iE, bE, setAt, cellsA, Value.cells, map_vc, map_vn, Nat.reduceAdd, qS] at mo1_8
  have mo0_8 := m_set_o hm_8 mo0_7 (by decide)
  have ml_8 := m_set_l hm_8 ml_7
  clear hm_8 mo1_7 mo0_7
  refine al_ro' (ro_assign (up_n (up_m rfl up_h))) trivial rfl ?_
  refine al_end (fun e_9 he_9 => ?_)
  have s1_9 := ef 1 he_9 (up_m rfl (up_n (u8 rfl s1_5)))
  have s2_9 := ef 2 he_9 (up_m rfl (up_n (u8 rfl s2_5)))
  have s5_9 := ef 5 he_9 (up_m rfl (up_n up_h))
  have s6_9 := ef 6 he_9 up_h
  clear he_9 s1_5 s22_5 s2_5
  refine then_n ?_
  refine aw_seq ?_
  refine aw_text (by kernel_rfl) ?_
  refine al_ro' (ro_eq (ro_ld_ptr y32_ty26 rfl mo0_8 s2_9 (by exact Nat.le_of_ble_eq_true rfl)) (by simp only [packA_t, packA_f, iE, bE, setAt, cellsA, Value.cells, map_vc, map_vn, Nat.reduceAdd, qS] <;> rfl)) trivial rfl ?_
  refine al_ro' (ro_call (evL_cons up_h evL_nil) rfl (yCopy_ok l hl) y32_hcf9) trivial rfl ?_
  refine al_ro' (ro_call (evL_cons up_h evL_nil) rfl (steepestOf_good l hl hg) y32_hcf25) trivial rfl ?_
  refine al_ro' (ro_move up_h) trivial rfl ?_
  refine al_ro' (ro_extract up_h rfl) trivial rfl ?_
  refine al_ro' (ro_extract (up_m rfl up_h) rfl) trivial rfl ?_
  refine al_ro' (ro_extract (u2 rfl up_h) rfl) trivial rfl ?_
  refine al_stm (st_alloc y32_az46 rfl ml_8) trivial rfl (fun m_10 hm_10 => ?_)
  have mo2_10 := m_push hm_10 ml_8
  simp only [packA_t, packA_f, iE, bE, setAt, cellsA, Value.cells, map_vc, map_vn, Nat.reduceAdd, qS] at mo2_10
  have mo1_10 := m_push_o hm_10 mo1_8
  have mo0_10 := m_push_o hm_10 mo0_8
  have ml_10 := m_push_l hm_10 ml_8
  have ml_10 : _ = 3 := ml_10
  clear hm_10 mo1_8 mo0_8
  refine al_ro' (ro_assign (up_m rfl (u2 rfl up_h))) trivial rfl ?_
  refine al_stm (st_store (up_m rfl up_h) (up_m rfl (u2 rfl up_h)) rfl rfl mo2_10 y32_sz46 rfl (by exact Nat.le_of_ble_eq_true rfl)) trivial rfl (fun m_11 hm_11 => ?_)
  have mo2_11 := m_set hm_11 mo2_10
  simp only [packA_t, packA_f, iE, bE, setAt, cellsA, Value.cells, map_vc, map_vn, Nat.reduceAdd, qS] at mo2_11
  have mo1_11 := m_set_o hm_11 mo1_10 (by decide)
  have mo0_11 := m_set_o hm_11 mo0_10 (by decide)
  have ml_11 := m_set_l hm_11 ml_10
  clear hm_11 mo2_10 mo1_10 mo0_10
  refine al_ro' (ro_assign (up_n (u2 rfl up_h))) trivial rfl ?_
  refine al_end (fun e_12 he_12 => ?_)
  have s1_12 := ef 1 he_12 (up_m rfl (up_n (up_m rfl (u8 rfl s1_9))))
  have s2_12 := ef 2 he_12 (up_m rfl (up_n (up_m rfl (u8 rfl s2_9))))
  have s5_12 := ef 5 he_12 (up_m rfl (up_n (up_m rfl (u8 rfl s5_9))))
  have s6_12 := ef 6 he_12 (up_m rfl (up_n (up_m rfl (u8 rfl s6_9))))
  have s7_12 := ef 7 he_12 (up_m rfl (up_n up_h))
  have s8_12 := ef 8 he_12 (up_m rfl (up_n (up_m rfl up_h)))
  have s9_12 := ef 9 he_12 up_h
  clear he_12 s1_9 s2_9 s5_9 s6_9
  refine then_n ?_
  refine aw_seq ?_
  refine aw_text (by kernel_rfl) ?_
  refine al_ro' (ro_eq (ro_ld_ptr y32_ty26 rfl mo0_11 s2_12 (by exact Nat.le_of_ble_eq_true rfl)) (by simp only [packA_t, packA_f, iE, bE, setAt, cellsA, Value.cells, map_vc, map_vn, Nat.reduceAdd, qS] <;> rfl)) trivial rfl ?_
  refine al_ro' (ro_call (evL_cons up_h evL_nil) rfl (yCopy_ok l hl) y32_hcf9) trivial rfl ?_
  refine al_ro' (ro_move (u2 rfl s1_12)) trivial rfl ?_
  refine al_ro' (ro_call (evL_cons (up_m rfl up_h) (evL_cons up_h evL_nil)) rfl ((bendAt_in l hl hg i hi).mono (fun q h => by rw [if_neg (by rw [hs]; decide)] at h; exact h)) y32_hcf26) trivial rfl ?_
  refine al_ro' (ro_move up_h) trivial rfl ?_
  refine al_ro' (ro_extract up_h rfl) trivial rfl ?_
  refine al_ro' (ro_extract (up_m rfl up_h) rfl) trivial rfl ?_
  refine al_stm (st_alloc y32_az46 rfl ml_11) trivial rfl (fun m_13 hm_13 => ?_)
  have mo3_13 := m_push hm_13 ml_11
  simp only [packA_t, packA_f, iE, bE, setAt, cellsA, Value.cells, map_vc, map_vn, Nat.reduceAdd, qS] at mo3_13
  have mo2_13 := m_push_o hm_13 mo2_11
  have mo1_13 := m_push_o hm_13 mo1_11
  have mo0_13 := m_push_o hm_13 mo0_11
  have ml_13 := m_push_l hm_13 ml_11
  have ml_13 : _ = 4 := ml_13
  clear hm_13 mo2_11 mo1_11 mo0_11
  refine al_stm (st_store up_h (u2 rfl up_h) rfl rfl mo3_13 y32_sz46 rfl (by exact Nat.le_of_ble_eq_true rfl)) trivial rfl (fun m_14 hm_14 => ?_)
  have mo3_14 := m_set hm_14 mo3_13
  simp only [packA_t, packA_f, iE, bE, setAt, cellsA, Value.cells, map_vc, map_vn, Nat.reduceAdd, qS] at mo3_14
  have mo2_14 := m_set_o hm_14 mo2_13 (by decide)
  have mo1_14 := m_set_o hm_14 mo1_13 (by decide)
  have mo0_14 := m_set_o hm_14 mo0_13 (by decide)
  have ml_14 := m_set_l hm_14 ml_13
  clear hm_14 mo3_13 mo2_13 mo1_13 mo0_13
  refine al_ro' (ro_assign (up_n (up_m rfl up_h))) trivial rfl ?_
  refine al_end (fun e_15 he_15 => ?_)
  have s1_15 := ef 1 he_15 (up_m rfl (up_n (u8 rfl s1_12)))
  have s2_15 := ef 2 he_15 (up_m rfl (up_n (u8 rfl s2_12)))
  have s5_15 := ef 5 he_15 (up_m rfl (up_n (u8 rfl s5_12)))
  have s6_15 := ef 6 he_15 (up_m rfl (up_n (u8 rfl s6_12)))
  have s7_15 := ef 7 he_15 (up_m rfl (up_n (u8 rfl s7_12)))
  have s8_15 := ef 8 he_15 (up_m rfl (up_n (u8 rfl s8_12)))
  have s9_15 := ef 9 he_15 (up_m rfl (up_n (u8 rfl s9_12)))
  have s10_15 := ef 10 he_15 (up_m rfl (up_n up_h))
  have s11_15 := ef 11 he_15 up_h
  clear he_15 s1_12 s2_12 s5_12 s6_12 s7_12 s8_12 s9_12
  refine then_n ?_
  refine aw_seq ?_
  refine aw_seq ?_
  refine aw_text (by kernel_rfl) ?_
  refine al_ro' (ro_eq (ro_ld_ptr y32_ty26 rfl mo0_14 s2_15 (by exact Nat.le_of_ble_eq_true rfl)) (by simp only [packA_t, packA_f, iE, bE, setAt, cellsA, Value.cells, map_vc, map_vn, Nat.reduceAdd, qS] <;> rfl)) trivial rfl ?_
  refine al_ro' (ro_call (evL_cons up_h evL_nil) rfl (lineErr_ok l hl) y32_hcf19) trivial rfl ?_
  refine al_ro' (ro_assign up_h) trivial rfl ?_
  refine al_end (fun e_16 he_16 => ?_)
  have s1_16 := ef 1 he_16 (up_m rfl (u2 rfl s1_15))
  have s2_16 := ef 2 he_16 (up_m rfl (u2 rfl s2_15))
  have s5_16 := ef 5 he_16 (up_m rfl (u2 rfl s5_15))
  have s6_16 := ef 6 he_16 (up_m rfl (u2 rfl s6_15))
  have s7_16 := ef 7 he_16 (up_m rfl (u2 rfl s7_15))
  have s8_16 := ef 8 he_16 (up_m rfl (u2 rfl s8_15))
  have s9_16 := ef 9 he_16 (up_m rfl (u2 rfl s9_15))
  have s10_16 := ef 10 he_16 (up_m rfl (u2 rfl s10_15))
  have s11_16 := ef 11 he_16 (up_m rfl (u2 rfl s11_15))
  have s12_16 := ef 12 he_16 up_h
  clear he_16 s10_15 s11_15 s1_15 s2_15 s5_15 s6_15 s7_15 s8_15 s9_15
  refine then_n ?_
  refine aw_seq ?_
  refine aw_text (by kernel_rfl) ?_
  refine al_ro' (ro_move s12_16) trivial rfl ?_
  refine al_ro' (ro_neq up_h ev_c) trivial rfl ?_
  refine al_end (fun e_17 he_17 => ?_)
  have s1_17 := ef 1 he_17 (u2 rfl s1_16)
  have s2_17 := ef 2 he_17 (u2 rfl s2_16)
  have s5_17 := ef 5 he_17 (u2 rfl s5_16)
  have s6_17 := ef 6 he_17 (u2 rfl s6_16)
  have s7_17 := ef 7 he_17 (u2 rfl s7_16)
  have s8_17 := ef 8 he_17 (u2 rfl s8_16)
  have s9_17 := ef 9 he_17 (u2 rfl s9_16)
  have s10_17 := ef 10 he_17 (u2 rfl s10_16)
  have s11_17 := ef 11 he_17 (u2 rfl s11_16)
  have s12_17 := ef 12 he_17 (u2 rfl s12_16)
  have s47_17 := ef 47 he_17 up_h
  clear he_17 s10_16 s11_16 s12_16 s1_16 s2_16 s5_16 s6_16 s7_16 s8_16 s9_16
  refine then_n ?_
  refine aw_case s47_17 (fun hq_18 => ?_) (fun hq_18 => ?_)
  · replace hq_18 := bnt hq_18; exfalso; omega
  replace hq_18 := bnf hq_18
  refine aw_skip ?_
  refine then_n ?_
  refine aw_seq ?_
  refine aw_text (by kernel_rfl) ?_
  refine al_ro' (ro_eq (ro_ld_ptr y32_ty26 rfl mo0_14 s2_17 (by exact Nat.le_of_ble_eq_true rfl)) (by simp only [packA_t, packA_f, iE, bE, setAt, cellsA, Value.cells, map_vc, map_vn, Nat.reduceAdd, qS] <;> rfl)) trivial rfl ?_
  refine al_ro' (ro_call (evL_cons up_h evL_nil) rfl (rSteepestOf_ok l hr) y32_hcf27) trivial rfl ?_
  refine al_ro' (ro_move up_h) trivial rfl ?_
  refine al_ro' (ro_extract up_h rfl) trivial rfl ?_
  refine al_ro' (ro_extract (up_m rfl up_h) rfl) trivial rfl ?_
  refine al_stm (st_alloc y32_az46 rfl ml_14) trivial rfl (fun m_19 hm_19 => ?_)
  have mo4_19 := m_push hm_19 ml_14
  simp only [packA_t, packA_f, iE, bE, setAt, cellsA, Value.cells, map_vc, map_vn, Nat.reduceAdd, qS] at mo4_19
  have mo3_19 := m_push_o hm_19 mo3_14
  have mo2_19 := m_push_o hm_19 mo2_14
  have mo1_19 := m_push_o hm_19 mo1_14
  have mo0_19 := m_push_o hm_19 mo0_14
  have ml_19 := m_push_l hm_19 ml_14
  have ml_19 : _ = 5 := ml_19
  clear hm_19 mo3_14 mo2_14 mo1_14 mo0_14
  refine al_ro' (ro_assign (u2 rfl up_h)) trivial rfl ?_
  refine al_stm (st_store (up_m rfl up_h) (u2 rfl up_h) rfl rfl mo4_19 y32_sz46 rfl (by exact Nat.le_of_ble_eq_true rfl)) trivial rfl (fun m_20 hm_20 => ?_)
  have mo4_20 := m_set hm_20 mo4_19
  simp only [packA_t, packA_f, iE, bE, setAt, cellsA, Value.cells, map_vc, map_vn, Nat.reduceAdd, qS] at mo4_20
  have mo3_20 := m_set_o hm_20 mo3_19 (by decide)
  have mo2_20 := m_set_o hm_20 mo2_19 (by decide)
  have mo1_20 := m_set_o hm_20 mo1_19 (by decide)
  have mo0_20 := m_set_o hm_20 mo0_19 (by decide)
  have ml_20 := m_set_l hm_20 ml_19
  clear hm_20 mo4_19 mo3_19 mo2_19 mo1_19 mo0_19
  refine al_end (fun e_21 he_21 => ?_)
  have s1_21 := ef 1 he_21 (up_n (up_m rfl (u2 rfl (u4 rfl s1_17))))
  have s2_21 := ef 2 he_21 (up_n (up_m rfl (u2 rfl (u4 rfl s2_17))))
  have s5_21 := ef 5 he_21 (up_n (up_m rfl (u2 rfl (u4 rfl s5_17))))
  have s6_21 := ef 6 he_21 (up_n (up_m rfl (u2 rfl (u4 rfl s6_17))))
  have s7_21 := ef 7 he_21 (up_n (up_m rfl (u2 rfl (u4 rfl s7_17))))
  have s8_21 := ef 8 he_21 (up_n (up_m rfl (u2 rfl (u4 rfl s8_17))))
  have s9_21 := ef 9 he_21 (up_n (up_m rfl (u2 rfl (u4 rfl s9_17))))
  have s10_21 := ef 10 he_21 (up_n (up_m rfl (u2 rfl (u4 rfl s10_17))))
  have s11_21 := ef 11 he_21 (up_n (up_m rfl (u2 rfl (u4 rfl s11_17))))
  have s13_21 := ef 13 he_21 (up_n up_h)
  have s14_21 := ef 14 he_21 (up_n (up_m rfl up_h))
  clear he_21 s10_17 s11_17 s12_17 s1_17 s2_17 s47_17 s5_17 s6_17 s7_17 s8_17 s9_17
  refine then_n ?_
  refine aw_seq ?_
  refine aw_seq ?_
  refine aw_text (by kernel_rfl) ?_
  refine al_ro' (ro_move s9_21) trivial rfl ?_
  refine al_ro' (ro_neq up_h ev_c) trivial rfl ?_
  refine al_ro' (ro_move up_h) trivial rfl ?_
  refine al_case up_h (fun hb_22 hq_22 => ?_) (fun hb_22 hq_22 => ?_)
  · cases hq_22
  replace hq_22 := bnf hq_22
  refine al_ro' (ro_move (up_m rfl (u2 rfl s7_21))) ⟨_, rfl, hb_22⟩ rfl ?_
  refine al_ro' (ro_move (u4 rfl s13_21)) ⟨_, rfl, (up_m rfl hb_22)⟩ rfl ?_
  refine al_ro' (ro_neq (up_m rfl up_h) up_h) ⟨_, rfl, (u2 rfl hb_22)⟩ rfl ?_
  refine al_ro' (ro_pickF (up_m rfl (u2 rfl hb_22)) up_h) trivial rfl ?_
  refine al_ro' (ro_move up_h) trivial rfl ?_
  refine al_case up_h (fun hb_23 hq_23 => ?_) (fun hb_23 hq_23 => ?_)
  · replace hq_23 := bnt hq_23; exfalso; omega
  replace hq_23 := bnf hq_23
  refine al_ro' (ro_eq (ro_ld_ptr y32_ty46 rfl mo2_20 (u8 rfl s8_21) (by exact Nat.le_of_ble_eq_true rfl)) (by simp only [packA_t, packA_f, iE, bE, setAt, cellsA, Value.cells, map_vc, map_vn, Nat.reduceAdd, qS] <;> rfl)) ⟨_, rfl, hb_23⟩ rfl ?_
  refine al_ro' (ro_eq (ro_ld_ptr y32_ty46 rfl mo4_20 (up_m rfl (u8 rfl s14_21)) (by exact Nat.le_of_ble_eq_true rfl)) (by simp only [packA_t, packA_f, iE, bE, setAt, cellsA, Value.cells, map_vc, map_vn, Nat.reduceAdd, qS] <;> rfl)) ⟨_, rfl, (up_m rfl hb_23)⟩ rfl ?_
  refine al_ro' (ro_sqneq (up_m rfl up_h) up_h rfl rfl y32_gq46 y32_sq46 (by decide)) ⟨_, rfl, (u2 rfl hb_23)⟩ rfl ?_
  refine al_ro' (ro_pickF (up_m rfl (u2 rfl hb_23)) up_h) trivial rfl ?_
  refine al_end (fun e_24 he_24 => ?_)
  have s1_24 := ef 1 he_24 (u4 rfl (u8 rfl s1_21))
  have s2_24 := ef 2 he_24 (u4 rfl (u8 rfl s2_21))
  have s5_24 := ef 5 he_24 (u4 rfl (u8 rfl s5_21))
  have s6_24 := ef 6 he_24 (u4 rfl (u8 rfl s6_21))
  have s10_24 := ef 10 he_24 (u4 rfl (u8 rfl s10_21))
  have s11_24 := ef 11 he_24 (u4 rfl (u8 rfl s11_21))
  have s96_24 := ef 96 he_24 up_h
  clear he_24 hb_22 hb_23 s10_21 s11_21 s13_21 s14_21 s1_21 s2_21 s5_21 s6_21 s7_21 s8_21 s9_21
  refine then_n ?_
  refine aw_case s96_24 (fun hq_25 => ?_) (fun hq_25 => ?_)
  · first | (simp at hq_25; done) | (exact absurd hg (by simpa using hq_25)) | (exact absurd hq_25 hm) | (exact absurd hm hq_25) | (exact absurd hq_25 hi) | (exact absurd hi hq_25) | (rw [hsm] at hq_25; simp at hq_25; done)
  replace hq_25 := bf' hq_25
  refine aw_skip ?_
  refine then_n ?_
  refine aw_seq ?_
  refine aw_seq ?_
  refine aw_text (by kernel_rfl) ?_
  refine al_ro' (ro_eq (ro_ld_ptr y32_ty26 rfl mo0_20 s2_24 (by exact Nat.le_of_ble_eq_true rfl)) (by simp only [packA_t, packA_f, iE, bE, setAt, cellsA, Value.cells, map_vc, map_vn, Nat.reduceAdd, qS] <;> rfl)) trivial rfl ?_
  refine al_ro' (ro_move (up_m rfl s1_24)) trivial rfl ?_
  refine al_ro' (ro_call (evL_cons (up_m rfl up_h) (evL_cons up_h evL_nil)) rfl (beamErr_ok l hr i) y32_hcf28) trivial rfl ?_
  refine al_ro' (ro_assign up_h) trivial rfl ?_
  refine al_end (fun e_26 he_26 => ?_)
  have s1_26 := ef 1 he_26 (u4 rfl s1_24)
  have s2_26 := ef 2 he_26 (u4 rfl s2_24)
  have s5_26 := ef 5 he_26 (u4 rfl s5_24)
  have s6_26 := ef 6 he_26 (u4 rfl s6_24)
  have s10_26 := ef 10 he_26 (u4 rfl s10_24)
  have s11_26 := ef 11 he_26 (u4 rfl s11_24)
  have s15_26 := ef 15 he_26 up_h
  clear he_26 s10_24 s11_24 s1_24 s2_24 s5_24 s6_24 s96_24
  refine then_n ?_
  refine aw_seq ?_
  refine aw_text (by kernel_rfl) ?_
  refine al_ro' (ro_move s15_26) trivial rfl ?_
  refine al_ro' (ro_neq up_h ev_c) trivial rfl ?_
  refine al_end (fun e_27 he_27 => ?_)
  have s1_27 := ef 1 he_27 (u2 rfl s1_26)
  have s2_27 := ef 2 he_27 (u2 rfl s2_26)
  have s5_27 := ef 5 he_27 (u2 rfl s5_26)
  have s6_27 := ef 6 he_27 (u2 rfl s6_26)
  have s10_27 := ef 10 he_27 (u2 rfl s10_26)
  have s11_27 := ef 11 he_27 (u2 rfl s11_26)
  have s15_27 := ef 15 he_27 (u2 rfl s15_26)
  have s101_27 := ef 101 he_27 up_h
  clear he_27 s10_26 s11_26 s15_26 s1_26 s2_26 s5_26 s6_26
  refine then_n ?_
  refine aw_case s101_27 (fun hq_28 => ?_) (fun hq_28 => ?_)
  · replace hq_28 := bnt hq_28; exfalso; omega
  replace hq_28 := bnf hq_28
  refine aw_seq ?_
  refine aw_draw 9 (by kernel_rfl) (by kernel_rfl) (by kernel_rfl) (by kernel_rfl) ?_
  refine ds_ro' (ro_move s6_27) trivial rfl ?_
  refine ds_ro' (ro_neq up_h ev_c) trivial rfl ?_
  refine ds_ro' (ro_move up_h) trivial rfl ?_
  refine ds_case up_h (fun hb_29 hq_29 => ?_) (fun hb_29 hq_29 => ?_)
  · cases hq_29
  replace hq_29 := bnf hq_29
  refine ds_ro' (ro_eq (ro_ld_ptr y32_ty46 rfl mo1_20 (up_m rfl (u2 rfl s5_27)) (by exact Nat.le_of_ble_eq_true rfl)) (by simp only [packA_t, packA_f, iE, bE, setAt, cellsA, Value.cells, map_vc, map_vn, Nat.reduceAdd, qS] <;> rfl)) ⟨_, rfl, hb_29⟩ rfl ?_
  refine ds_ro' (ro_eq (ro_ld_ptr y32_ty26 rfl mo0_20 (u4 rfl s2_27) (by exact Nat.le_of_ble_eq_true rfl)) (by simp only [packA_t, packA_f, iE, bE, setAt, cellsA, Value.cells, map_vc, map_vn, Nat.reduceAdd, qS] <;> rfl)) ⟨_, rfl, (up_m rfl hb_29)⟩ rfl ?_
  refine ds_ro' (ro_move (up_m rfl (u4 rfl s1_27))) ⟨_, rfl, (u2 rfl hb_29)⟩ rfl ?_
  refine ds_ro' (ro_call (evL_cons (up_m rfl up_h) (evL_cons up_h evL_nil)) rfl (gr) y32_hcf29) ⟨_, rfl, (up_m rfl (u2 rfl hb_29))⟩ rfl ?_
  refine ds_ro' (ro_sqneq (up_m rfl (u2 rfl up_h)) up_h rfl rfl y32_gq46 y32_sq46 (by decide)) ⟨_, rfl, (u4 rfl hb_29)⟩ rfl ?_
  refine ds_ro' (ro_pickF (up_m rfl (u4 rfl hb_29)) up_h) trivial rfl ?_
  refine ds_nil ?_
  refine al_end (fun e_30 he_30 => ?_)
  have s1_30 := ef 1 he_30 (up_m rfl (u8 rfl s1_27))
  have s2_30 := ef 2 he_30 (up_m rfl (u8 rfl s2_27))
  have s10_30 := ef 10 he_30 (up_m rfl (u8 rfl s10_27))
  have s11_30 := ef 11 he_30 (up_m rfl (u8 rfl s11_27))
  have s118_30 := ef 118 he_30 up_h
  clear he_30 hb_29 s101_27 s10_27 s11_27 s15_27 s1_27 s2_27 s5_27 s6_27
  refine then_n ?_
  refine aw_case s118_30 (fun hq_31 => ?_) (fun hq_31 => ?_)
  · first | (simp at hq_31; done) | (exact absurd hg (by simpa using hq_31)) | (exact absurd hq_31 hm) | (exact absurd hm hq_31) | (exact absurd hq_31 hi) | (exact absurd hi hq_31) | (rw [hsm] at hq_31; simp at hq_31; done)
  replace hq_31 := bf' hq_31
  refine aw_skip ?_
  refine then_n ?_
  refine aw_seq ?_
  refine aw_seq ?_
  refine aw_text (by kernel_rfl) ?_
  refine al_ro' (ro_eq (ro_ld_ptr y32_ty26 rfl mo0_20 s2_30 (by exact Nat.le_of_ble_eq_true rfl)) (by simp only [packA_t, packA_f, iE, bE, setAt, cellsA, Value.cells, map_vc, map_vn, Nat.reduceAdd, qS] <;> rfl)) trivial rfl ?_
  refine al_ro' (ro_move (up_m rfl s1_30)) trivial rfl ?_
  refine al_ro' (ro_call (evL_cons (up_m rfl up_h) (evL_cons up_h evL_nil)) rfl (innerErr_ok l hr i) y32_hcf30) trivial rfl ?_
  refine al_ro' (ro_assign up_h) trivial rfl ?_
  refine al_end (fun e_32 he_32 => ?_)
  have s1_32 := ef 1 he_32 (u4 rfl s1_30)
  have s2_32 := ef 2 he_32 (u4 rfl s2_30)
  have s10_32 := ef 10 he_32 (u4 rfl s10_30)
  have s11_32 := ef 11 he_32 (u4 rfl s11_30)
  have s16_32 := ef 16 he_32 up_h
  clear he_32 s10_30 s118_30 s11_30 s1_30 s2_30
  refine then_n ?_
  refine aw_seq ?_
  refine aw_text (by kernel_rfl) ?_
  refine al_ro' (ro_move s16_32) trivial rfl ?_
  refine al_ro' (ro_neq up_h ev_c) trivial rfl ?_
  refine al_end (fun e_33 he_33 => ?_)
  have s1_33 := ef 1 he_33 (u2 rfl s1_32)
  have s2_33 := ef 2 he_33 (u2 rfl s2_32)
  have s10_33 := ef 10 he_33 (u2 rfl s10_32)
  have s11_33 := ef 11 he_33 (u2 rfl s11_32)
  have s16_33 := ef 16 he_33 (u2 rfl s16_32)
  have s123_33 := ef 123 he_33 up_h
  clear he_33 s10_32 s11_32 s16_32 s1_32 s2_32
  refine then_n ?_
  refine aw_case s123_33 (fun hq_34 => ?_) (fun hq_34 => ?_)
  · replace hq_34 := bnt hq_34; exfalso; omega
  replace hq_34 := bnf hq_34
  refine aw_skip ?_
  refine then_n ?_
  refine aw_seq ?_
  refine aw_text (by kernel_rfl) ?_
  refine al_ro' (ro_eq (ro_ld_ptr y32_ty26 rfl mo0_20 s2_33 (by exact Nat.le_of_ble_eq_true rfl)) (by simp only [packA_t, packA_f, iE, bE, setAt, cellsA, Value.cells, map_vc, map_vn, Nat.reduceAdd, qS] <;> rfl)) trivial rfl ?_
  refine al_ro' (ro_move (up_m rfl s1_33)) trivial rfl ?_
  refine al_ro' (ro_call (evL_cons (up_m rfl up_h) (evL_cons up_h evL_nil)) rfl (br_) y32_hcf31) trivial rfl ?_
  refine al_stm (st_alloc y32_az46 rfl ml_20) trivial rfl (fun m_35 hm_35 => ?_)
  have mo5_35 := m_push hm_35 ml_20
  simp only [packA_t, packA_f, iE, bE, setAt, cellsA, Value.cells, map_vc, map_vn, Nat.reduceAdd, qS] at mo5_35
  have mo4_35 := m_push_o hm_35 mo4_20
  have mo3_35 := m_push_o hm_35 mo3_20
  have mo2_35 := m_push_o hm_35 mo2_20
  have mo1_35 := m_push_o hm_35 mo1_20
  have mo0_35 := m_push_o hm_35 mo0_20
  have ml_35 := m_push_l hm_35 ml_20
  have ml_35 : _ = 6 := ml_35
  clear hm_35 mo4_20 mo3_20 mo2_20 mo1_20 mo0_20
  refine al_stm (st_store up_h (up_m rfl up_h) rfl rfl mo5_35 y32_sz46 rfl (by exact Nat.le_of_ble_eq_true rfl)) trivial rfl (fun m_36 hm_36 => ?_)
  have mo5_36 := m_set hm_36 mo5_35
  simp only [packA_t, packA_f, iE, bE, setAt, cellsA, Value.cells, map_vc, map_vn, Nat.reduceAdd, qS] at mo5_36
  have mo4_36 := m_set_o hm_36 mo4_35 (by decide)
  have mo3_36 := m_set_o hm_36 mo3_35 (by decide)
  have mo2_36 := m_set_o hm_36 mo2_35 (by decide)
  have mo1_36 := m_set_o hm_36 mo1_35 (by decide)
  have mo0_36 := m_set_o hm_36 mo0_35 (by decide)
  have ml_36 := m_set_l hm_36 ml_35
  clear hm_36 mo5_35 mo4_35 mo3_35 mo2_35 mo1_35 mo0_35
  refine al_end (fun e_37 he_37 => ?_)
  have s10_37 := ef 10 he_37 (up_n (u4 rfl s10_33))
  have s11_37 := ef 11 he_37 (up_n (u4 rfl s11_33))
  have s17_37 := ef 17 he_37 (up_n up_h)
  clear he_37 s10_33 s11_33 s123_33 s16_33 s1_33 s2_33
  refine then_n ?_
  refine aw_seq ?_
  refine aw_seq ?_
  refine aw_text (by kernel_rfl) ?_
  refine al_ro' (ro_eq (ro_ld_ptr y32_ty46 rfl mo5_36 s17_37 (by exact Nat.le_of_ble_eq_true rfl)) (by simp only [packA_t, packA_f, iE, bE, setAt, cellsA, Value.cells, map_vc, map_vn, Nat.reduceAdd, qS] <;> rfl)) trivial rfl ?_
  refine al_ro' (ro_call (evL_cons up_h evL_nil) rfl (isSmall_ok _ _) y32_hcf32) trivial rfl ?_
  refine al_ro' (ro_not up_h) trivial rfl ?_
  refine al_end (fun e_38 he_38 => ?_)
  have s10_38 := ef 10 he_38 (up_m rfl (u2 rfl s10_37))
  have s11_38 := ef 11 he_38 (up_m rfl (u2 rfl s11_37))
  have s17_38 := ef 17 he_38 (up_m rfl (u2 rfl s17_37))
  have s137_38 := ef 137 he_38 up_h
  clear he_38 s10_37 s11_37 s17_37
  refine then_n ?_
  refine aw_case s137_38 (fun hq_39 => ?_) (fun hq_39 => ?_)
  ·replace hq_39 := bt' hq_39
   refine aw_seq ?_
   refine aw_text (by kernel_rfl) ?_
   refine al_ro' (ro_move s11_38) trivial rfl ?_
   refine al_ro' (ro_eql up_h ev_c) trivial rfl ?_
   refine al_ro' (ro_move up_h) trivial rfl ?_
   refine al_case up_h (fun hb_40 hq_40 => ?_) (fun hb_40 hq_40 => ?_)
   ·replace hq_40 := bt hq_40
    refine al_ro' (ro_eq (ro_ld_ptr y32_ty46 rfl mo3_36 (up_m rfl (u2 rfl s10_38)) (by exact Nat.le_of_ble_eq_true rfl)) (by simp only [packA_t, packA_f, iE, bE, setAt, cellsA, Value.cells, map_vc, map_vn, Nat.reduceAdd, qS] <;> rfl)) ⟨_, rfl, hb_40⟩ rfl ?_
    refine al_ro' (ro_build evP_nil y32_bz46 y32_bu46 y32_bp46 rfl) ⟨_, rfl, (up_m rfl hb_40)⟩ rfl ?_
    refine al_ro' (ro_sqeql (up_m rfl up_h) up_h rfl rfl y32_gq46 y32_sq46 (by decide)) ⟨_, rfl, (u2 rfl hb_40)⟩ rfl ?_
    refine al_ro' (ro_pickT (up_m rfl (u2 rfl hb_40)) up_h) trivial rfl ?_
    refine al_ro' (ro_assign up_h) trivial rfl ?_
    refine al_end (fun e_41 he_41 => ?_)
    have s4_41 := ef 4 he_41 up_h
    clear he_41 hb_40 s10_38 s11_38 s137_38 s17_38
    refine then_n ?_
    refine aw_ret ?_
    refine then_r ?_
    refine ret1 (.inr rfl) (by kernel_rfl) (resV_tmp s4_41) (.ro _ rfl) ?_
    clear s4_41 mo5_36 mo4_36 mo3_36 mo2_36 mo1_36 mo0_36 ml_36
    first | rfl | simp_all
   · cases hq_40
  · first | (simp at hq_39; done) | (exact absurd hg (by simpa using hq_39)) | (exact absurd hq_39 hm) | (exact absurd hm hq_39) | (exact absurd hq_39 hi) | (exact absurd hi hq_39) | (rw [hsm] at hq_39; simp at hq_39; done)
theorem lineGradients_ok (l : Lin) (i : Int) : FnOk Try.prog 5 [lnA l, mA i] (fun q => q = tbA true) := by
  cases hf : fewL l with
  | false => exact lineGradients_many l hf i
  | true =>
    by_cases hg : (linM l).2 = 0
    · have hr := rgt_of hg
      have hjs := hr.js
      by_cases hi : misE i 1 (l.js.length - 2) = 0
      · have hm : misE i 0 (l.bs.length - 1) = 0 := misE_z.2 (by have := misE_z.1 hi; omega)
        cases hs : benS l i.toNat with
        | true => exact lineGradients_C l hf hg i hm hi hs
        | false => exact lineGradients_D l hf hg i hm hi hs
      · by_cases hm : misE i 0 (l.bs.length - 1) = 0
        · exact lineGradients_B l hf hg i hm hi
        · exact lineGradients_A l hf hg i hm hi
    · exact lineGradients_bad l hf hg i
end Go.Proofs.Ytlebjleebclmgaa

