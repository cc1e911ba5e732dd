/- Texts of this claim, one behind the other: lemmas for the statement. -/
import Derived.Test.YtonjcljnpcmenaaM8
import Derived.Test.YtonjcljnpcmenaaM9
/- Contracts of chapter 1: a line held against itself; how far surveys and warmth move ranges. No conditions on a program. -/
namespace Go.Proofs.Ytonjcljnpcmenaa
open Go Go.RowKit Go.Proofs
set_option linter.unusedSimpArgs false
set_option linter.unusedVariables false
theorem y62_az91 : (Try.prog.info? 91).bind (·.zero) = some (.agg #[.string ByteArray.empty, .int .i64 0, .slice none 0 0]) := by kernel_rfl
theorem y62_fl26_0 : FldIs Try.prog 26 0 0 false 1 := by unfold FldIs; kernel_rfl
theorem y62_fl26_1 : FldIs Try.prog 26 1 1 false 1 := by unfold FldIs; kernel_rfl
theorem y62_fl26_2 : FldIs Try.prog 26 2 2 false 1 := by unfold FldIs; kernel_rfl
theorem y62_fl26_3 : FldIs Try.prog 26 3 3 false 1 := by unfold FldIs; kernel_rfl
theorem y62_fl91_0 : FldIs Try.prog 91 0 0 false 1 := by unfold FldIs; kernel_rfl
theorem y62_fl91_1 : FldIs Try.prog 91 1 1 false 1 := by unfold FldIs; kernel_rfl
theorem y62_fl91_2 : FldIs Try.prog 91 2 2 false 1 := by unfold FldIs; kernel_rfl
theorem y62_hcf26 : ∀ args w, (callFunc 26 args).run Try.prog w = .ok (.enter 26 args) w := fun _ _ => by kernel_rfl
theorem y62_sl22 : SlIs Try.prog 22 70 4 32 (.agg #[.int .i64 0, .int .i64 0, .int .i64 0, .int .i64 0]) := ⟨by kernel_rfl, by kernel_rfl, by kernel_rfl⟩
theorem y62_sl23 : SlIs Try.prog 23 87 2 16 (.agg #[.int .i64 0, .int .i64 0]) := ⟨by kernel_rfl, by kernel_rfl, by kernel_rfl⟩
theorem y62_sl24 : SlIs Try.prog 24 91 3 48 (.agg #[.string ByteArray.empty, .int .i64 0, .slice none 0 0]) := ⟨by kernel_rfl, by kernel_rfl, by kernel_rfl⟩
theorem y62_gq70 : Try.prog.eqGuardType Try.prog.depth 70 = false := by kernel_rfl
theorem y62_sq70 {a0 b0 : Int} {a1 b1 : Int} {a2 b2 : Int} {a3 b3 : Int} : EqV Try.prog 3 70 (.agg #[.int .i64 a0, .int .i64 a1, .int .i64 a2, .int .i64 a3]) (.agg #[.int .i64 b0, .int .i64 b1, .int .i64 b2, .int .i64 b3]) (decide (a0 = b0) && (decide (a1 = b1) && ((decide (a2 = b2) && (decide (a3 = b3) && true)) && true))) := (eqs_struct [(3, 0), (3, 1), (39, 2)] (by kernel_rfl) (by kernel_rfl) (by kernel_rfl) (by kernel_rfl) (.cons (fun _ => by kernel_rfl) (fun _ => by kernel_rfl) (EqV.up (eqv_int (k := .i64) (k' := .i64) (by kernel_rfl) a0 b0) 1) (.cons (fun _ => by kernel_rfl) (fun _ => by kernel_rfl) (EqV.up (eqv_int (k := .i64) (k' := .i64) (by kernel_rfl) a1 b1) 1) (.cons (x := .agg #[.int .i64 a2, .int .i64 a3]) (y := .agg #[.int .i64 b2, .int .i64 b3]) (fun _ => by kernel_rfl) (fun _ => by kernel_rfl) (eqs_struct [(3, 0), (3, 1)] (by kernel_rfl) (by kernel_rfl) (by kernel_rfl) (by kernel_rfl) (.cons (fun _ => by kernel_rfl) (fun _ => by kernel_rfl) (eqv_int (k := .i64) (k' := .i64) (by kernel_rfl) a2 b2) (.cons (fun _ => by kernel_rfl) (fun _ => by kernel_rfl) (eqv_int (k := .i64) (k' := .i64) (by kernel_rfl) a3 b3) .nil))) .nil))))
theorem y62_gq87 : Try.prog.eqGuardType Try.prog.depth 87 = false := by kernel_rfl
theorem y62_sq87 {a0 b0 : Int} {a1 b1 : Int} : EqV Try.prog 2 87 (.agg #[.int .i64 a0, .int .i64 a1]) (.agg #[.int .i64 b0, .int .i64 b1]) (decide (a0 = b0) && (decide (a1 = b1) && true)) := (eqs_struct [(3, 0), (3, 1)] (by kernel_rfl) (by kernel_rfl) (by kernel_rfl) (by kernel_rfl) (.cons (fun _ => by kernel_rfl) (fun _ => by kernel_rfl) (eqv_int (k := .i64) (k' := .i64) (by kernel_rfl) a0 b0) (.cons (fun _ => by kernel_rfl) (fun _ => by kernel_rfl) (eqv_int (k := .i64) (k' := .i64) (by kernel_rfl) a1 b1) .nil)))
theorem y62_sz91 : (Try.prog.info? 91).map (·.size) = some 3 := by kernel_rfl
theorem y62_ty22 : TyIs Try.prog 22 false 1 := ⟨by kernel_rfl, by kernel_rfl⟩
theorem y62_ty23 : TyIs Try.prog 23 false 1 := ⟨by kernel_rfl, by kernel_rfl⟩
theorem y62_ty24 : TyIs Try.prog 24 false 1 := ⟨by kernel_rfl, by kernel_rfl⟩
theorem y62_ty3 : TyIs Try.prog 3 false 1 := ⟨by kernel_rfl, by kernel_rfl⟩
theorem y62_ty49 : TyIs Try.prog 49 false 1 := ⟨by kernel_rfl, by kernel_rfl⟩
theorem y62_ty70 : TyIs Try.prog 70 true 4 := ⟨by kernel_rfl, by kernel_rfl⟩
theorem y62_ty87 : TyIs Try.prog 87 true 2 := ⟨by kernel_rfl, by kernel_rfl⟩
theorem y62_ty9 : TyIs Try.prog 9 false 1 := ⟨by kernel_rfl, by kernel_rfl⟩
theorem y62_ty91 : TyIs Try.prog 91 true 3 := ⟨by kernel_rfl, by kernel_rfl⟩

set_option maxRecDepth 100000 in
set_option maxHeartbeats 4000000 in
theorem same_refl (l : Lin) (hl : Sho l) : FnOk Try.prog 34 [lnA l, lnA l] (fun q => q = tbA true) := by
  obtain ⟨h1, h2, h3, h4, h5⟩ := id hl
  refine fnOk_of (fn := Try.f34) 115 (by kernel_rfl) rfl (by kernel_rfl) (Nat.le_of_ble_eq_true rfl) ?_
  intro e_0 m_0 hA hm_0
  have s0_0 : evA e_0 (.tmp 0) = _ := hA 0 _ rfl
  have s1_0 : evA e_0 (.tmp 1) = _ := hA 1 _ rfl
  have ml_0 : m_0.length = 0 := by rw [hm_0]; rfl
  clear hA hm_0
  refine aw_seq <| at_ <| al_stm (st_box s0_0 rfl ml_0) trivial rfl (fun m_1 hm_1 => ?_)
  have mo0_1 := m_push hm_1 ml_0
  have ml_1 := m_push_l hm_1 ml_0
  have ml_1 : _ = 1 := ml_1
  clear hm_1
  refine al_stm (st_box (up_m rfl s1_0) rfl ml_1) trivial rfl (fun m_2 hm_2 => ?_)
  have mo1_2 := m_push hm_2 ml_1
  have mo0_2 := m_push_o hm_2 mo0_1
  have ml_2 := m_push_l hm_2 ml_1
  have ml_2 : _ = 2 := ml_2
  clear hm_2 mo0_1
  refine ar (ro_assign ev_c) rfl <| ae2 (u2 rfl up_h) (up_m rfl up_h) ?_; clear s0_0 s1_0; intro e_3 s2_3 s3_3
  refine then_n <| aw_seq <| aw_seq <| at_ <| ar (ro_fld_ptr y62_fl26_0 rfl s2_3) rfl <| ar (ro_eq (ro_ld_ptr y62_ty9 rfl mo0_2 up_h (nle rfl)) (by simp only [pS, Value.cells, Nat.reduceAdd, jnE, beE, swE] <;> rfl)) rfl ?_
  refine ar (ro_fld_ptr y62_fl26_0 rfl (u2 rfl s3_3)) rfl <| ar (ro_eq (ro_ld_ptr y62_ty9 rfl mo1_2 up_h (nle rfl)) (by simp only [pS, Value.cells, Nat.reduceAdd, jnE, beE, swE] <;> rfl)) rfl ?_
  refine ar (ro_sneq (u2 rfl up_h) up_h) rfl <| ar (ro_move up_h) rfl <| al_case up_h (fun hb_4 hq_4 => ?_) (fun hb_4 hq_4 => ?_)
  ·replace hq_4 := bt' hq_4
   refine al_skip' ⟨_, rfl, .inl hb_4⟩ rfl ?_
   refine al_skip' ⟨_, rfl, .inl (up_m rfl hb_4)⟩ rfl ?_
   refine al_skip' ⟨_, rfl, .inl (u2 rfl hb_4)⟩ rfl ?_
   refine al_skip' ⟨_, rfl, .inl (up_m rfl (u2 rfl hb_4))⟩ rfl ?_
   refine al_skip' ⟨_, rfl, .inl (u4 rfl hb_4)⟩ rfl ?_
   refine al_skip' ⟨_, rfl, .inl (up_m rfl (u4 rfl hb_4))⟩ rfl ?_
   refine al_skip' ⟨_, rfl, .inl (u2 rfl (u4 rfl hb_4))⟩ rfl ?_
   refine ar (ro_pickT (up_m rfl (u2 rfl (u4 rfl hb_4))) ev_c) rfl <| ar (ro_move up_h) rfl <| al_skip' ⟨_, rfl, .inl up_h⟩ rfl ?_
   refine al_skip' ⟨_, rfl, .inl (up_m rfl up_h)⟩ rfl ?_
   refine al_skip' ⟨_, rfl, .inl (u2 rfl up_h)⟩ rfl ?_
   refine al_skip' ⟨_, rfl, .inl (up_m rfl (u2 rfl up_h))⟩ rfl ?_
   refine al_skip' ⟨_, rfl, .inl (u4 rfl up_h)⟩ rfl ?_
   refine al_skip' ⟨_, rfl, .inl (up_m rfl (u4 rfl up_h))⟩ rfl ?_
   refine al_skip' ⟨_, rfl, .inl (u2 rfl (u4 rfl up_h))⟩ rfl ?_
   refine ar (ro_pickT (up_m rfl (u2 rfl (u4 rfl up_h))) ev_c) rfl <| ar (ro_move up_h) rfl <| al_skip' ⟨_, rfl, .inl up_h⟩ rfl ?_
   refine al_skip' ⟨_, rfl, .inl (up_m rfl up_h)⟩ rfl ?_
   refine al_skip' ⟨_, rfl, .inl (u2 rfl up_h)⟩ rfl ?_
   refine al_skip' ⟨_, rfl, .inl (up_m rfl (u2 rfl up_h))⟩ rfl ?_
   refine al_skip' ⟨_, rfl, .inl (u4 rfl up_h)⟩ rfl ?_
   refine al_skip' ⟨_, rfl, .inl (up_m rfl (u4 rfl up_h))⟩ rfl ?_
   refine al_skip' ⟨_, rfl, .inl (u2 rfl (u4 rfl up_h))⟩ rfl ?_
   refine ar (ro_pickT (up_m rfl (u2 rfl (u4 rfl up_h))) ev_c) rfl <| ae3 (u16 rfl (u16 rfl s2_3)) (u16 rfl (u16 rfl s3_3)) up_h ?_; clear hb_4 s2_3 s3_3; intro e_5 s2_5 s3_5 s41_5
   refine then_n <| aw_true s41_5 <| aw_seq <| at_ <| ar (ro_assign ev_c) rfl <| ae1 up_h ?_; clear s2_5 s3_5 s41_5; intro e_7 s4_7
   refine then_n <| aw_ret <| then_r <| ret1 (.inr rfl) (by kernel_rfl) (resV_tmp s4_7) (.ro _ rfl) ?_
   clear s4_7 mo1_2 mo0_2 ml_2
   first | rfl | (simp at *; done)
  replace hq_4 := bf' hq_4
  refine al_ro' (ro_fld_ptr y62_fl26_1 rfl (u2 rfl (u4 rfl s2_3))) ⟨_, rfl, hb_4⟩ rfl ?_
  refine al_ro' (ro_eq (ro_ld_ptr y62_ty22 rfl mo0_2 up_h (nle rfl)) (by simp only [pS, Value.cells, Nat.reduceAdd, jnE, beE, swE] <;> rfl)) ⟨_, rfl, (up_m rfl hb_4)⟩ rfl ?_
  refine al_ro' (ro_eq (ro_len_row up_h rfl y62_sl22.1) (by simp only [lnS] <;> rfl)) ⟨_, rfl, (u2 rfl hb_4)⟩ rfl ?_
  refine al_ro' (ro_fld_ptr y62_fl26_1 rfl (up_m rfl (u8 rfl s3_3))) ⟨_, rfl, (up_m rfl (u2 rfl hb_4))⟩ rfl ?_
  refine al_ro' (ro_eq (ro_ld_ptr y62_ty22 rfl mo1_2 up_h (nle rfl)) (by simp only [pS, Value.cells, Nat.reduceAdd, jnE, beE, swE] <;> rfl)) ⟨_, rfl, (u4 rfl hb_4)⟩ rfl ?_
  refine al_ro' (ro_eq (ro_len_row up_h rfl y62_sl22.1) (by simp only [lnS] <;> rfl)) ⟨_, rfl, (up_m rfl (u4 rfl hb_4))⟩ rfl ?_
  refine al_ro' (ro_neq (up_m rfl (u2 rfl up_h)) up_h) ⟨_, rfl, (u2 rfl (u4 rfl hb_4))⟩ rfl ?_
  refine ar (ro_pickF (up_m rfl (u2 rfl (u4 rfl hb_4))) up_h) rfl <| ar (ro_move up_h) rfl <| al_case up_h (fun hb_8 hq_8 => ?_) (fun hb_8 hq_8 => ?_)
  · replace hq_8 := bnt hq_8; exfalso; omega
  replace hq_8 := bnf hq_8
  refine al_ro' (ro_fld_ptr y62_fl26_2 rfl (up_m rfl (u2 rfl (u4 rfl (u8 rfl s2_3))))) ⟨_, rfl, hb_8⟩ rfl ?_
  refine al_ro' (ro_eq (ro_ld_ptr y62_ty23 rfl mo0_2 up_h (nle rfl)) (by simp only [pS, Value.cells, Nat.reduceAdd, jnE, beE, swE] <;> rfl)) ⟨_, rfl, (up_m rfl hb_8)⟩ rfl ?_
  refine al_ro' (ro_eq (ro_len_row up_h rfl y62_sl23.1) (by simp only [lnS] <;> rfl)) ⟨_, rfl, (u2 rfl hb_8)⟩ rfl ?_
  refine al_ro' (ro_fld_ptr y62_fl26_2 rfl (u2 rfl (u16 rfl s3_3))) ⟨_, rfl, (up_m rfl (u2 rfl hb_8))⟩ rfl ?_
  refine al_ro' (ro_eq (ro_ld_ptr y62_ty23 rfl mo1_2 up_h (nle rfl)) (by simp only [pS, Value.cells, Nat.reduceAdd, jnE, beE, swE] <;> rfl)) ⟨_, rfl, (u4 rfl hb_8)⟩ rfl ?_
  refine al_ro' (ro_eq (ro_len_row up_h rfl y62_sl23.1) (by simp only [lnS] <;> rfl)) ⟨_, rfl, (up_m rfl (u4 rfl hb_8))⟩ rfl ?_
  refine al_ro' (ro_neq (up_m rfl (u2 rfl up_h)) up_h) ⟨_, rfl, (u2 rfl (u4 rfl hb_8))⟩ rfl ?_
  refine ar (ro_pickF (up_m rfl (u2 rfl (u4 rfl hb_8))) up_h) rfl <| ar (ro_move up_h) rfl <| al_case up_h (fun hb_12 hq_12 => ?_) (fun hb_12 hq_12 => ?_)
  · replace hq_12 := bnt hq_12; exfalso; omega
  replace hq_12 := bnf hq_12
  refine al_ro' (ro_fld_ptr y62_fl26_3 rfl (u8 rfl (u16 rfl s2_3))) ⟨_, rfl, hb_12⟩ rfl ?_
  refine al_ro' (ro_eq (ro_ld_ptr y62_ty24 rfl mo0_2 up_h (nle rfl)) (by simp only [pS, Value.cells, Nat.reduceAdd, jnE, beE, swE] <;> rfl)) ⟨_, rfl, (up_m rfl hb_12)⟩ rfl ?_
  refine al_ro' (ro_eq (ro_len_row up_h rfl y62_sl24.1) (by simp only [lnS] <;> rfl)) ⟨_, rfl, (u2 rfl hb_12)⟩ rfl ?_
  refine al_ro' (ro_fld_ptr y62_fl26_3 rfl (up_m rfl (u2 rfl (u8 rfl (u16 rfl s3_3))))) ⟨_, rfl, (up_m rfl (u2 rfl hb_12))⟩ rfl ?_
  refine al_ro' (ro_eq (ro_ld_ptr y62_ty24 rfl mo1_2 up_h (nle rfl)) (by simp only [pS, Value.cells, Nat.reduceAdd, jnE, beE, swE] <;> rfl)) ⟨_, rfl, (u4 rfl hb_12)⟩ rfl ?_
  refine al_ro' (ro_eq (ro_len_row up_h rfl y62_sl24.1) (by simp only [lnS] <;> rfl)) ⟨_, rfl, (up_m rfl (u4 rfl hb_12))⟩ rfl ?_
  refine al_ro' (ro_neq (up_m rfl (u2 rfl up_h)) up_h) ⟨_, rfl, (u2 rfl (u4 rfl hb_12))⟩ rfl ?_
  refine ar (ro_pickF (up_m rfl (u2 rfl (u4 rfl hb_12))) up_h) rfl <| ae3 (u16 rfl (u16 rfl s2_3)) (u16 rfl (u16 rfl s3_3)) up_h ?_; clear hb_12 hb_4 hb_8 s2_3 s3_3; intro e_16 s2_16 s3_16 s41_16
  refine then_n <| aw_case s41_16 (fun hq_17 => ?_) (fun hq_17 => ?_)
  · replace hq_17 := bnt hq_17; exfalso; omega
  replace hq_17 := bnf hq_17
  refine aw_skip <| then_n <| aw_seq <| aw_seq <| at_ <| ar (ro_assign ev_c) rfl <| ae3 (up_m rfl s2_16) (up_m rfl s3_16) up_h ?_; clear s2_16 s3_16 s41_16; intro e_19 s2_19 s3_19 s5_19
  refine then_n <| aw_block <| aw_loop (S := Int) (fun i e mem => (evA e (.tmp 5) = .v (.int .i64 i)) ∧ (evA e (.tmp 2) = evA e_19 (.tmp 2)) ∧ (evA e (.tmp 3) = evA e_19 (.tmp 3)) ∧ (mem[1]? = m_2[1]?) ∧ (mem[0]? = m_2[0]?) ∧ (mem.length = 2) ∧ ((0 ≤ i ∧ i ≤ l.js.length))) (fun i => (l.js.length - i).toNat) _ ⟨s5_19, rfl, rfl, rfl, rfl, ml_2, ?_⟩ ?_
  · (exact ⟨by omega, by omega⟩)
  · rintro i e_20 m_20 ⟨s5_20, k2_20, k3_20, mk1_20, mk0_20, ml_20, hinv⟩
    have s2_20 := k2_20.trans s2_19
    have s3_20 := k3_20.trans s3_19
    have mo1_20 := mk1_20.trans mo1_2
    have mo0_20 := mk0_20.trans mo0_2
    (obtain ⟨p1, p2⟩ := hinv)
    refine aw_seq <| aw_seq <| at_ <| ar (ro_move s5_20) rfl <| ar (ro_fld_ptr y62_fl26_1 rfl (up_m rfl s2_20)) rfl <| ar (ro_eq (ro_ld_ptr y62_ty22 rfl mo0_20 up_h (nle rfl)) (by simp only [pS, Value.cells, Nat.reduceAdd, jnE, beE, swE] <;> rfl)) rfl ?_
    refine ar (ro_eq (ro_len_row up_h rfl y62_sl22.1) (by simp only [lnS] <;> rfl)) rfl ?_
    refine ar (ro_lss (up_m rfl (u2 rfl up_h)) up_h) rfl <| ae4 (up_m rfl (u4 rfl s2_20)) (up_m rfl (u4 rfl s3_20)) (up_m rfl (u4 rfl s5_20)) up_h ?_; clear s2_20 s3_20 s5_20; intro e_21 s2_21 s3_21 s5_21 s46_21
    refine then_n <| aw_case s46_21 (fun hq_22 => ?_) (fun hq_22 => ?_)
    ·replace hq_22 := bt hq_22
     refine aw_skip <| then_n <| aw_seq <| aw_block <| aw_seq <| aw_draw 11 (by kernel_rfl) (by kernel_rfl) (by kernel_rfl) (by kernel_rfl) ?_
     refine dr (ro_fld_ptr y62_fl26_1 rfl s2_21) rfl <| dr (ro_eq (ro_ld_ptr y62_ty22 rfl mo0_20 up_h (nle rfl)) (by simp only [pS, Value.cells, Nat.reduceAdd, jnE, beE, swE] <;> rfl)) rfl ?_
     refine dr (ro_move (u2 rfl s5_21)) rfl <| dr (ro_eq (ro_ix y62_sl22 (up_m rfl up_h) up_h (by omega) (by first | (refine idx_map ?_; first | omega | (simp only [lnS]; omega)) | (refine idx_mapI ?_; first | omega | (simp only [lnS]; omega)) | (refine idx_mapN ?_; first | omega | (simp only [lnS]; omega)) | rfl)) (by simp only [pS, Value.cells, Nat.reduceAdd, jnE, beE, swE] <;> rfl)) rfl ?_
     refine dr (ro_eq (ro_ld_ref y62_ty70 rfl up_h (nle rfl)) (by simp only [pS, Value.cells, Nat.reduceAdd, jnE, beE, swE] <;> rfl)) rfl ?_
     refine dr (ro_fld_ptr y62_fl26_1 rfl (up_m rfl (u4 rfl s3_21))) rfl <| dr (ro_eq (ro_ld_ptr y62_ty22 rfl mo1_20 up_h (nle rfl)) (by simp only [pS, Value.cells, Nat.reduceAdd, jnE, beE, swE] <;> rfl)) rfl ?_
     refine dr (ro_move (up_m rfl (u2 rfl (u4 rfl s5_21)))) rfl <| dr (ro_eq (ro_ix y62_sl22 (up_m rfl up_h) up_h (by omega) (by first | (refine idx_map ?_; first | omega | (simp only [lnS]; omega)) | (refine idx_mapI ?_; first | omega | (simp only [lnS]; omega)) | (refine idx_mapN ?_; first | omega | (simp only [lnS]; omega)) | rfl)) (by simp only [pS, Value.cells, Nat.reduceAdd, jnE, beE, swE] <;> rfl)) rfl ?_
     refine dr (ro_eq (ro_ld_ref y62_ty70 rfl up_h (nle rfl)) (by simp only [pS, Value.cells, Nat.reduceAdd, jnE, beE, swE] <;> rfl)) rfl ?_
     refine dr (ro_sqneq (up_m rfl (u4 rfl up_h)) up_h rfl rfl y62_gq70 y62_sq70 (by decide)) rfl ?_
     refine ds_nil <| ae4 (up_m rfl (u2 rfl (u8 rfl s2_21))) (up_m rfl (u2 rfl (u8 rfl s3_21))) (up_m rfl (u2 rfl (u8 rfl s5_21))) up_h ?_; clear s2_21 s3_21 s46_21 s5_21; intro e_23 s2_23 s3_23 s5_23 s59_23
     refine then_n <| aw_case s59_23 (fun hq_24 => ?_) (fun hq_24 => ?_)
     ·replace hq_24 := bt' hq_24
      refine aw_seq <| at_ <| ar (ro_assign ev_c) rfl <| ae1 up_h ?_; clear s2_23 s3_23 s59_23 s5_23; intro e_25 s4_25
      refine then_n <| aw_ret <| block_r <| then_r <| then_r <| block_r <| then_r <| ret1 (.inr rfl) (by kernel_rfl) (resV_tmp s4_25) (.ro _ rfl) ?_
      clear s4_25 mo1_20 mo0_20 ml_20
      first | rfl | (simp at *; done)
     replace hq_24 := bf' hq_24
     refine aw_skip <| block_n <| then_n <| at_ <| ar (ro_move s5_23) rfl ?_
     (refine ar (ro_add' up_h ev_c ?_) rfl ?_; · (unfold In64; omega))
     refine ar (ro_assign up_h) rfl <| ae3 (up_m rfl (u2 rfl s2_23)) (up_m rfl (u2 rfl s3_23)) up_h ?_; clear s2_23 s3_23 s59_23 s5_23; intro e_26 s2_26 s3_26 s5_26
     refine then_n <| ⟨_, ⟨s5_26, (s2_26.trans s2_19.symm), (s3_26.trans s3_19.symm), (mo1_20.trans mo1_2.symm), (mo0_20.trans mo0_2.symm), ml_20, ?_⟩, ?_⟩
     · (exact ⟨by omega, by omega⟩)
     · ((try dsimp only); omega)
    replace hq_22 := bf hq_22
    refine aw_exit <| then_x <| then_x <| block_hit <| then_n <| aw_seq <| aw_seq <| at_ <| ar (ro_assign ev_c) rfl <| ae3 (up_m rfl s2_21) (up_m rfl s3_21) up_h ?_; clear s2_21 s3_21 s46_21 s5_21; intro e_27 s2_27 s3_27 s6_27
    refine then_n <| aw_block <| aw_loop (S := Int) (fun i e mem => (evA e (.tmp 6) = .v (.int .i64 i)) ∧ (evA e (.tmp 2) = evA e_27 (.tmp 2)) ∧ (evA e (.tmp 3) = evA e_27 (.tmp 3)) ∧ (mem[1]? = m_20[1]?) ∧ (mem[0]? = m_20[0]?) ∧ (mem.length = 2) ∧ ((0 ≤ i ∧ i ≤ l.bs.length))) (fun i => (l.bs.length - i).toNat) _ ⟨s6_27, rfl, rfl, rfl, rfl, ml_20, ?_⟩ ?_
    · (exact ⟨by omega, by omega⟩)
    · rintro i e_28 m_28 ⟨s6_28, k2_28, k3_28, mk1_28, mk0_28, ml_28, hinv⟩
      have s2_28 := k2_28.trans s2_27
      have s3_28 := k3_28.trans s3_27
      have mo1_28 := mk1_28.trans mo1_20
      have mo0_28 := mk0_28.trans mo0_20
      (obtain ⟨p1, p2⟩ := hinv)
      refine aw_seq <| aw_seq <| at_ <| ar (ro_move s6_28) rfl <| ar (ro_fld_ptr y62_fl26_2 rfl (up_m rfl s2_28)) rfl <| ar (ro_eq (ro_ld_ptr y62_ty23 rfl mo0_28 up_h (nle rfl)) (by simp only [pS, Value.cells, Nat.reduceAdd, jnE, beE, swE] <;> rfl)) rfl ?_
      refine ar (ro_eq (ro_len_row up_h rfl y62_sl23.1) (by simp only [lnS] <;> rfl)) rfl ?_
      refine ar (ro_lss (up_m rfl (u2 rfl up_h)) up_h) rfl <| ae4 (up_m rfl (u4 rfl s2_28)) (up_m rfl (u4 rfl s3_28)) (up_m rfl (u4 rfl s6_28)) up_h ?_; clear s2_28 s3_28 s6_28; intro e_29 s2_29 s3_29 s6_29 s64_29
      refine then_n <| aw_case s64_29 (fun hq_30 => ?_) (fun hq_30 => ?_)
      ·replace hq_30 := bt hq_30
       refine aw_skip <| then_n <| aw_seq <| aw_block <| aw_seq <| aw_draw 11 (by kernel_rfl) (by kernel_rfl) (by kernel_rfl) (by kernel_rfl) ?_
       refine dr (ro_fld_ptr y62_fl26_2 rfl s2_29) rfl <| dr (ro_eq (ro_ld_ptr y62_ty23 rfl mo0_28 up_h (nle rfl)) (by simp only [pS, Value.cells, Nat.reduceAdd, jnE, beE, swE] <;> rfl)) rfl ?_
       refine dr (ro_move (u2 rfl s6_29)) rfl <| dr (ro_eq (ro_ix y62_sl23 (up_m rfl up_h) up_h (by omega) (by first | (refine idx_map ?_; first | omega | (simp only [lnS]; omega)) | (refine idx_mapI ?_; first | omega | (simp only [lnS]; omega)) | (refine idx_mapN ?_; first | omega | (simp only [lnS]; omega)) | rfl)) (by simp only [pS, Value.cells, Nat.reduceAdd, jnE, beE, swE] <;> rfl)) rfl ?_
       refine dr (ro_eq (ro_ld_ref y62_ty87 rfl up_h (nle rfl)) (by simp only [pS, Value.cells, Nat.reduceAdd, jnE, beE, swE] <;> rfl)) rfl ?_
       refine dr (ro_fld_ptr y62_fl26_2 rfl (up_m rfl (u4 rfl s3_29))) rfl <| dr (ro_eq (ro_ld_ptr y62_ty23 rfl mo1_28 up_h (nle rfl)) (by simp only [pS, Value.cells, Nat.reduceAdd, jnE, beE, swE] <;> rfl)) rfl ?_
       refine dr (ro_move (up_m rfl (u2 rfl (u4 rfl s6_29)))) rfl <| dr (ro_eq (ro_ix y62_sl23 (up_m rfl up_h) up_h (by omega) (by first | (refine idx_map ?_; first | omega | (simp only [lnS]; omega)) | (refine idx_mapI ?_; first | omega | (simp only [lnS]; omega)) | (refine idx_mapN ?_; first | omega | (simp only [lnS]; omega)) | rfl)) (by simp only [pS, Value.cells, Nat.reduceAdd, jnE, beE, swE] <;> rfl)) rfl ?_
       refine dr (ro_eq (ro_ld_ref y62_ty87 rfl up_h (nle rfl)) (by simp only [pS, Value.cells, Nat.reduceAdd, jnE, beE, swE] <;> rfl)) rfl ?_
       refine dr (ro_sqneq (up_m rfl (u4 rfl up_h)) up_h rfl rfl y62_gq87 y62_sq87 (by decide)) rfl ?_
       refine ds_nil <| ae4 (up_m rfl (u2 rfl (u8 rfl s2_29))) (up_m rfl (u2 rfl (u8 rfl s3_29))) (up_m rfl (u2 rfl (u8 rfl s6_29))) up_h ?_; clear s2_29 s3_29 s64_29 s6_29; intro e_31 s2_31 s3_31 s6_31 s77_31
       refine then_n <| aw_case s77_31 (fun hq_32 => ?_) (fun hq_32 => ?_)
       ·replace hq_32 := bt' hq_32
        refine aw_seq <| at_ <| ar (ro_assign ev_c) rfl <| ae1 up_h ?_; clear s2_31 s3_31 s6_31 s77_31; intro e_33 s4_33
        refine then_n <| aw_ret <| block_r <| then_r <| then_r <| block_r <| then_r <| ret1 (.inr rfl) (by kernel_rfl) (resV_tmp s4_33) (.ro _ rfl) ?_
        clear s4_33 mo1_28 mo0_28 ml_28
        first | rfl | (simp at *; done)
       replace hq_32 := bf' hq_32
       refine aw_skip <| block_n <| then_n <| at_ <| ar (ro_move s6_31) rfl ?_
       (refine ar (ro_add' up_h ev_c ?_) rfl ?_; · (unfold In64; omega))
       refine ar (ro_assign up_h) rfl <| ae3 (up_m rfl (u2 rfl s2_31)) (up_m rfl (u2 rfl s3_31)) up_h ?_; clear s2_31 s3_31 s6_31 s77_31; intro e_34 s2_34 s3_34 s6_34
       refine then_n <| ⟨_, ⟨s6_34, (s2_34.trans s2_27.symm), (s3_34.trans s3_27.symm), (mo1_28.trans mo1_20.symm), (mo0_28.trans mo0_20.symm), ml_28, ?_⟩, ?_⟩
       · (exact ⟨by omega, by omega⟩)
       · ((try dsimp only); omega)
      replace hq_30 := bf hq_30
      refine aw_exit <| then_x <| then_x <| block_hit <| then_n <| aw_seq <| aw_seq <| at_ <| ar (ro_assign ev_c) rfl <| ae3 (up_m rfl s2_29) (up_m rfl s3_29) up_h ?_; clear s2_29 s3_29 s64_29 s6_29; intro e_35 s2_35 s3_35 s7_35
      refine then_n <| aw_block <| aw_loop (S := Int) (fun i e mem => (evA e (.tmp 7) = .v (.int .i64 i)) ∧ (evA e (.tmp 2) = evA e_35 (.tmp 2)) ∧ (evA e (.tmp 3) = evA e_35 (.tmp 3)) ∧ (mem[1]? = m_28[1]?) ∧ (mem[0]? = m_28[0]?) ∧ (∃ n, mem.length = n ∧ 2 ≤ n) ∧ ((0 ≤ i ∧ i ≤ l.ss.length))) (fun i => (l.ss.length - i).toNat) _ ⟨s7_35, rfl, rfl, rfl, rfl, ⟨_, ml_28, Nat.le_refl _⟩, ?_⟩ ?_
      · (exact ⟨by omega, by omega⟩)
      · rintro i e_36 m_36 ⟨s7_36, k2_36, k3_36, mk1_36, mk0_36, ⟨n_36, ml_36, hn_36⟩, hinv⟩
        have s2_36 := k2_36.trans s2_35
        have s3_36 := k3_36.trans s3_35
        have mo1_36 := mk1_36.trans mo1_28
        have mo0_36 := mk0_36.trans mo0_28
        (obtain ⟨p1, p2⟩ := hinv; have hso := hl.at i.toNat)
        refine aw_seq <| aw_seq <| at_ <| ar (ro_move s7_36) rfl <| ar (ro_fld_ptr y62_fl26_3 rfl (up_m rfl s2_36)) rfl <| ar (ro_eq (ro_ld_ptr y62_ty24 rfl mo0_36 up_h (nle rfl)) (by simp only [pS, Value.cells, Nat.reduceAdd, jnE, beE, swE] <;> rfl)) rfl ?_
        refine ar (ro_eq (ro_len_row up_h rfl y62_sl24.1) (by simp only [lnS] <;> rfl)) rfl ?_
        refine ar (ro_lss (up_m rfl (u2 rfl up_h)) up_h) rfl <| ae4 (up_m rfl (u4 rfl s2_36)) (up_m rfl (u4 rfl s3_36)) (up_m rfl (u4 rfl s7_36)) up_h ?_; clear s2_36 s3_36 s7_36; intro e_37 s2_37 s3_37 s7_37 s82_37
        refine then_n <| aw_case s82_37 (fun hq_38 => ?_) (fun hq_38 => ?_)
        ·replace hq_38 := bt hq_38
         refine aw_skip <| then_n <| aw_seq <| aw_block <| aw_seq <| aw_drawK 13 2 ml_36 (by kernel_rfl) (by kernel_rfl) (by kernel_rfl) (by kernel_rfl) (fun m_39 hm_39 => ?_)
         have mo1_39 := m_room_o hm_39 mo1_36
         have mo0_39 := m_room_o hm_39 mo0_36
         have mon_36_39 : m_39[n_36]? = _ := m_room_g hm_39 ml_36 0 rfl rfl
         have mon_36_1_39 : m_39[n_36 + 1]? = _ := m_room_g hm_39 ml_36 1 rfl rfl
         have ml_39 : _ = n_36 + 2 := m_room_l (K := 2) hm_39 ml_36
         clear hm_39 mo1_36 mo0_36 ml_36
         refine dh_ro (fun M_ hM_ => (ro_fld_ptr y62_fl26_3 rfl s2_37)) trivial ?_
         refine dh_ld (0) (fun M_ hM_ => (ro_eq (ro_ld_ptr y62_ty24 rfl (agr hM_ mo0_39 (by simp)) up_h (nle rfl)) (by simp only [pS, Value.cells, Nat.reduceAdd, jnE, beE, swE] <;> rfl))) trivial trivial ?_
         refine dh_ro (fun M_ hM_ => (ro_move (u2 rfl s7_37))) trivial ?_
         refine dh_ro (fun M_ hM_ => (ro_eq (ro_ix y62_sl24 (up_m rfl up_h) up_h (by omega) (by first | (refine idx_map ?_; first | omega | (simp only [lnS]; omega)) | (refine idx_mapI ?_; first | omega | (simp only [lnS]; omega)) | (refine idx_mapN ?_; first | omega | (simp only [lnS]; omega)) | rfl)) (by simp only [pS, Value.cells, Nat.reduceAdd, jnE, beE, swE] <;> rfl))) trivial ?_
         refine dh_ro (fun M_ hM_ => (ro_eq (ro_ld_ref y62_ty91 rfl up_h (nle rfl)) (by simp only [pS, Value.cells, Nat.reduceAdd, jnE, beE, swE] <;> rfl))) trivial ?_
         refine dh_ro (fun M_ hM_ => (ro_fld_ptr y62_fl26_3 rfl (up_m rfl (u4 rfl s3_37)))) trivial ?_
         refine dh_ld (1) (fun M_ hM_ => (ro_eq (ro_ld_ptr y62_ty24 rfl (agr hM_ mo1_39 (by simp)) up_h (nle rfl)) (by simp only [pS, Value.cells, Nat.reduceAdd, jnE, beE, swE] <;> rfl))) trivial trivial ?_
         refine dh_ro (fun M_ hM_ => (ro_move (up_m rfl (u2 rfl (u4 rfl s7_37))))) trivial ?_
         refine dh_ro (fun M_ hM_ => (ro_eq (ro_ix y62_sl24 (up_m rfl up_h) up_h (by omega) (by first | (refine idx_map ?_; first | omega | (simp only [lnS]; omega)) | (refine idx_mapI ?_; first | omega | (simp only [lnS]; omega)) | (refine idx_mapN ?_; first | omega | (simp only [lnS]; omega)) | rfl)) (by simp only [pS, Value.cells, Nat.reduceAdd, jnE, beE, swE] <;> rfl))) trivial ?_
         refine dh_ro (fun M_ hM_ => (ro_eq (ro_ld_ref y62_ty91 rfl up_h (nle rfl)) (by simp only [pS, Value.cells, Nat.reduceAdd, jnE, beE, swE] <;> rfl))) trivial ?_
         refine dh_nw (n_36) (fun M_ hM_ => (nw_alloc y62_az91 rfl)) trivial mon_36_39 rfl trivial ⟨.inl (by simp <;> omega), ⟨.inl (by simp <;> omega), trivial⟩⟩ (fun m_40 hm_40 => ?_)
         have mon_36_40 := m_set hm_40 mon_36_39
         simp only [pS, Value.cells, Nat.reduceAdd, jnE, beE, swE] at mon_36_40
         have mo1_40 := m_set_o hm_40 mo1_39 (by omega)
         have mo0_40 := m_set_o hm_40 mo0_39 (by omega)
         have mon_36_1_40 := m_set_o hm_40 mon_36_1_39 (by omega)
         have ml_40 := m_set_l hm_40 ml_39
         clear hm_40 mo1_39 mo0_39 mon_36_39 mon_36_1_39
         refine dh_nw (n_36 + 1) (fun M_ hM_ => (nw_alloc y62_az91 rfl)) trivial mon_36_1_40 rfl ⟨.inl (by simp <;> omega), trivial⟩ ⟨.inl (by simp <;> omega), ⟨.inl (by simp <;> omega), ⟨.inl (by simp <;> omega), trivial⟩⟩⟩ (fun m_41 hm_41 => ?_)
         have mon_36_1_41 := m_set hm_41 mon_36_1_40
         simp only [pS, Value.cells, Nat.reduceAdd, jnE, beE, swE] at mon_36_1_41
         have mon_36_41 := m_set_o hm_41 mon_36_40 (by omega)
         have mo1_41 := m_set_o hm_41 mo1_40 (by omega)
         have mo0_41 := m_set_o hm_41 mo0_40 (by omega)
         have ml_41 := m_set_l hm_41 ml_40
         clear hm_41 mon_36_40 mo1_40 mo0_40 mon_36_1_40
         refine dh_set (n_36) (fun M_ hM_ => (se_store (up_m rfl up_h) (up_m rfl (u2 rfl (u4 rfl up_h))) rfl rfl (agr hM_ mon_36_41 (by simp)) y62_sz91 rfl (nle rfl))) trivial ⟨.inr (wt_one 12 10 (by kernel_rfl)), ⟨.inl (by simp <;> omega), trivial⟩⟩ ⟨.inl (by simp <;> omega), ⟨.inl (by simp <;> omega), ⟨.inr (wt_one 12 10 (by kernel_rfl)), ⟨.inl (by simp <;> omega), trivial⟩⟩⟩⟩ (fun m_42 hm_42 => ?_)
         have mon_36_42 := m_set hm_42 mon_36_41
         simp only [pS, Value.cells, Nat.reduceAdd, jnE, beE, swE] at mon_36_42
         have mon_36_1_42 := m_set_o hm_42 mon_36_1_41 (by omega)
         have mo1_42 := m_set_o hm_42 mo1_41 (by omega)
         have mo0_42 := m_set_o hm_42 mo0_41 (by omega)
         have ml_42 := m_set_l hm_42 ml_41
         clear hm_42 mon_36_1_41 mon_36_41 mo1_41 mo0_41
         refine dh_nil rfl ?_
         refine al_stm (st_store (up_n up_h) (up_n (u2 rfl up_h)) rfl rfl mon_36_1_42 y62_sz91 rfl (nle rfl)) trivial rfl (fun m_43 hm_43 => ?_)
         have mon_36_1_43 := m_set hm_43 mon_36_1_42
         simp only [pS, Value.cells, Nat.reduceAdd, jnE, beE, swE] at mon_36_1_43
         have mon_36_43 := m_set_o hm_43 mon_36_42 (by omega)
         have mo1_43 := m_set_o hm_43 mo1_42 (by omega)
         have mo0_43 := m_set_o hm_43 mo0_42 (by omega)
         have ml_43 := m_set_l hm_43 ml_42
         clear hm_43 mon_36_42 mon_36_1_42 mo1_42 mo0_42
         refine ae5 (up_n (up_n (u4 rfl (u8 rfl s2_37)))) (up_n (up_n (u4 rfl (u8 rfl s3_37)))) (up_n (up_n (u4 rfl (u8 rfl s7_37)))) (up_n (up_n (up_m rfl up_h))) (up_n (up_n up_h)) ?_; clear s2_37 s3_37 s7_37 s82_37; intro e_44 s2_44 s3_44 s7_44 s8_44 s9_44
         refine then_n <| aw_seq <| at_ <| ar (ro_fld_ptr y62_fl91_0 rfl s8_44) rfl <| ar (ro_eq (ro_ld_ptr y62_ty9 rfl mon_36_43 up_h (nle rfl)) (by simp only [pS, Value.cells, Nat.reduceAdd, jnE, beE, swE] <;> rfl)) rfl ?_
         refine ar (ro_fld_ptr y62_fl91_0 rfl (u2 rfl s9_44)) rfl <| ar (ro_eq (ro_ld_ptr y62_ty9 rfl mon_36_1_43 up_h (nle rfl)) (by simp only [pS, Value.cells, Nat.reduceAdd, jnE, beE, swE] <;> rfl)) rfl ?_
         refine ar (ro_sneq (u2 rfl up_h) up_h) rfl <| ar (ro_move up_h) rfl <| al_case up_h (fun hb_45 hq_45 => ?_) (fun hb_45 hq_45 => ?_)
         ·replace hq_45 := bt' hq_45
          refine al_skip' ⟨_, rfl, .inl hb_45⟩ rfl ?_
          refine al_skip' ⟨_, rfl, .inl (up_m rfl hb_45)⟩ rfl ?_
          refine al_skip' ⟨_, rfl, .inl (u2 rfl hb_45)⟩ rfl ?_
          refine al_skip' ⟨_, rfl, .inl (up_m rfl (u2 rfl hb_45))⟩ rfl ?_
          refine al_skip' ⟨_, rfl, .inl (u4 rfl hb_45)⟩ rfl ?_
          refine ar (ro_pickT (up_m rfl (u4 rfl hb_45)) ev_c) rfl <| ar (ro_move up_h) rfl <| al_skip' ⟨_, rfl, .inl up_h⟩ rfl ?_
          refine al_skip' ⟨_, rfl, .inl (up_m rfl up_h)⟩ rfl ?_
          refine al_skip' ⟨_, rfl, .inl (u2 rfl up_h)⟩ rfl ?_
          refine al_skip' ⟨_, rfl, .inl (up_m rfl (u2 rfl up_h))⟩ rfl ?_
          refine al_skip' ⟨_, rfl, .inl (u4 rfl up_h)⟩ rfl ?_
          refine al_skip' ⟨_, rfl, .inl (up_m rfl (u4 rfl up_h))⟩ rfl ?_
          refine ar (ro_pickT (u2 rfl (u4 rfl up_h)) ev_c) rfl <| ae4 (u4 rfl (u16 rfl s2_44)) (u4 rfl (u16 rfl s3_44)) (u4 rfl (u16 rfl s7_44)) up_h ?_; clear hb_45 s2_44 s3_44 s7_44 s8_44 s9_44; intro e_46 s2_46 s3_46 s7_46 s114_46
          refine then_n <| aw_true s114_46 <| aw_seq <| at_ <| ar (ro_assign ev_c) rfl <| ae1 up_h ?_; clear s114_46 s2_46 s3_46 s7_46; intro e_48 s4_48
          refine then_n <| aw_ret <| block_r <| then_r <| then_r <| block_r <| then_r <| ret1 (.inr rfl) (by kernel_rfl) (resV_tmp s4_48) (.ro _ rfl) ?_
          clear s4_48 mon_36_1_43 mon_36_43 mo1_43 mo0_43 ml_43
          first | rfl | (simp at *; done)
         replace hq_45 := bf' hq_45
         refine al_ro' (ro_fld_ptr y62_fl91_1 rfl (u2 rfl (u4 rfl s8_44))) ⟨_, rfl, hb_45⟩ rfl ?_
         refine al_ro' (ro_eq (ro_ld_ptr y62_ty3 rfl mon_36_43 up_h (nle rfl)) (by simp only [pS, Value.cells, Nat.reduceAdd, jnE, beE, swE] <;> rfl)) ⟨_, rfl, (up_m rfl hb_45)⟩ rfl ?_
         refine al_ro' (ro_fld_ptr y62_fl91_1 rfl (u8 rfl s9_44)) ⟨_, rfl, (u2 rfl hb_45)⟩ rfl ?_
         refine al_ro' (ro_eq (ro_ld_ptr y62_ty3 rfl mon_36_1_43 up_h (nle rfl)) (by simp only [pS, Value.cells, Nat.reduceAdd, jnE, beE, swE] <;> rfl)) ⟨_, rfl, (up_m rfl (u2 rfl hb_45))⟩ rfl ?_
         refine al_ro' (ro_neq (u2 rfl up_h) up_h) ⟨_, rfl, (u4 rfl hb_45)⟩ rfl ?_
         refine ar (ro_pickF (up_m rfl (u4 rfl hb_45)) up_h) rfl <| ar (ro_move up_h) rfl <| al_case up_h (fun hb_49 hq_49 => ?_) (fun hb_49 hq_49 => ?_)
         · replace hq_49 := bnt hq_49; exfalso; omega
         replace hq_49 := bnf hq_49
         refine al_ro' (ro_fld_ptr y62_fl91_2 rfl (up_m rfl (u4 rfl (u8 rfl s8_44)))) ⟨_, rfl, hb_49⟩ rfl ?_
         refine al_ro' (ro_eq (ro_ld_ptr y62_ty49 rfl mon_36_43 up_h (nle rfl)) (by simp only [pS, Value.cells, Nat.reduceAdd, jnE, beE, swE] <;> rfl)) ⟨_, rfl, (up_m rfl hb_49)⟩ rfl ?_
         refine al_ro' (ro_fld_ptr y62_fl91_2 rfl (up_m rfl (u2 rfl (u4 rfl (u8 rfl s9_44))))) ⟨_, rfl, (u2 rfl hb_49)⟩ rfl ?_
         refine al_ro' (ro_eq (ro_ld_ptr y62_ty49 rfl mon_36_1_43 up_h (nle rfl)) (by simp only [pS, Value.cells, Nat.reduceAdd, jnE, beE, swE] <;> rfl)) ⟨_, rfl, (up_m rfl (u2 rfl hb_49))⟩ rfl ?_
         refine al_ro' (ro_call (evL_cons (u2 rfl up_h) (evL_cons up_h evL_nil)) rfl ((bIntsY_ok _ _ (by omega) (by omega)).mono (fun q h => show q = tbA true from h.trans (by simp))) y62_hcf26) ⟨_, rfl, (u4 rfl hb_49)⟩ rfl ?_
         refine al_ro' (ro_not up_h) ⟨_, rfl, (up_m rfl (u4 rfl hb_49))⟩ rfl ?_
         refine ar (ro_pickF (u2 rfl (u4 rfl hb_49)) up_h) rfl <| ae4 (u4 rfl (u16 rfl s2_44)) (u4 rfl (u16 rfl s3_44)) (u4 rfl (u16 rfl s7_44)) up_h ?_; clear hb_45 hb_49 s2_44 s3_44 s7_44 s8_44 s9_44; intro e_53 s2_53 s3_53 s7_53 s114_53
         refine then_n <| aw_case s114_53 (fun hq_54 => ?_) (fun hq_54 => ?_)
         · replace hq_54 := bt' hq_54; cases hq_54
         replace hq_54 := bf' hq_54
         refine aw_skip <| block_n <| then_n <| at_ <| ar (ro_move s7_53) rfl ?_
         (refine ar (ro_add' up_h ev_c ?_) rfl ?_; · (unfold In64; omega))
         refine ar (ro_assign up_h) rfl <| ae3 (up_m rfl (u2 rfl s2_53)) (up_m rfl (u2 rfl s3_53)) up_h ?_; clear s114_53 s2_53 s3_53 s7_53; intro e_56 s2_56 s3_56 s7_56
         refine then_n <| ⟨_, ⟨s7_56, (s2_56.trans s2_35.symm), (s3_56.trans s3_35.symm), (mo1_43.trans mo1_28.symm), (mo0_43.trans mo0_28.symm), ⟨_, ml_43, by omega⟩, ?_⟩, ?_⟩
         · (exact ⟨by omega, by omega⟩)
         · ((try dsimp only); omega)
        replace hq_38 := bf hq_38
        refine aw_exit <| then_x <| then_x <| block_hit <| then_n <| aw_seq <| at_ <| ar (ro_assign ev_c) rfl <| ae1 up_h ?_; clear s2_37 s3_37 s7_37 s82_37; intro e_57 s4_57
        refine then_n <| aw_ret <| ret1 (.inr rfl) (by kernel_rfl) (resV_tmp s4_57) (.ro _ rfl) ?_
        clear s4_57 mo1_36 mo0_36 ml_36
        first | rfl | (simp at *; done)
end Go.Proofs.Ytonjcljnpcmenaa

/- The law of chapter 1 on surveys and warmth. No conditions on a program. -/
namespace Go.Proofs.Ytonjcljnpcmenaa
open Go Go.RowKit Go.Proofs
set_option linter.unusedSimpArgs false
set_option linter.unusedVariables false
theorem y64_az26 : (Try.prog.info? 26).bind (·.zero) = some (.agg #[.string ByteArray.empty, .slice none 0 0, .slice none 0 0, .slice none 0 0]) := by kernel_rfl
theorem y64_az39 : (Try.prog.info? 39).bind (·.zero) = some (.agg #[.int .i64 0, .int .i64 0]) := by kernel_rfl
theorem y64_bz26 : (Try.prog.info? 26).bind (·.zero) = some (.agg #[.string ByteArray.empty, .slice none 0 0, .slice none 0 0, .slice none 0 0]) := by kernel_rfl
theorem y64_bu26 : Try.prog.underlying 26 = some (.struct (fsOf Try.prog 26)) := by kernel_rfl
theorem y64_bp26 : ∀ w, ((fsOf Try.prog 26).mapM fun f => Prod.mk f.offset <$> sizeOf f.type : Sem (Array (Nat × Nat))).run Try.prog w = .ok (#[(0, 1), (1, 1), (2, 1), (3, 1)]) w := fun _ => by kernel_rfl
theorem y64_fl26_1 : FldIs Try.prog 26 1 1 false 1 := by unfold FldIs; kernel_rfl
theorem y64_fl39_0 : FldIs Try.prog 39 0 0 false 1 := by unfold FldIs; kernel_rfl
theorem y64_fl39_1 : FldIs Try.prog 39 1 1 false 1 := by unfold FldIs; kernel_rfl
theorem y64_fl61_0 : FldIs Try.prog 61 0 0 false 1 := by unfold FldIs; kernel_rfl
theorem y64_fl61_1 : FldIs Try.prog 61 1 1 true 2 := by unfold FldIs; kernel_rfl
theorem y64_fl61_2 : FldIs Try.prog 61 2 3 false 1 := by unfold FldIs; kernel_rfl
theorem y64_fl70_2 : FldIs Try.prog 70 2 2 true 2 := by unfold FldIs; kernel_rfl
theorem y64_hcf12 : ∀ args w, (callFunc 12 args).run Try.prog w = .ok (.enter 12 args) w := fun _ _ => by kernel_rfl
theorem y64_hcf13 : ∀ args w, (callFunc 13 args).run Try.prog w = .ok (.enter 13 args) w := fun _ _ => by kernel_rfl
theorem y64_hcf14 : ∀ args w, (callFunc 14 args).run Try.prog w = .ok (.enter 14 args) w := fun _ _ => by kernel_rfl
theorem y64_hcf18 : ∀ args w, (callFunc 18 args).run Try.prog w = .ok (.enter 18 args) w := fun _ _ => by kernel_rfl
theorem y64_hcf30 : ∀ args w, (callFunc 30 args).run Try.prog w = .ok (.enter 30 args) w := fun _ _ => by kernel_rfl
theorem y64_hcf32 : ∀ args w, (callFunc 32 args).run Try.prog w = .ok (.enter 32 args) w := fun _ _ => by kernel_rfl
theorem y64_hcf33 : ∀ args w, (callFunc 33 args).run Try.prog w = .ok (.enter 33 args) w := fun _ _ => by kernel_rfl
theorem y64_hcf34 : ∀ args w, (callFunc 34 args).run Try.prog w = .ok (.enter 34 args) w := fun _ _ => by kernel_rfl
theorem y64_hcf35 : ∀ args w, (callFunc 35 args).run Try.prog w = .ok (.enter 35 args) w := fun _ _ => by kernel_rfl
theorem y64_hcf36 : ∀ args w, (callFunc 36 args).run Try.prog w = .ok (.enter 36 args) w := fun _ _ => by kernel_rfl
theorem y64_hcf37 : ∀ args w, (callFunc 37 args).run Try.prog w = .ok (.enter 37 args) w := fun _ _ => by kernel_rfl
theorem y64_sl22 : SlIs Try.prog 22 70 4 32 (.agg #[.int .i64 0, .int .i64 0, .int .i64 0, .int .i64 0]) := ⟨by kernel_rfl, by kernel_rfl, by kernel_rfl⟩
theorem y64_sz26 : (Try.prog.info? 26).map (·.size) = some 4 := by kernel_rfl
theorem y64_sz39 : (Try.prog.info? 39).map (·.size) = some 2 := by kernel_rfl
theorem y64_ty22 : TyIs Try.prog 22 false 1 := ⟨by kernel_rfl, by kernel_rfl⟩
theorem y64_ty26 : TyIs Try.prog 26 true 4 := ⟨by kernel_rfl, by kernel_rfl⟩
theorem y64_ty3 : TyIs Try.prog 3 false 1 := ⟨by kernel_rfl, by kernel_rfl⟩
theorem y64_ty39 : TyIs Try.prog 39 true 2 := ⟨by kernel_rfl, by kernel_rfl⟩

/-- A contract, its arguments told in another way. -/
theorem FnOk.retold {P : Program} {f : FuncId} {us bs : List AV} {ψ : AV → Prop} (h : FnOk P f bs ψ) (hl : us.length = bs.length) (hle : ∀ (i : Nat) (a b : AV), us[i]? = some a → bs[i]? = some b → ∀ (pr : Nat → Prop) (w : World) (x : Value), R0 pr w a x → R0 pr w b x) : FnOk P f us ψ := by
  intro pr w vs h1 h2
  refine h pr w vs (by rw [h1, hl]) fun i b x hb hx => ?_
  have hi : i < us.length := by rw [hl]; exact (List.getElem?_eq_some_iff.1 hb).1
  exact hle i _ b (List.getElem?_eq_getElem hi) hb pr w x (h2 i _ x (List.getElem?_eq_getElem hi) hx)
theorem r0l_same {a b : AV} (h : a = b) : ∀ (pr : Nat → Prop) (w : World) (x : Value), R0 pr w a x → R0 pr w b x := fun _ _ _ hx => h ▸ hx
theorem r0l_nil {k : Nat} : ∀ (pr : Nat → Prop) (w : World) (x : Value), R0 pr w (.v (.slice none 0 0)) x → R0 pr w (.row k []) x := fun _ _ _ hx => by
  cases hx; exact .nil _ _ _
theorem r0l_agg {l m : List AV} (hl : l.length = m.length) (h : ∀ (i : Nat) (a b : AV), l[i]? = some a → m[i]? = some b → ∀ (pr : Nat → Prop) (w : World) (x : Value), R0 pr w a x → R0 pr w b x) : ∀ (pr : Nat → Prop) (w : World) (x : Value), R0 pr w (.agg l) x → R0 pr w (.agg m) x := fun pr w x hx => by
  cases hx with
  | agg _ xs h1 h2 =>
    refine .agg _ _ (by rw [h1, hl]) fun i b y hb hy => ?_
    have hi : i < l.length := by rw [hl]; exact (List.getElem?_eq_some_iff.1 hb).1
    exact h i _ b (List.getElem?_eq_getElem hi) hb pr w y (h2 i _ y (List.getElem?_eq_getElem hi) hy)
/-- The line of nothing as a variable holds it. -/
def nonN : AV := .agg [.v (.string ByteArray.empty), .v (.slice none 0 0), .v (.slice none 0 0), .v (.slice none 0 0)]
theorem nonN_le : ∀ (pr : Nat → Prop) (w : World) (x : Value), R0 pr w nonN x → R0 pr w (lnA nonL) x :=
  r0l_agg rfl fun i a b ha hb => by
    match i, ha, hb with
    | 0, ha, hb => simp at ha hb; subst ha hb; exact r0l_same rfl
    | 1, ha, hb => simp at ha hb; subst ha hb; exact r0l_nil
    | 2, ha, hb => simp at ha hb; subst ha hb; exact r0l_nil
    | 3, ha, hb => simp at ha hb; subst ha hb; exact r0l_nil
    | (n + 4), ha, hb => simp at ha
theorem nonL_sho : Sho nonL := ⟨by decide, by decide, by decide, by decide, fun s hs => by cases hs⟩
theorem same_none : FnOk Try.prog 34 [lnA nonL, nonN] (fun q => q = tbA true) :=
  (same_refl nonL nonL_sho).retold rfl fun i a b ha hb => by
    match i, ha, hb with
    | 0, ha, hb => simp at ha hb; subst ha hb; exact r0l_same rfl
    | 1, ha, hb => simp at ha hb; subst ha hb; exact nonN_le
    | (n + 2), ha, hb => simp at ha
theorem Sho.withJs {l : Lin} (h : Sho l) {js : List Jnt} (hj : js.length = l.js.length) : Sho (l.withJs js) := ⟨h.1, by show js.length ≤ _; rw [hj]; exact h.2.1, h.2.2.1, h.2.2.2.1, h.2.2.2.2⟩
theorem surL_sho {l : Lin} (h : Sho l) (n : Nat) (a b : Int) : Sho (surL l n a b) := h.withJs (by simp)
theorem warL_sho {l : Lin} (h : Sho l) (y : Int) : Sho (warL l y) := h.withJs (warN_len _ _ _)
theorem surL_at {l : Lin} {n : Nat} {a b : Int} (hn : n < l.js.length) (h : surX l n a b = 0) : n < (surL l n a b).js.length ∧ (l.js.getD n default).lo ≤ ((surL l n a b).js.getD n default).lo ∧ ((surL l n a b).js.getD n default).lo ≤ ((surL l n a b).js.getD n default).hi ∧ ((surL l n a b).js.getD n default).hi ≤ (l.js.getD n default).hi := by
  have h1 : a ≤ b := by
    apply Classical.byContradiction; intro hc; unfold surX at h; rw [if_neg hc] at h; cases h
  have h2 : max ((l.js.getD n default).acr + (l.js.getD n default).lo) a ≤ min ((l.js.getD n default).acr + (l.js.getD n default).hi) b := by
    apply Classical.byContradiction; intro hc; unfold surX at h; rw [if_pos h1, if_neg hc] at h; cases h
  have e1 : (surL l n a b).js.getD n default = surJ (l.js.getD n default) a b := by
    show (l.js.set n _).getD n default = _
    rw [List.getD_eq_getElem?_getD, List.getElem?_set_self hn]; rfl
  rw [e1]
  refine ⟨by show n < (l.js.set n _).length; simpa using hn, ?_, ?_, ?_⟩
  · show _ ≤ max _ _ - _; omega
  · show max _ _ - _ ≤ min _ _ - _; omega
  · show min _ _ - _ ≤ _; omega
set_option maxRecDepth 100000 in
set_option maxHeartbeats 4000000 in
theorem lineSurveys_many (l : Lin) (hf : fewL l = false) (n a b y : Int) : FnOk Try.prog 6 [lnA l, .agg [mA n, mA a, mA b, mA y]] (fun q => q = tbA true) := by
  refine fnOk_of (fn := Try.f6) 143 (by kernel_rfl) rfl (by kernel_rfl) (Nat.le_of_ble_eq_true rfl) ?_
  intro e_0 m_0 hA hm_0
  have s0_0 : evA e_0 (.tmp 0) = _ := hA 0 _ rfl
  have s1_0 : evA e_0 (.tmp 1) = _ := hA 1 _ rfl
  have ml_0 : m_0.length = 0 := by rw [hm_0]; rfl
  clear hA hm_0
  refine aw_seq <| at_ <| al_stm (st_box s0_0 rfl ml_0) trivial rfl (fun m_1 hm_1 => ?_)
  have mo0_1 := m_push hm_1 ml_0
  have ml_1 := m_push_l hm_1 ml_0
  have ml_1 : _ = 1 := ml_1
  clear hm_1
  refine al_stm (st_box (up_m rfl s1_0) rfl ml_1) trivial rfl (fun m_2 hm_2 => ?_)
  have mo1_2 := m_push hm_2 ml_1
  have mo0_2 := m_push_o hm_2 mo0_1
  have ml_2 := m_push_l hm_2 ml_1
  have ml_2 : _ = 2 := ml_2
  clear hm_2 mo0_1
  refine ar (ro_assign ev_c) rfl <| ae2 (u2 rfl up_h) (up_m rfl up_h) ?_; clear s0_0 s1_0; intro e_3 s2_3 s3_3
  refine then_n <| aw_seq <| aw_seq <| at_ <| ar (ro_call evL_nil rfl (awake_ok) y64_hcf12) rfl <| ar (ro_not up_h) rfl <| ae3 (u2 rfl s2_3) (u2 rfl s3_3) up_h ?_; clear s2_3 s3_3; intro e_4 s2_4 s3_4 s16_4
  refine then_n <| aw_case s16_4 (fun hq_5 => ?_) (fun hq_5 => ?_)
  · cases hq_5
  replace hq_5 := bf' hq_5
  refine aw_skip <| then_n <| aw_seq <| aw_seq <| at_ <| ar (ro_eq (ro_ld_ptr y64_ty26 rfl mo0_2 s2_4 (nle rfl)) (by simp only [pS, Value.cells, Nat.reduceAdd] <;> rfl)) rfl ?_
  refine ar (ro_call (evL_cons up_h evL_nil) rfl ((fewL_ok l).mono (fun q h => h.trans (by rw [hf]))) y64_hcf13) rfl ?_
  refine ar (ro_not up_h) rfl <| ae3 (up_m rfl (u2 rfl s2_4)) (up_m rfl (u2 rfl s3_4)) up_h ?_; clear s16_4 s2_4 s3_4; intro e_6 s2_6 s3_6 s19_6
  refine then_n <| aw_case s19_6 (fun hq_7 => ?_) (fun hq_7 => ?_)
  ·replace hq_7 := bt' hq_7
   refine aw_seq <| at_ <| ar (ro_assign ev_c) rfl <| ae1 up_h ?_; clear s19_6 s2_6 s3_6; intro e_8 s4_8
   refine then_n <| aw_ret <| then_r <| ret1 (.inr rfl) (by kernel_rfl) (resV_tmp s4_8) (.ro _ rfl) ?_
   clear s4_8 mo1_2 mo0_2 ml_2
   first | rfl | simp_all
  · cases hq_7
set_option maxRecDepth 100000 in
set_option maxHeartbeats 4000000 in
theorem lineSurveys_bad (l : Lin) (hf : fewL l = true) (hb : (linM l).2 ≠ 0) (n a b y : Int) : FnOk Try.prog 6 [lnA l, .agg [mA n, mA a, mA b, mA y]] (fun q => q = tbA true) := by
  refine fnOk_of (fn := Try.f6) 143 (by kernel_rfl) rfl (by kernel_rfl) (Nat.le_of_ble_eq_true rfl) ?_
  intro e_0 m_0 hA hm_0
  have s0_0 : evA e_0 (.tmp 0) = _ := hA 0 _ rfl
  have s1_0 : evA e_0 (.tmp 1) = _ := hA 1 _ rfl
  have ml_0 : m_0.length = 0 := by rw [hm_0]; rfl
  clear hA hm_0
  have hl := fewL_sho hf
  refine aw_seq <| at_ <| al_stm (st_box s0_0 rfl ml_0) trivial rfl (fun m_1 hm_1 => ?_)
  have mo0_1 := m_push hm_1 ml_0
  have ml_1 := m_push_l hm_1 ml_0
  have ml_1 : _ = 1 := ml_1
  clear hm_1
  refine al_stm (st_box (up_m rfl s1_0) rfl ml_1) trivial rfl (fun m_2 hm_2 => ?_)
  have mo1_2 := m_push hm_2 ml_1
  have mo0_2 := m_push_o hm_2 mo0_1
  have ml_2 := m_push_l hm_2 ml_1
  have ml_2 : _ = 2 := ml_2
  clear hm_2 mo0_1
  refine ar (ro_assign ev_c) rfl <| ae2 (u2 rfl up_h) (up_m rfl up_h) ?_; clear s0_0 s1_0; intro e_3 s2_3 s3_3
  refine then_n <| aw_seq <| aw_seq <| at_ <| ar (ro_call evL_nil rfl (awake_ok) y64_hcf12) rfl <| ar (ro_not up_h) rfl <| ae3 (u2 rfl s2_3) (u2 rfl s3_3) up_h ?_; clear s2_3 s3_3; intro e_4 s2_4 s3_4 s16_4
  refine then_n <| aw_case s16_4 (fun hq_5 => ?_) (fun hq_5 => ?_)
  · cases hq_5
  replace hq_5 := bf' hq_5
  refine aw_skip <| then_n <| aw_seq <| aw_seq <| at_ <| ar (ro_eq (ro_ld_ptr y64_ty26 rfl mo0_2 s2_4 (nle rfl)) (by simp only [pS, Value.cells, Nat.reduceAdd] <;> rfl)) rfl ?_
  refine ar (ro_call (evL_cons up_h evL_nil) rfl ((fewL_ok l).mono (fun q h => h.trans (by rw [hf]))) y64_hcf13) rfl ?_
  refine ar (ro_not up_h) rfl <| ae3 (up_m rfl (u2 rfl s2_4)) (up_m rfl (u2 rfl s3_4)) up_h ?_; clear s16_4 s2_4 s3_4; intro e_6 s2_6 s3_6 s19_6
  refine then_n <| aw_case s19_6 (fun hq_7 => ?_) (fun hq_7 => ?_)
  · cases hq_7
  replace hq_7 := bf' hq_7
  refine aw_skip <| then_n <| aw_seq <| aw_drawK 12 1 ml_2 (by kernel_rfl) (by kernel_rfl) (by kernel_rfl) (by kernel_rfl) (fun m_8 hm_8 => ?_)
  have mo1_8 := m_room_o hm_8 mo1_2
  have mo0_8 := m_room_o hm_8 mo0_2
  have mo2_8 : m_8[2]? = _ := m_room_g hm_8 ml_2 0 rfl rfl
  have ml_8 : _ = 3 := m_room_l (K := 1) hm_8 ml_2
  clear hm_8 mo1_2 mo0_2 ml_2
  refine dh_ld (0) (fun M_ hM_ => (ro_eq (ro_ld_ptr y64_ty26 rfl (agr hM_ mo0_8 (by simp)) s2_6 (nle rfl)) (by simp only [pS, Value.cells, Nat.reduceAdd] <;> rfl))) trivial trivial ?_
  refine dh_ro (fun M_ hM_ => (ro_call (evL_cons up_h evL_nil) rfl (yCopy_ok l hl) y64_hcf18)) trivial ?_
  refine dh_ro (fun M_ hM_ => (ro_fld_ptr y64_fl61_0 rfl (u2 rfl s3_6))) trivial ?_
  refine dh_ld (1) (fun M_ hM_ => (ro_eq (ro_ld_ptr y64_ty3 rfl (agr hM_ mo1_8 (by simp)) up_h (nle rfl)) (by simp only [pS, Value.cells, Nat.reduceAdd] <;> rfl))) trivial trivial ?_
  refine dh_ro (fun M_ hM_ => (ro_fld_ptr y64_fl61_1 rfl (u4 rfl s3_6))) trivial ?_
  refine dh_ld (1) (fun M_ hM_ => (ro_eq (ro_ld_ptr y64_ty39 rfl (agr hM_ mo1_8 (by simp)) up_h (nle rfl)) (by simp only [pS, Value.cells, Nat.reduceAdd] <;> rfl))) trivial trivial ?_
  refine dh_ro (fun M_ hM_ => (ro_call (evL_cons (u4 rfl up_h) (evL_cons (u2 rfl up_h) (evL_cons up_h evL_nil))) rfl (surveyed_bad l hl hb n a b) y64_hcf32)) trivial ?_
  refine dh_ro (fun M_ hM_ => (ro_move up_h)) trivial ?_
  refine dh_ro (fun M_ hM_ => (ro_extract up_h rfl)) trivial ?_
  refine dh_ro (fun M_ hM_ => (ro_extract (up_m rfl up_h) rfl)) trivial ?_
  refine dh_nw (2) (fun M_ hM_ => (nw_alloc y64_az26 rfl)) trivial mo2_8 rfl trivial ⟨.inl (by simp <;> omega), ⟨.inl (by simp <;> omega), ⟨.inl (by simp <;> omega), trivial⟩⟩⟩ (fun m_9 hm_9 => ?_)
  have mo2_9 := m_set hm_9 mo2_8
  simp only [pS, Value.cells, Nat.reduceAdd] at mo2_9
  have mo1_9 := m_set_o hm_9 mo1_8 (by decide)
  have mo0_9 := m_set_o hm_9 mo0_8 (by decide)
  have ml_9 := m_set_l hm_9 ml_8
  clear hm_9 mo1_8 mo0_8 mo2_8
  refine dh_set (2) (fun M_ hM_ => (se_store up_h (u2 rfl up_h) rfl rfl (agr hM_ mo2_9 (by simp)) y64_sz26 rfl (nle rfl))) trivial ⟨.inr (wt_one 11 10 (by kernel_rfl)), trivial⟩ ⟨.inl (by simp <;> omega), ⟨.inl (by simp <;> omega), ⟨.inl (by simp <;> omega), ⟨.inr (wt_one 11 10 (by kernel_rfl)), trivial⟩⟩⟩⟩ (fun m_10 hm_10 => ?_)
  have mo2_10 := m_set hm_10 mo2_9
  simp only [pS, Value.cells, Nat.reduceAdd] at mo2_10
  have mo1_10 := m_set_o hm_10 mo1_9 (by decide)
  have mo0_10 := m_set_o hm_10 mo0_9 (by decide)
  have ml_10 := m_set_l hm_10 ml_9
  clear hm_10 mo2_9 mo1_9 mo0_9
  refine dh_nil rfl ?_
  refine ar (ro_assign (up_n (up_m rfl up_h))) rfl <| ae4 (up_m rfl (up_n (up_m rfl (u2 rfl (u8 rfl s2_6))))) (up_m rfl (up_n (up_m rfl (u2 rfl (u8 rfl s3_6))))) (up_m rfl (up_n up_h)) up_h ?_; clear s19_6 s2_6 s3_6; intro e_11 s2_11 s3_11 s5_11 s6_11
  refine then_n <| aw_seq <| aw_drawK 10 1 ml_10 (by kernel_rfl) (by kernel_rfl) (by kernel_rfl) (by kernel_rfl) (fun m_12 hm_12 => ?_)
  have mo2_12 := m_room_o hm_12 mo2_10
  have mo1_12 := m_room_o hm_12 mo1_10
  have mo0_12 := m_room_o hm_12 mo0_10
  have mo3_12 : m_12[3]? = _ := m_room_g hm_12 ml_10 0 rfl rfl
  have ml_12 : _ = 4 := m_room_l (K := 1) hm_12 ml_10
  clear hm_12 mo2_10 mo1_10 mo0_10 ml_10
  refine dh_ld (0) (fun M_ hM_ => (ro_eq (ro_ld_ptr y64_ty26 rfl (agr hM_ mo0_12 (by simp)) s2_11 (nle rfl)) (by simp only [pS, Value.cells, Nat.reduceAdd] <;> rfl))) trivial trivial ?_
  refine dh_ro (fun M_ hM_ => (ro_call (evL_cons up_h evL_nil) rfl (yCopy_ok l hl) y64_hcf18)) trivial ?_
  refine dh_ro (fun M_ hM_ => (ro_fld_ptr y64_fl61_2 rfl (u2 rfl s3_11))) trivial ?_
  refine dh_ld (1) (fun M_ hM_ => (ro_eq (ro_ld_ptr y64_ty3 rfl (agr hM_ mo1_12 (by simp)) up_h (nle rfl)) (by simp only [pS, Value.cells, Nat.reduceAdd] <;> rfl))) trivial trivial ?_
  refine dh_ro (fun M_ hM_ => (ro_call (evL_cons (u2 rfl up_h) (evL_cons up_h evL_nil)) rfl (warmed_bad l hl hb y) y64_hcf33)) trivial ?_
  refine dh_ro (fun M_ hM_ => (ro_move up_h)) trivial ?_
  refine dh_ro (fun M_ hM_ => (ro_extract up_h rfl)) trivial ?_
  refine dh_ro (fun M_ hM_ => (ro_extract (up_m rfl up_h) rfl)) trivial ?_
  refine dh_nw (3) (fun M_ hM_ => (nw_alloc y64_az26 rfl)) trivial mo3_12 rfl trivial ⟨.inl (by simp <;> omega), ⟨.inl (by simp <;> omega), trivial⟩⟩ (fun m_13 hm_13 => ?_)
  have mo3_13 := m_set hm_13 mo3_12
  simp only [pS, Value.cells, Nat.reduceAdd] at mo3_13
  have mo2_13 := m_set_o hm_13 mo2_12 (by decide)
  have mo1_13 := m_set_o hm_13 mo1_12 (by decide)
  have mo0_13 := m_set_o hm_13 mo0_12 (by decide)
  have ml_13 := m_set_l hm_13 ml_12
  clear hm_13 mo2_12 mo1_12 mo0_12 mo3_12
  refine dh_set (3) (fun M_ hM_ => (se_store up_h (u2 rfl up_h) rfl rfl (agr hM_ mo3_13 (by simp)) y64_sz26 rfl (nle rfl))) trivial ⟨.inr (wt_one 9 8 (by kernel_rfl)), trivial⟩ ⟨.inl (by simp <;> omega), ⟨.inl (by simp <;> omega), ⟨.inr (wt_one 9 8 (by kernel_rfl)), trivial⟩⟩⟩ (fun m_14 hm_14 => ?_)
  have mo3_14 := m_set hm_14 mo3_13
  simp only [pS, Value.cells, Nat.reduceAdd] at mo3_14
  have mo2_14 := m_set_o hm_14 mo2_13 (by decide)
  have mo1_14 := m_set_o hm_14 mo1_13 (by decide)
  have mo0_14 := m_set_o hm_14 mo0_13 (by decide)
  have ml_14 := m_set_l hm_14 ml_13
  clear hm_14 mo3_13 mo2_13 mo1_13 mo0_13
  refine dh_nil rfl ?_
  refine ar (ro_assign (up_n (up_m rfl up_h))) rfl <| ae6 (up_m rfl (up_n (up_m rfl (u8 rfl s2_11)))) (up_m rfl (up_n (up_m rfl (u8 rfl s3_11)))) (up_m rfl (up_n (up_m rfl (u8 rfl s5_11)))) (up_m rfl (up_n (up_m rfl (u8 rfl s6_11)))) (up_m rfl (up_n up_h)) up_h ?_; clear s2_11 s3_11 s5_11 s6_11; intro e_15 s2_15 s3_15 s5_15 s6_15 s7_15 s8_15
  refine then_n <| aw_seq <| at_ <| ar (ro_build evP_nil y64_bz26 y64_bu26 y64_bp26 rfl) rfl ?_
  refine al_stm (st_alloc y64_az26 rfl ml_14) trivial rfl (fun m_16 hm_16 => ?_)
  have mo4_16 := m_push hm_16 ml_14
  simp only [pS, Value.cells, Nat.reduceAdd] at mo4_16
  have mo3_16 := m_push_o hm_16 mo3_14
  have mo2_16 := m_push_o hm_16 mo2_14
  have mo1_16 := m_push_o hm_16 mo1_14
  have mo0_16 := m_push_o hm_16 mo0_14
  have ml_16 := m_push_l hm_16 ml_14
  have ml_16 : _ = 5 := ml_16
  clear hm_16 mo3_14 mo2_14 mo1_14 mo0_14
  refine al_stm (st_store up_h (up_m rfl up_h) rfl rfl mo4_16 y64_sz26 rfl (nle rfl)) trivial rfl (fun m_17 hm_17 => ?_)
  have mo4_17 := m_set hm_17 mo4_16
  simp only [pS, Value.cells, Nat.reduceAdd] at mo4_17
  have mo3_17 := m_set_o hm_17 mo3_16 (by decide)
  have mo2_17 := m_set_o hm_17 mo2_16 (by decide)
  have mo1_17 := m_set_o hm_17 mo1_16 (by decide)
  have mo0_17 := m_set_o hm_17 mo0_16 (by decide)
  have ml_17 := m_set_l hm_17 ml_16
  clear hm_17 mo4_16 mo3_16 mo2_16 mo1_16 mo0_16
  refine ae7 (up_n (u2 rfl s2_15)) (up_n (u2 rfl s3_15)) (up_n (u2 rfl s5_15)) (up_n (u2 rfl s6_15)) (up_n (u2 rfl s7_15)) (up_n (u2 rfl s8_15)) (up_n up_h) ?_; clear s2_15 s3_15 s5_15 s6_15 s7_15 s8_15; intro e_18 s2_18 s3_18 s5_18 s6_18 s7_18 s8_18 s9_18
  refine then_n <| aw_seq <| aw_seq <| at_ <| ar (ro_eq (ro_ld_ptr y64_ty26 rfl mo0_17 s2_18 (nle rfl)) (by simp only [pS, Value.cells, Nat.reduceAdd] <;> rfl)) rfl ?_
  refine ar (ro_call (evL_cons up_h evL_nil) rfl (lineErr_ok l hl) y64_hcf14) rfl <| ar (ro_assign up_h) rfl <| ae8 (up_m rfl (u2 rfl s2_18)) (up_m rfl (u2 rfl s3_18)) (up_m rfl (u2 rfl s5_18)) (up_m rfl (u2 rfl s6_18)) (up_m rfl (u2 rfl s7_18)) (up_m rfl (u2 rfl s8_18)) (up_m rfl (u2 rfl s9_18)) up_h ?_; clear s2_18 s3_18 s5_18 s6_18 s7_18 s8_18 s9_18; intro e_19 s2_19 s3_19 s5_19 s6_19 s7_19 s8_19 s9_19 s10_19
  refine then_n <| aw_seq <| at_ <| ar (ro_move s10_19) rfl <| ar (ro_neq up_h ev_c) rfl <| ae9 (u2 rfl s2_19) (u2 rfl s3_19) (u2 rfl s5_19) (u2 rfl s6_19) (u2 rfl s7_19) (u2 rfl s8_19) (u2 rfl s9_19) (u2 rfl s10_19) up_h ?_; clear s10_19 s2_19 s3_19 s5_19 s6_19 s7_19 s8_19 s9_19; intro e_20 s2_20 s3_20 s5_20 s6_20 s7_20 s8_20 s9_20 s10_20 s42_20
  refine then_n <| aw_case s42_20 (fun hq_21 => ?_) (fun hq_21 => ?_)
  ·replace hq_21 := bnt hq_21
   refine aw_seq <| at_ <| ar (ro_move s6_20) rfl <| ar (ro_move (up_m rfl s10_20)) rfl <| ar (ro_eql (up_m rfl up_h) up_h) rfl ?_
   refine ar (ro_move up_h) rfl <| al_case up_h (fun hb_22 hq_22 => ?_) (fun hb_22 hq_22 => ?_)
   ·replace hq_22 := bt hq_22
    refine al_ro' (ro_move (u4 rfl s8_20)) ⟨_, rfl, hb_22⟩ rfl ?_
    refine al_ro' (ro_move (up_m rfl (u4 rfl s10_20))) ⟨_, rfl, (up_m rfl hb_22)⟩ rfl ?_
    refine al_ro' (ro_eql (up_m rfl up_h) up_h) ⟨_, rfl, (u2 rfl hb_22)⟩ rfl ?_
    refine ar (ro_pickT (up_m rfl (u2 rfl hb_22)) up_h) rfl <| ar (ro_move up_h) rfl <| al_case up_h (fun hb_23 hq_23 => ?_) (fun hb_23 hq_23 => ?_)
    ·replace hq_23 := bt hq_23
     refine al_ro' (ro_eq (ro_ld_ptr y64_ty26 rfl mo2_17 (up_m rfl (u8 rfl s5_20)) (nle rfl)) (by simp only [pS, Value.cells, Nat.reduceAdd] <;> rfl)) ⟨_, rfl, hb_23⟩ rfl ?_
     refine al_ro' (ro_eq (ro_ld_ptr y64_ty26 rfl mo4_17 (u2 rfl (u8 rfl s9_20)) (nle rfl)) (by simp only [pS, Value.cells, Nat.reduceAdd] <;> rfl)) ⟨_, rfl, (up_m rfl hb_23)⟩ rfl ?_
     refine al_ro' (ro_call (evL_cons (up_m rfl up_h) (evL_cons up_h evL_nil)) rfl (same_none) y64_hcf34) ⟨_, rfl, (u2 rfl hb_23)⟩ rfl ?_
     refine ar (ro_pickT (up_m rfl (u2 rfl hb_23)) up_h) rfl <| ar (ro_move up_h) rfl <| al_case up_h (fun hb_24 hq_24 => ?_) (fun hb_24 hq_24 => ?_)
     ·skip
      refine al_ro' (ro_eq (ro_ld_ptr y64_ty26 rfl mo3_17 (u2 rfl (u4 rfl (u8 rfl s7_20))) (nle rfl)) (by simp only [pS, Value.cells, Nat.reduceAdd] <;> rfl)) ⟨_, rfl, hb_24⟩ rfl ?_
      refine al_ro' (ro_eq (ro_ld_ptr y64_ty26 rfl mo4_17 (up_m rfl (u2 rfl (u4 rfl (u8 rfl s9_20)))) (nle rfl)) (by simp only [pS, Value.cells, Nat.reduceAdd] <;> rfl)) ⟨_, rfl, (up_m rfl hb_24)⟩ rfl ?_
      refine al_ro' (ro_call (evL_cons (up_m rfl up_h) (evL_cons up_h evL_nil)) rfl (same_none) y64_hcf34) ⟨_, rfl, (u2 rfl hb_24)⟩ rfl ?_
      refine ar (ro_pickT (up_m rfl (u2 rfl hb_24)) up_h) rfl <| ar (ro_assign up_h) rfl <| ae1 up_h ?_; clear hb_22 hb_23 hb_24 s10_20 s2_20 s3_20 s42_20 s5_20 s6_20 s7_20 s8_20 s9_20; intro e_25 s4_25
      refine then_n <| aw_ret <| then_r <| ret1 (.inr rfl) (by kernel_rfl) (resV_tmp s4_25) (.ro _ rfl) ?_
      clear s4_25 mo4_17 mo3_17 mo2_17 mo1_17 mo0_17 ml_17
      first | rfl | simp_all
     · cases hq_24
    · replace hq_23 := bf hq_23; exfalso; omega
   · replace hq_22 := bf hq_22; exfalso; omega
  · replace hq_21 := bnf hq_21; exfalso; omega
set_option maxRecDepth 100000 in
set_option maxHeartbeats 4000000 in
theorem lineSurveys_missFar (l : Lin) (hf : fewL l = true) (hg : (linM l).2 = 0) (n a b y : Int) (hm : misE n 0 (l.js.length - 1) ≠ 0) (hy : withinB y 0 100 = false) : FnOk Try.prog 6 [lnA l, .agg [mA n, mA a, mA b, mA y]] (fun q => q = tbA true) := by
  refine fnOk_of (fn := Try.f6) 143 (by kernel_rfl) rfl (by kernel_rfl) (Nat.le_of_ble_eq_true rfl) ?_
  intro e_0 m_0 hA hm_0
  have s0_0 : evA e_0 (.tmp 0) = _ := hA 0 _ rfl
  have s1_0 : evA e_0 (.tmp 1) = _ := hA 1 _ rfl
  have ml_0 : m_0.length = 0 := by rw [hm_0]; rfl
  clear hA hm_0
  have hl := fewL_sho hf
  refine aw_seq <| at_ <| al_stm (st_box s0_0 rfl ml_0) trivial rfl (fun m_1 hm_1 => ?_)
  have mo0_1 := m_push hm_1 ml_0
  have ml_1 := m_push_l hm_1 ml_0
  have ml_1 : _ = 1 := ml_1
  clear hm_1
  refine al_stm (st_box (up_m rfl s1_0) rfl ml_1) trivial rfl (fun m_2 hm_2 => ?_)
  have mo1_2 := m_push hm_2 ml_1
  have mo0_2 := m_push_o hm_2 mo0_1
  have ml_2 := m_push_l hm_2 ml_1
  have ml_2 : _ = 2 := ml_2
  clear hm_2 mo0_1
  refine ar (ro_assign ev_c) rfl <| ae2 (u2 rfl up_h) (up_m rfl up_h) ?_; clear s0_0 s1_0; intro e_3 s2_3 s3_3
  refine then_n <| aw_seq <| aw_seq <| at_ <| ar (ro_call evL_nil rfl (awake_ok) y64_hcf12) rfl <| ar (ro_not up_h) rfl <| ae3 (u2 rfl s2_3) (u2 rfl s3_3) up_h ?_; clear s2_3 s3_3; intro e_4 s2_4 s3_4 s16_4
  refine then_n <| aw_case s16_4 (fun hq_5 => ?_) (fun hq_5 => ?_)
  · cases hq_5
  replace hq_5 := bf' hq_5
  refine aw_skip <| then_n <| aw_seq <| aw_seq <| at_ <| ar (ro_eq (ro_ld_ptr y64_ty26 rfl mo0_2 s2_4 (nle rfl)) (by simp only [pS, Value.cells, Nat.reduceAdd] <;> rfl)) rfl ?_
  refine ar (ro_call (evL_cons up_h evL_nil) rfl ((fewL_ok l).mono (fun q h => h.trans (by rw [hf]))) y64_hcf13) rfl ?_
  refine ar (ro_not up_h) rfl <| ae3 (up_m rfl (u2 rfl s2_4)) (up_m rfl (u2 rfl s3_4)) up_h ?_; clear s16_4 s2_4 s3_4; intro e_6 s2_6 s3_6 s19_6
  refine then_n <| aw_case s19_6 (fun hq_7 => ?_) (fun hq_7 => ?_)
  · cases hq_7
  replace hq_7 := bf' hq_7
  refine aw_skip <| then_n <| aw_seq <| aw_drawK 12 1 ml_2 (by kernel_rfl) (by kernel_rfl) (by kernel_rfl) (by kernel_rfl) (fun m_8 hm_8 => ?_)
  have mo1_8 := m_room_o hm_8 mo1_2
  have mo0_8 := m_room_o hm_8 mo0_2
  have mo2_8 : m_8[2]? = _ := m_room_g hm_8 ml_2 0 rfl rfl
  have ml_8 : _ = 3 := m_room_l (K := 1) hm_8 ml_2
  clear hm_8 mo1_2 mo0_2 ml_2
  refine dh_ld (0) (fun M_ hM_ => (ro_eq (ro_ld_ptr y64_ty26 rfl (agr hM_ mo0_8 (by simp)) s2_6 (nle rfl)) (by simp only [pS, Value.cells, Nat.reduceAdd] <;> rfl))) trivial trivial ?_
  refine dh_ro (fun M_ hM_ => (ro_call (evL_cons up_h evL_nil) rfl (yCopy_ok l hl) y64_hcf18)) trivial ?_
  refine dh_ro (fun M_ hM_ => (ro_fld_ptr y64_fl61_0 rfl (u2 rfl s3_6))) trivial ?_
  refine dh_ld (1) (fun M_ hM_ => (ro_eq (ro_ld_ptr y64_ty3 rfl (agr hM_ mo1_8 (by simp)) up_h (nle rfl)) (by simp only [pS, Value.cells, Nat.reduceAdd] <;> rfl))) trivial trivial ?_
  refine dh_ro (fun M_ hM_ => (ro_fld_ptr y64_fl61_1 rfl (u4 rfl s3_6))) trivial ?_
  refine dh_ld (1) (fun M_ hM_ => (ro_eq (ro_ld_ptr y64_ty39 rfl (agr hM_ mo1_8 (by simp)) up_h (nle rfl)) (by simp only [pS, Value.cells, Nat.reduceAdd] <;> rfl))) trivial trivial ?_
  refine dh_ro (fun M_ hM_ => (ro_call (evL_cons (u4 rfl up_h) (evL_cons (u2 rfl up_h) (evL_cons up_h evL_nil))) rfl (surveyed_miss l hl hg n a b hm) y64_hcf32)) trivial ?_
  refine dh_ro (fun M_ hM_ => (ro_move up_h)) trivial ?_
  refine dh_ro (fun M_ hM_ => (ro_extract up_h rfl)) trivial ?_
  refine dh_ro (fun M_ hM_ => (ro_extract (up_m rfl up_h) rfl)) trivial ?_
  refine dh_nw (2) (fun M_ hM_ => (nw_alloc y64_az26 rfl)) trivial mo2_8 rfl trivial ⟨.inl (by simp <;> omega), ⟨.inl (by simp <;> omega), ⟨.inl (by simp <;> omega), trivial⟩⟩⟩ (fun m_9 hm_9 => ?_)
  have mo2_9 := m_set hm_9 mo2_8
  simp only [pS, Value.cells, Nat.reduceAdd] at mo2_9
  have mo1_9 := m_set_o hm_9 mo1_8 (by decide)
  have mo0_9 := m_set_o hm_9 mo0_8 (by decide)
  have ml_9 := m_set_l hm_9 ml_8
  clear hm_9 mo1_8 mo0_8 mo2_8
  refine dh_set (2) (fun M_ hM_ => (se_store up_h (u2 rfl up_h) rfl rfl (agr hM_ mo2_9 (by simp)) y64_sz26 rfl (nle rfl))) trivial ⟨.inr (wt_one 11 10 (by kernel_rfl)), trivial⟩ ⟨.inl (by simp <;> omega), ⟨.inl (by simp <;> omega), ⟨.inl (by simp <;> omega), ⟨.inr (wt_one 11 10 (by kernel_rfl)), trivial⟩⟩⟩⟩ (fun m_10 hm_10 => ?_)
  have mo2_10 := m_set hm_10 mo2_9
  simp only [pS, Value.cells, Nat.reduceAdd] at mo2_10
  have mo1_10 := m_set_o hm_10 mo1_9 (by decide)
  have mo0_10 := m_set_o hm_10 mo0_9 (by decide)
  have ml_10 := m_set_l hm_10 ml_9
  clear hm_10 mo2_9 mo1_9 mo0_9
  refine dh_nil rfl ?_
  refine ar (ro_assign (up_n (up_m rfl up_h))) rfl <| ae4 (up_m rfl (up_n (up_m rfl (u2 rfl (u8 rfl s2_6))))) (up_m rfl (up_n (up_m rfl (u2 rfl (u8 rfl s3_6))))) (up_m rfl (up_n up_h)) up_h ?_; clear s19_6 s2_6 s3_6; intro e_11 s2_11 s3_11 s5_11 s6_11
  refine then_n <| aw_seq <| aw_drawK 10 1 ml_10 (by kernel_rfl) (by kernel_rfl) (by kernel_rfl) (by kernel_rfl) (fun m_12 hm_12 => ?_)
  have mo2_12 := m_room_o hm_12 mo2_10
  have mo1_12 := m_room_o hm_12 mo1_10
  have mo0_12 := m_room_o hm_12 mo0_10
  have mo3_12 : m_12[3]? = _ := m_room_g hm_12 ml_10 0 rfl rfl
  have ml_12 : _ = 4 := m_room_l (K := 1) hm_12 ml_10
  clear hm_12 mo2_10 mo1_10 mo0_10 ml_10
  refine dh_ld (0) (fun M_ hM_ => (ro_eq (ro_ld_ptr y64_ty26 rfl (agr hM_ mo0_12 (by simp)) s2_11 (nle rfl)) (by simp only [pS, Value.cells, Nat.reduceAdd] <;> rfl))) trivial trivial ?_
  refine dh_ro (fun M_ hM_ => (ro_call (evL_cons up_h evL_nil) rfl (yCopy_ok l hl) y64_hcf18)) trivial ?_
  refine dh_ro (fun M_ hM_ => (ro_fld_ptr y64_fl61_2 rfl (u2 rfl s3_11))) trivial ?_
  refine dh_ld (1) (fun M_ hM_ => (ro_eq (ro_ld_ptr y64_ty3 rfl (agr hM_ mo1_12 (by simp)) up_h (nle rfl)) (by simp only [pS, Value.cells, Nat.reduceAdd] <;> rfl))) trivial trivial ?_
  refine dh_ro (fun M_ hM_ => (ro_call (evL_cons (u2 rfl up_h) (evL_cons up_h evL_nil)) rfl (warmed_far l hl hg y hy) y64_hcf33)) trivial ?_
  refine dh_ro (fun M_ hM_ => (ro_move up_h)) trivial ?_
  refine dh_ro (fun M_ hM_ => (ro_extract up_h rfl)) trivial ?_
  refine dh_ro (fun M_ hM_ => (ro_extract (up_m rfl up_h) rfl)) trivial ?_
  refine dh_nw (3) (fun M_ hM_ => (nw_alloc y64_az26 rfl)) trivial mo3_12 rfl trivial ⟨.inl (by simp <;> omega), ⟨.inl (by simp <;> omega), trivial⟩⟩ (fun m_13 hm_13 => ?_)
  have mo3_13 := m_set hm_13 mo3_12
  simp only [pS, Value.cells, Nat.reduceAdd] at mo3_13
  have mo2_13 := m_set_o hm_13 mo2_12 (by decide)
  have mo1_13 := m_set_o hm_13 mo1_12 (by decide)
  have mo0_13 := m_set_o hm_13 mo0_12 (by decide)
  have ml_13 := m_set_l hm_13 ml_12
  clear hm_13 mo2_12 mo1_12 mo0_12 mo3_12
  refine dh_set (3) (fun M_ hM_ => (se_store up_h (u2 rfl up_h) rfl rfl (agr hM_ mo3_13 (by simp)) y64_sz26 rfl (nle rfl))) trivial ⟨.inr (wt_one 9 8 (by kernel_rfl)), trivial⟩ ⟨.inl (by simp <;> omega), ⟨.inl (by simp <;> omega), ⟨.inr (wt_one 9 8 (by kernel_rfl)), trivial⟩⟩⟩ (fun m_14 hm_14 => ?_)
  have mo3_14 := m_set hm_14 mo3_13
  simp only [pS, Value.cells, Nat.reduceAdd] at mo3_14
  have mo2_14 := m_set_o hm_14 mo2_13 (by decide)
  have mo1_14 := m_set_o hm_14 mo1_13 (by decide)
  have mo0_14 := m_set_o hm_14 mo0_13 (by decide)
  have ml_14 := m_set_l hm_14 ml_13
  clear hm_14 mo3_13 mo2_13 mo1_13 mo0_13
  refine dh_nil rfl ?_
  refine ar (ro_assign (up_n (up_m rfl up_h))) rfl <| ae6 (up_m rfl (up_n (up_m rfl (u8 rfl s2_11)))) (up_m rfl (up_n (up_m rfl (u8 rfl s3_11)))) (up_m rfl (up_n (up_m rfl (u8 rfl s5_11)))) (up_m rfl (up_n (up_m rfl (u8 rfl s6_11)))) (up_m rfl (up_n up_h)) up_h ?_; clear s2_11 s3_11 s5_11 s6_11; intro e_15 s2_15 s3_15 s5_15 s6_15 s7_15 s8_15
  refine then_n <| aw_seq <| at_ <| ar (ro_build evP_nil y64_bz26 y64_bu26 y64_bp26 rfl) rfl ?_
  refine al_stm (st_alloc y64_az26 rfl ml_14) trivial rfl (fun m_16 hm_16 => ?_)
  have mo4_16 := m_push hm_16 ml_14
  simp only [pS, Value.cells, Nat.reduceAdd] at mo4_16
  have mo3_16 := m_push_o hm_16 mo3_14
  have mo2_16 := m_push_o hm_16 mo2_14
  have mo1_16 := m_push_o hm_16 mo1_14
  have mo0_16 := m_push_o hm_16 mo0_14
  have ml_16 := m_push_l hm_16 ml_14
  have ml_16 : _ = 5 := ml_16
  clear hm_16 mo3_14 mo2_14 mo1_14 mo0_14
  refine al_stm (st_store up_h (up_m rfl up_h) rfl rfl mo4_16 y64_sz26 rfl (nle rfl)) trivial rfl (fun m_17 hm_17 => ?_)
  have mo4_17 := m_set hm_17 mo4_16
  simp only [pS, Value.cells, Nat.reduceAdd] at mo4_17
  have mo3_17 := m_set_o hm_17 mo3_16 (by decide)
  have mo2_17 := m_set_o hm_17 mo2_16 (by decide)
  have mo1_17 := m_set_o hm_17 mo1_16 (by decide)
  have mo0_17 := m_set_o hm_17 mo0_16 (by decide)
  have ml_17 := m_set_l hm_17 ml_16
  clear hm_17 mo4_16 mo3_16 mo2_16 mo1_16 mo0_16
  refine ae7 (up_n (u2 rfl s2_15)) (up_n (u2 rfl s3_15)) (up_n (u2 rfl s5_15)) (up_n (u2 rfl s6_15)) (up_n (u2 rfl s7_15)) (up_n (u2 rfl s8_15)) (up_n up_h) ?_; clear s2_15 s3_15 s5_15 s6_15 s7_15 s8_15; intro e_18 s2_18 s3_18 s5_18 s6_18 s7_18 s8_18 s9_18
  refine then_n <| aw_seq <| aw_seq <| at_ <| ar (ro_eq (ro_ld_ptr y64_ty26 rfl mo0_17 s2_18 (nle rfl)) (by simp only [pS, Value.cells, Nat.reduceAdd] <;> rfl)) rfl ?_
  refine ar (ro_call (evL_cons up_h evL_nil) rfl (lineErr_ok l hl) y64_hcf14) rfl <| ar (ro_assign up_h) rfl <| ae8 (up_m rfl (u2 rfl s2_18)) (up_m rfl (u2 rfl s3_18)) (up_m rfl (u2 rfl s5_18)) (up_m rfl (u2 rfl s6_18)) (up_m rfl (u2 rfl s7_18)) (up_m rfl (u2 rfl s8_18)) (up_m rfl (u2 rfl s9_18)) up_h ?_; clear s2_18 s3_18 s5_18 s6_18 s7_18 s8_18 s9_18; intro e_19 s2_19 s3_19 s5_19 s6_19 s7_19 s8_19 s9_19 s10_19
  refine then_n <| aw_seq <| at_ <| ar (ro_move s10_19) rfl <| ar (ro_neq up_h ev_c) rfl <| ae9 (u2 rfl s2_19) (u2 rfl s3_19) (u2 rfl s5_19) (u2 rfl s6_19) (u2 rfl s7_19) (u2 rfl s8_19) (u2 rfl s9_19) (u2 rfl s10_19) up_h ?_; clear s10_19 s2_19 s3_19 s5_19 s6_19 s7_19 s8_19 s9_19; intro e_20 s2_20 s3_20 s5_20 s6_20 s7_20 s8_20 s9_20 s10_20 s42_20
  refine then_n <| aw_case s42_20 (fun hq_21 => ?_) (fun hq_21 => ?_)
  · replace hq_21 := bnt hq_21; exfalso; omega
  replace hq_21 := bnf hq_21
  refine aw_skip <| then_n <| aw_seq <| aw_seq <| at_ <| ar (ro_fld_ptr y64_fl61_2 rfl s3_20) rfl <| ar (ro_eq (ro_ld_ptr y64_ty3 rfl mo1_17 up_h (nle rfl)) (by simp only [pS, Value.cells, Nat.reduceAdd] <;> rfl)) rfl ?_
  refine ar (ro_call (evL_cons up_h (evL_cons ev_c (evL_cons ev_c evL_nil))) rfl ((bWithin_ok _ _ _).mono (fun q h => show q = tbA false from h.trans (by rw [hy]))) y64_hcf30) rfl ?_
  refine ar (ro_not up_h) rfl <| ae8 (u4 rfl s2_20) (u4 rfl s3_20) (u4 rfl s5_20) (u4 rfl s6_20) (u4 rfl s7_20) (u4 rfl s8_20) (u4 rfl s9_20) up_h ?_; clear s10_20 s2_20 s3_20 s42_20 s5_20 s6_20 s7_20 s8_20 s9_20; intro e_22 s2_22 s3_22 s5_22 s6_22 s7_22 s8_22 s9_22 s64_22
  refine then_n <| aw_case s64_22 (fun hq_23 => ?_) (fun hq_23 => ?_)
  ·replace hq_23 := bt' hq_23
   refine aw_seq <| at_ <| ar (ro_move s8_22) rfl <| ar (ro_neq up_h ev_c) rfl <| ar (ro_move up_h) rfl <| al_case up_h (fun hb_24 hq_24 => ?_) (fun hb_24 hq_24 => ?_)
   · cases hq_24
   replace hq_24 := bnf hq_24
   refine al_ro' (ro_eq (ro_ld_ptr y64_ty26 rfl mo3_17 (up_m rfl (u2 rfl s7_22)) (nle rfl)) (by simp only [pS, Value.cells, Nat.reduceAdd] <;> rfl)) ⟨_, rfl, hb_24⟩ rfl ?_
   refine al_ro' (ro_eq (ro_ld_ptr y64_ty26 rfl mo4_17 (u4 rfl s9_22) (nle rfl)) (by simp only [pS, Value.cells, Nat.reduceAdd] <;> rfl)) ⟨_, rfl, (up_m rfl hb_24)⟩ rfl ?_
   refine al_ro' (ro_call (evL_cons (up_m rfl up_h) (evL_cons up_h evL_nil)) rfl (same_none) y64_hcf34) ⟨_, rfl, (u2 rfl hb_24)⟩ rfl ?_
   refine al_ro' (ro_not up_h) ⟨_, rfl, (up_m rfl (u2 rfl hb_24))⟩ rfl ?_
   refine ar (ro_pickF (u4 rfl hb_24) up_h) rfl <| ae5 (u8 rfl s2_22) (u8 rfl s3_22) (u8 rfl s5_22) (u8 rfl s6_22) up_h ?_; clear hb_24 s2_22 s3_22 s5_22 s64_22 s6_22 s7_22 s8_22 s9_22; intro e_28 s2_28 s3_28 s5_28 s6_28 s72_28
   refine then_n <| aw_case s72_28 (fun hq_29 => ?_) (fun hq_29 => ?_)
   · cases hq_29
   replace hq_29 := bf' hq_29
   refine aw_skip <| then_n <| aw_seq <| at_ <| ar (ro_eq (ro_ld_ptr y64_ty26 rfl mo0_17 s2_28 (nle rfl)) (by simp only [pS, Value.cells, Nat.reduceAdd] <;> rfl)) rfl ?_
   refine ar (ro_fld_ptr y64_fl61_0 rfl (up_m rfl s3_28)) rfl <| ar (ro_eq (ro_ld_ptr y64_ty3 rfl mo1_17 up_h (nle rfl)) (by simp only [pS, Value.cells, Nat.reduceAdd] <;> rfl)) rfl ?_
   refine ar (ro_call (evL_cons (u2 rfl up_h) (evL_cons up_h evL_nil)) rfl (jointErr_ok l hl n) y64_hcf36) rfl <| ar (ro_assign up_h) rfl <| ae5 (up_m rfl (u4 rfl s2_28)) (up_m rfl (u4 rfl s3_28)) (up_m rfl (u4 rfl s5_28)) (up_m rfl (u4 rfl s6_28)) up_h ?_; clear s2_28 s3_28 s5_28 s6_28 s72_28; intro e_31 s2_31 s3_31 s5_31 s6_31 s11_31
   refine then_n <| aw_seq <| at_ <| al_stm (st_alloc y64_az26 rfl ml_17) trivial rfl (fun m_32 hm_32 => ?_)
   have mo5_32 := m_push hm_32 ml_17
   simp only [pS, Value.cells, Nat.reduceAdd] at mo5_32
   have mo4_32 := m_push_o hm_32 mo4_17
   have mo3_32 := m_push_o hm_32 mo3_17
   have mo2_32 := m_push_o hm_32 mo2_17
   have mo1_32 := m_push_o hm_32 mo1_17
   have mo0_32 := m_push_o hm_32 mo0_17
   have ml_32 := m_push_l hm_32 ml_17
   have ml_32 : _ = 6 := ml_32
   clear hm_32 mo4_17 mo3_17 mo2_17 mo1_17 mo0_17
   refine ae6 (up_m rfl s2_31) (up_m rfl s3_31) (up_m rfl s5_31) (up_m rfl s6_31) (up_m rfl s11_31) up_h ?_; clear s11_31 s2_31 s3_31 s5_31 s6_31; intro e_33 s2_33 s3_33 s5_33 s6_33 s11_33 s12_33
   refine then_n <| aw_seq <| aw_seq <| at_ <| ar (ro_move s11_33) rfl <| ar (ro_eql up_h ev_c) rfl ?_
   refine ae7 (u2 rfl s2_33) (u2 rfl s3_33) (u2 rfl s5_33) (u2 rfl s6_33) (u2 rfl s11_33) (u2 rfl s12_33) up_h ?_; clear s11_33 s12_33 s2_33 s3_33 s5_33 s6_33; intro e_34 s2_34 s3_34 s5_34 s6_34 s11_34 s12_34 s89_34
   refine then_n <| aw_case s89_34 (fun hq_35 => ?_) (fun hq_35 => ?_)
   · replace hq_35 := bt hq_35; exfalso; omega
   replace hq_35 := bf hq_35
   refine aw_skip <| then_n <| aw_seq <| aw_seq <| at_ <| ar (ro_move s6_34) rfl <| ar (ro_move (up_m rfl s11_34)) rfl <| ar (ro_neq (up_m rfl up_h) up_h) rfl <| ar (ro_move up_h) rfl <| al_case up_h (fun hb_36 hq_36 => ?_) (fun hb_36 hq_36 => ?_)
   · replace hq_36 := bnt hq_36; exfalso; omega
   replace hq_36 := bnf hq_36
   refine al_ro' (ro_eq (ro_ld_ptr y64_ty26 rfl mo2_32 (u4 rfl s5_34) (nle rfl)) (by simp only [pS, Value.cells, Nat.reduceAdd] <;> rfl)) ⟨_, rfl, hb_36⟩ rfl ?_
   refine al_ro' (ro_eq (ro_ld_ptr y64_ty26 rfl mo5_32 (up_m rfl (u4 rfl s12_34)) (nle rfl)) (by simp only [pS, Value.cells, Nat.reduceAdd] <;> rfl)) ⟨_, rfl, (up_m rfl hb_36)⟩ rfl ?_
   refine al_ro' (ro_call (evL_cons (up_m rfl up_h) (evL_cons up_h evL_nil)) rfl (same_none) y64_hcf34) ⟨_, rfl, (u2 rfl hb_36)⟩ rfl ?_
   refine al_ro' (ro_not up_h) ⟨_, rfl, (up_m rfl (u2 rfl hb_36))⟩ rfl ?_
   refine ar (ro_pickF (u4 rfl hb_36) up_h) rfl <| ae5 (up_m rfl (u8 rfl s2_34)) (up_m rfl (u8 rfl s3_34)) (up_m rfl (u8 rfl s5_34)) (up_m rfl (u8 rfl s11_34)) up_h ?_; clear hb_36 s11_34 s12_34 s2_34 s3_34 s5_34 s6_34 s89_34; intro e_40 s2_40 s3_40 s5_40 s11_40 s107_40
   refine then_n <| aw_case s107_40 (fun hq_41 => ?_) (fun hq_41 => ?_)
   · cases hq_41
   replace hq_41 := bf' hq_41
   refine aw_skip <| then_n <| aw_seq <| aw_seq <| at_ <| ar (ro_move s11_40) rfl <| ar (ro_neq up_h ev_c) rfl <| ae4 (u2 rfl s2_40) (u2 rfl s3_40) (u2 rfl s5_40) up_h ?_; clear s107_40 s11_40 s2_40 s3_40 s5_40; intro e_43 s2_43 s3_43 s5_43 s109_43
   refine then_n <| aw_case s109_43 (fun hq_44 => ?_) (fun hq_44 => ?_)
   ·replace hq_44 := bnt hq_44
    refine aw_seq <| at_ <| ar (ro_assign ev_c) rfl <| ae1 up_h ?_; clear s109_43 s2_43 s3_43 s5_43; intro e_45 s4_45
    refine then_n <| aw_ret <| then_r <| ret1 (.inr rfl) (by kernel_rfl) (resV_tmp s4_45) (.ro _ rfl) ?_
    clear s4_45 mo5_32 mo4_32 mo3_32 mo2_32 mo1_32 mo0_32 ml_32
    first | rfl | simp_all
   · replace hq_44 := bnf hq_44; exfalso; omega
  · cases hq_23
set_option maxRecDepth 100000 in
set_option maxHeartbeats 4000000 in
theorem lineSurveys_missIn (l : Lin) (hf : fewL l = true) (hg : (linM l).2 = 0) (n a b y : Int) (hm : misE n 0 (l.js.length - 1) ≠ 0) (hy : withinB y 0 100 = true) : FnOk Try.prog 6 [lnA l, .agg [mA n, mA a, mA b, mA y]] (fun q => q = tbA true) := by
  refine fnOk_of (fn := Try.f6) 143 (by kernel_rfl) rfl (by kernel_rfl) (Nat.le_of_ble_eq_true rfl) ?_
  intro e_0 m_0 hA hm_0
  have s0_0 : evA e_0 (.tmp 0) = _ := hA 0 _ rfl
  have s1_0 : evA e_0 (.tmp 1) = _ := hA 1 _ rfl
  have ml_0 : m_0.length = 0 := by rw [hm_0]; rfl
  clear hA hm_0
  have hl := fewL_sho hf; have hr := rgt_of hg; have hy2 := withinB_iff.1 hy
  refine aw_seq <| at_ <| al_stm (st_box s0_0 rfl ml_0) trivial rfl (fun m_1 hm_1 => ?_)
  have mo0_1 := m_push hm_1 ml_0
  have ml_1 := m_push_l hm_1 ml_0
  have ml_1 : _ = 1 := ml_1
  clear hm_1
  refine al_stm (st_box (up_m rfl s1_0) rfl ml_1) trivial rfl (fun m_2 hm_2 => ?_)
  have mo1_2 := m_push hm_2 ml_1
  have mo0_2 := m_push_o hm_2 mo0_1
  have ml_2 := m_push_l hm_2 ml_1
  have ml_2 : _ = 2 := ml_2
  clear hm_2 mo0_1
  refine ar (ro_assign ev_c) rfl <| ae2 (u2 rfl up_h) (up_m rfl up_h) ?_; clear s0_0 s1_0; intro e_3 s2_3 s3_3
  refine then_n <| aw_seq <| aw_seq <| at_ <| ar (ro_call evL_nil rfl (awake_ok) y64_hcf12) rfl <| ar (ro_not up_h) rfl <| ae3 (u2 rfl s2_3) (u2 rfl s3_3) up_h ?_; clear s2_3 s3_3; intro e_4 s2_4 s3_4 s16_4
  refine then_n <| aw_case s16_4 (fun hq_5 => ?_) (fun hq_5 => ?_)
  · cases hq_5
  replace hq_5 := bf' hq_5
  refine aw_skip <| then_n <| aw_seq <| aw_seq <| at_ <| ar (ro_eq (ro_ld_ptr y64_ty26 rfl mo0_2 s2_4 (nle rfl)) (by simp only [pS, Value.cells, Nat.reduceAdd] <;> rfl)) rfl ?_
  refine ar (ro_call (evL_cons up_h evL_nil) rfl ((fewL_ok l).mono (fun q h => h.trans (by rw [hf]))) y64_hcf13) rfl ?_
  refine ar (ro_not up_h) rfl <| ae3 (up_m rfl (u2 rfl s2_4)) (up_m rfl (u2 rfl s3_4)) up_h ?_; clear s16_4 s2_4 s3_4; intro e_6 s2_6 s3_6 s19_6
  refine then_n <| aw_case s19_6 (fun hq_7 => ?_) (fun hq_7 => ?_)
  · cases hq_7
  replace hq_7 := bf' hq_7
  refine aw_skip <| then_n <| aw_seq <| aw_drawK 12 1 ml_2 (by kernel_rfl) (by kernel_rfl) (by kernel_rfl) (by kernel_rfl) (fun m_8 hm_8 => ?_)
  have mo1_8 := m_room_o hm_8 mo1_2
  have mo0_8 := m_room_o hm_8 mo0_2
  have mo2_8 : m_8[2]? = _ := m_room_g hm_8 ml_2 0 rfl rfl
  have ml_8 : _ = 3 := m_room_l (K := 1) hm_8 ml_2
  clear hm_8 mo1_2 mo0_2 ml_2
  refine dh_ld (0) (fun M_ hM_ => (ro_eq (ro_ld_ptr y64_ty26 rfl (agr hM_ mo0_8 (by simp)) s2_6 (nle rfl)) (by simp only [pS, Value.cells, Nat.reduceAdd] <;> rfl))) trivial trivial ?_
  refine dh_ro (fun M_ hM_ => (ro_call (evL_cons up_h evL_nil) rfl (yCopy_ok l hl) y64_hcf18)) trivial ?_
  refine dh_ro (fun M_ hM_ => (ro_fld_ptr y64_fl61_0 rfl (u2 rfl s3_6))) trivial ?_
  refine dh_ld (1) (fun M_ hM_ => (ro_eq (ro_ld_ptr y64_ty3 rfl (agr hM_ mo1_8 (by simp)) up_h (nle rfl)) (by simp only [pS, Value.cells, Nat.reduceAdd] <;> rfl))) trivial trivial ?_
  refine dh_ro (fun M_ hM_ => (ro_fld_ptr y64_fl61_1 rfl (u4 rfl s3_6))) trivial ?_
  refine dh_ld (1) (fun M_ hM_ => (ro_eq (ro_ld_ptr y64_ty39 rfl (agr hM_ mo1_8 (by simp)) up_h (nle rfl)) (by simp only [pS, Value.cells, Nat.reduceAdd] <;> rfl))) trivial trivial ?_
  refine dh_ro (fun M_ hM_ => (ro_call (evL_cons (u4 rfl up_h) (evL_cons (u2 rfl up_h) (evL_cons up_h evL_nil))) rfl (surveyed_miss l hl hg n a b hm) y64_hcf32)) trivial ?_
  refine dh_ro (fun M_ hM_ => (ro_move up_h)) trivial ?_
  refine dh_ro (fun M_ hM_ => (ro_extract up_h rfl)) trivial ?_
  refine dh_ro (fun M_ hM_ => (ro_extract (up_m rfl up_h) rfl)) trivial ?_
  refine dh_nw (2) (fun M_ hM_ => (nw_alloc y64_az26 rfl)) trivial mo2_8 rfl trivial ⟨.inl (by simp <;> omega), ⟨.inl (by simp <;> omega), ⟨.inl (by simp <;> omega), trivial⟩⟩⟩ (fun m_9 hm_9 => ?_)
  have mo2_9 := m_set hm_9 mo2_8
  simp only [pS, Value.cells, Nat.reduceAdd] at mo2_9
  have mo1_9 := m_set_o hm_9 mo1_8 (by decide)
  have mo0_9 := m_set_o hm_9 mo0_8 (by decide)
  have ml_9 := m_set_l hm_9 ml_8
  clear hm_9 mo1_8 mo0_8 mo2_8
  refine dh_set (2) (fun M_ hM_ => (se_store up_h (u2 rfl up_h) rfl rfl (agr hM_ mo2_9 (by simp)) y64_sz26 rfl (nle rfl))) trivial ⟨.inr (wt_one 11 10 (by kernel_rfl)), trivial⟩ ⟨.inl (by simp <;> omega), ⟨.inl (by simp <;> omega), ⟨.inl (by simp <;> omega), ⟨.inr (wt_one 11 10 (by kernel_rfl)), trivial⟩⟩⟩⟩ (fun m_10 hm_10 => ?_)
  have mo2_10 := m_set hm_10 mo2_9
  simp only [pS, Value.cells, Nat.reduceAdd] at mo2_10
  have mo1_10 := m_set_o hm_10 mo1_9 (by decide)
  have mo0_10 := m_set_o hm_10 mo0_9 (by decide)
  have ml_10 := m_set_l hm_10 ml_9
  clear hm_10 mo2_9 mo1_9 mo0_9
  refine dh_nil rfl ?_
  refine ar (ro_assign (up_n (up_m rfl up_h))) rfl <| ae4 (up_m rfl (up_n (up_m rfl (u2 rfl (u8 rfl s2_6))))) (up_m rfl (up_n (up_m rfl (u2 rfl (u8 rfl s3_6))))) (up_m rfl (up_n up_h)) up_h ?_; clear s19_6 s2_6 s3_6; intro e_11 s2_11 s3_11 s5_11 s6_11
  refine then_n <| aw_seq <| aw_drawK 10 1 ml_10 (by kernel_rfl) (by kernel_rfl) (by kernel_rfl) (by kernel_rfl) (fun m_12 hm_12 => ?_)
  have mo2_12 := m_room_o hm_12 mo2_10
  have mo1_12 := m_room_o hm_12 mo1_10
  have mo0_12 := m_room_o hm_12 mo0_10
  have mo3_12 : m_12[3]? = _ := m_room_g hm_12 ml_10 0 rfl rfl
  have ml_12 : _ = 4 := m_room_l (K := 1) hm_12 ml_10
  clear hm_12 mo2_10 mo1_10 mo0_10 ml_10
  refine dh_ld (0) (fun M_ hM_ => (ro_eq (ro_ld_ptr y64_ty26 rfl (agr hM_ mo0_12 (by simp)) s2_11 (nle rfl)) (by simp only [pS, Value.cells, Nat.reduceAdd] <;> rfl))) trivial trivial ?_
  refine dh_ro (fun M_ hM_ => (ro_call (evL_cons up_h evL_nil) rfl (yCopy_ok l hl) y64_hcf18)) trivial ?_
  refine dh_ro (fun M_ hM_ => (ro_fld_ptr y64_fl61_2 rfl (u2 rfl s3_11))) trivial ?_
  refine dh_ld (1) (fun M_ hM_ => (ro_eq (ro_ld_ptr y64_ty3 rfl (agr hM_ mo1_12 (by simp)) up_h (nle rfl)) (by simp only [pS, Value.cells, Nat.reduceAdd] <;> rfl))) trivial trivial ?_
  refine dh_ro (fun M_ hM_ => (ro_call (evL_cons (u2 rfl up_h) (evL_cons up_h evL_nil)) rfl (warmed_in l hl hg y hy) y64_hcf33)) trivial ?_
  refine dh_ro (fun M_ hM_ => (ro_move up_h)) trivial ?_
  refine dh_ro (fun M_ hM_ => (ro_extract up_h rfl)) trivial ?_
  refine dh_ro (fun M_ hM_ => (ro_extract (up_m rfl up_h) rfl)) trivial ?_
  refine dh_nw (3) (fun M_ hM_ => (nw_alloc y64_az26 rfl)) trivial mo3_12 rfl trivial ⟨.inl (by simp <;> omega), ⟨.inl (by simp <;> omega), trivial⟩⟩ (fun m_13 hm_13 => ?_)
  have mo3_13 := m_set hm_13 mo3_12
  simp only [pS, Value.cells, Nat.reduceAdd] at mo3_13
  have mo2_13 := m_set_o hm_13 mo2_12 (by decide)
  have mo1_13 := m_set_o hm_13 mo1_12 (by decide)
  have mo0_13 := m_set_o hm_13 mo0_12 (by decide)
  have ml_13 := m_set_l hm_13 ml_12
  clear hm_13 mo2_12 mo1_12 mo0_12 mo3_12
  refine dh_set (3) (fun M_ hM_ => (se_store up_h (u2 rfl up_h) rfl rfl (agr hM_ mo3_13 (by simp)) y64_sz26 rfl (nle rfl))) trivial ⟨.inr (wt_one 9 8 (by kernel_rfl)), trivial⟩ ⟨.inl (by simp <;> omega), ⟨.inl (by simp <;> omega), ⟨.inr (wt_one 9 8 (by kernel_rfl)), trivial⟩⟩⟩ (fun m_14 hm_14 => ?_)
  have mo3_14 := m_set hm_14 mo3_13
  simp only [pS, Value.cells, Nat.reduceAdd] at mo3_14
  have mo2_14 := m_set_o hm_14 mo2_13 (by decide)
  have mo1_14 := m_set_o hm_14 mo1_13 (by decide)
  have mo0_14 := m_set_o hm_14 mo0_13 (by decide)
  have ml_14 := m_set_l hm_14 ml_13
  clear hm_14 mo3_13 mo2_13 mo1_13 mo0_13
  refine dh_nil rfl ?_
  refine ar (ro_assign (up_n (up_m rfl up_h))) rfl <| ae6 (up_m rfl (up_n (up_m rfl (u8 rfl s2_11)))) (up_m rfl (up_n (up_m rfl (u8 rfl s3_11)))) (up_m rfl (up_n (up_m rfl (u8 rfl s5_11)))) (up_m rfl (up_n (up_m rfl (u8 rfl s6_11)))) (up_m rfl (up_n up_h)) up_h ?_; clear s2_11 s3_11 s5_11 s6_11; intro e_15 s2_15 s3_15 s5_15 s6_15 s7_15 s8_15
  refine then_n <| aw_seq <| at_ <| ar (ro_build evP_nil y64_bz26 y64_bu26 y64_bp26 rfl) rfl ?_
  refine al_stm (st_alloc y64_az26 rfl ml_14) trivial rfl (fun m_16 hm_16 => ?_)
  have mo4_16 := m_push hm_16 ml_14
  simp only [pS, Value.cells, Nat.reduceAdd] at mo4_16
  have mo3_16 := m_push_o hm_16 mo3_14
  have mo2_16 := m_push_o hm_16 mo2_14
  have mo1_16 := m_push_o hm_16 mo1_14
  have mo0_16 := m_push_o hm_16 mo0_14
  have ml_16 := m_push_l hm_16 ml_14
  have ml_16 : _ = 5 := ml_16
  clear hm_16 mo3_14 mo2_14 mo1_14 mo0_14
  refine al_stm (st_store up_h (up_m rfl up_h) rfl rfl mo4_16 y64_sz26 rfl (nle rfl)) trivial rfl (fun m_17 hm_17 => ?_)
  have mo4_17 := m_set hm_17 mo4_16
  simp only [pS, Value.cells, Nat.reduceAdd] at mo4_17
  have mo3_17 := m_set_o hm_17 mo3_16 (by decide)
  have mo2_17 := m_set_o hm_17 mo2_16 (by decide)
  have mo1_17 := m_set_o hm_17 mo1_16 (by decide)
  have mo0_17 := m_set_o hm_17 mo0_16 (by decide)
  have ml_17 := m_set_l hm_17 ml_16
  clear hm_17 mo4_16 mo3_16 mo2_16 mo1_16 mo0_16
  refine ae7 (up_n (u2 rfl s2_15)) (up_n (u2 rfl s3_15)) (up_n (u2 rfl s5_15)) (up_n (u2 rfl s6_15)) (up_n (u2 rfl s7_15)) (up_n (u2 rfl s8_15)) (up_n up_h) ?_; clear s2_15 s3_15 s5_15 s6_15 s7_15 s8_15; intro e_18 s2_18 s3_18 s5_18 s6_18 s7_18 s8_18 s9_18
  refine then_n <| aw_seq <| aw_seq <| at_ <| ar (ro_eq (ro_ld_ptr y64_ty26 rfl mo0_17 s2_18 (nle rfl)) (by simp only [pS, Value.cells, Nat.reduceAdd] <;> rfl)) rfl ?_
  refine ar (ro_call (evL_cons up_h evL_nil) rfl (lineErr_ok l hl) y64_hcf14) rfl <| ar (ro_assign up_h) rfl <| ae8 (up_m rfl (u2 rfl s2_18)) (up_m rfl (u2 rfl s3_18)) (up_m rfl (u2 rfl s5_18)) (up_m rfl (u2 rfl s6_18)) (up_m rfl (u2 rfl s7_18)) (up_m rfl (u2 rfl s8_18)) (up_m rfl (u2 rfl s9_18)) up_h ?_; clear s2_18 s3_18 s5_18 s6_18 s7_18 s8_18 s9_18; intro e_19 s2_19 s3_19 s5_19 s6_19 s7_19 s8_19 s9_19 s10_19
  refine then_n <| aw_seq <| at_ <| ar (ro_move s10_19) rfl <| ar (ro_neq up_h ev_c) rfl <| ae9 (u2 rfl s2_19) (u2 rfl s3_19) (u2 rfl s5_19) (u2 rfl s6_19) (u2 rfl s7_19) (u2 rfl s8_19) (u2 rfl s9_19) (u2 rfl s10_19) up_h ?_; clear s10_19 s2_19 s3_19 s5_19 s6_19 s7_19 s8_19 s9_19; intro e_20 s2_20 s3_20 s5_20 s6_20 s7_20 s8_20 s9_20 s10_20 s42_20
  refine then_n <| aw_case s42_20 (fun hq_21 => ?_) (fun hq_21 => ?_)
  · replace hq_21 := bnt hq_21; exfalso; omega
  replace hq_21 := bnf hq_21
  refine aw_skip <| then_n <| aw_seq <| aw_seq <| at_ <| ar (ro_fld_ptr y64_fl61_2 rfl s3_20) rfl <| ar (ro_eq (ro_ld_ptr y64_ty3 rfl mo1_17 up_h (nle rfl)) (by simp only [pS, Value.cells, Nat.reduceAdd] <;> rfl)) rfl ?_
  refine ar (ro_call (evL_cons up_h (evL_cons ev_c (evL_cons ev_c evL_nil))) rfl ((bWithin_ok _ _ _).mono (fun q h => show q = tbA true from h.trans (by rw [hy]))) y64_hcf30) rfl ?_
  refine ar (ro_not up_h) rfl <| ae8 (u4 rfl s2_20) (u4 rfl s3_20) (u4 rfl s5_20) (u4 rfl s6_20) (u4 rfl s7_20) (u4 rfl s8_20) (u4 rfl s9_20) up_h ?_; clear s10_20 s2_20 s3_20 s42_20 s5_20 s6_20 s7_20 s8_20 s9_20; intro e_22 s2_22 s3_22 s5_22 s6_22 s7_22 s8_22 s9_22 s64_22
  refine then_n <| aw_case s64_22 (fun hq_23 => ?_) (fun hq_23 => ?_)
  · cases hq_23
  replace hq_23 := bf' hq_23
  refine aw_seq <| aw_draw 11 (by kernel_rfl) (by kernel_rfl) (by kernel_rfl) (by kernel_rfl) ?_
  refine dr (ro_move s8_22) rfl <| dr (ro_neq up_h ev_c) rfl <| dr (ro_move up_h) rfl <| ds_case up_h (fun hb_24 hq_24 => ?_) (fun hb_24 hq_24 => ?_)
  · cases hq_24
  replace hq_24 := bnf hq_24
  refine ds_ro' (ro_eq (ro_ld_ptr y64_ty26 rfl mo3_17 (up_m rfl (u2 rfl s7_22)) (nle rfl)) (by simp only [pS, Value.cells, Nat.reduceAdd] <;> rfl)) ⟨_, rfl, hb_24⟩ rfl ?_
  refine ds_ro' (ro_eq (ro_ld_ptr y64_ty26 rfl mo0_17 (u4 rfl s2_22) (nle rfl)) (by simp only [pS, Value.cells, Nat.reduceAdd] <;> rfl)) ⟨_, rfl, (up_m rfl hb_24)⟩ rfl ?_
  refine ds_ro' (ro_fld_ptr y64_fl61_2 rfl (up_m rfl (u4 rfl s3_22))) ⟨_, rfl, (u2 rfl hb_24)⟩ rfl ?_
  refine ds_ro' (ro_eq (ro_ld_ptr y64_ty3 rfl mo1_17 up_h (nle rfl)) (by simp only [pS, Value.cells, Nat.reduceAdd] <;> rfl)) ⟨_, rfl, (up_m rfl (u2 rfl hb_24))⟩ rfl ?_
  refine ds_ro' (ro_call (evL_cons (u2 rfl up_h) (evL_cons up_h evL_nil)) rfl (rWarmed_ok l hl hr y hy2) y64_hcf35) ⟨_, rfl, (u4 rfl hb_24)⟩ rfl ?_
  refine ds_ro' (ro_call (evL_cons (u4 rfl up_h) (evL_cons up_h evL_nil)) rfl (same_refl _ (warL_sho hl y)) y64_hcf34) ⟨_, rfl, (up_m rfl (u4 rfl hb_24))⟩ rfl ?_
  refine ds_ro' (ro_not up_h) ⟨_, rfl, (u2 rfl (u4 rfl hb_24))⟩ rfl ?_
  refine dr (ro_pickF (up_m rfl (u2 rfl (u4 rfl hb_24))) up_h) rfl <| ds_nil <| ae5 (up_m rfl (u2 rfl (u8 rfl s2_22))) (up_m rfl (u2 rfl (u8 rfl s3_22))) (up_m rfl (u2 rfl (u8 rfl s5_22))) (up_m rfl (u2 rfl (u8 rfl s6_22))) up_h ?_; clear hb_24 s2_22 s3_22 s5_22 s64_22 s6_22 s7_22 s8_22 s9_22; intro e_28 s2_28 s3_28 s5_28 s6_28 s83_28
  refine then_n <| aw_case s83_28 (fun hq_29 => ?_) (fun hq_29 => ?_)
  · cases hq_29
  replace hq_29 := bf' hq_29
  refine aw_skip <| then_n <| aw_seq <| at_ <| ar (ro_eq (ro_ld_ptr y64_ty26 rfl mo0_17 s2_28 (nle rfl)) (by simp only [pS, Value.cells, Nat.reduceAdd] <;> rfl)) rfl ?_
  refine ar (ro_fld_ptr y64_fl61_0 rfl (up_m rfl s3_28)) rfl <| ar (ro_eq (ro_ld_ptr y64_ty3 rfl mo1_17 up_h (nle rfl)) (by simp only [pS, Value.cells, Nat.reduceAdd] <;> rfl)) rfl ?_
  refine ar (ro_call (evL_cons (u2 rfl up_h) (evL_cons up_h evL_nil)) rfl (jointErr_ok l hl n) y64_hcf36) rfl <| ar (ro_assign up_h) rfl <| ae5 (up_m rfl (u4 rfl s2_28)) (up_m rfl (u4 rfl s3_28)) (up_m rfl (u4 rfl s5_28)) (up_m rfl (u4 rfl s6_28)) up_h ?_; clear s2_28 s3_28 s5_28 s6_28 s83_28; intro e_31 s2_31 s3_31 s5_31 s6_31 s11_31
  refine then_n <| aw_seq <| at_ <| al_stm (st_alloc y64_az26 rfl ml_17) trivial rfl (fun m_32 hm_32 => ?_)
  have mo5_32 := m_push hm_32 ml_17
  simp only [pS, Value.cells, Nat.reduceAdd] at mo5_32
  have mo4_32 := m_push_o hm_32 mo4_17
  have mo3_32 := m_push_o hm_32 mo3_17
  have mo2_32 := m_push_o hm_32 mo2_17
  have mo1_32 := m_push_o hm_32 mo1_17
  have mo0_32 := m_push_o hm_32 mo0_17
  have ml_32 := m_push_l hm_32 ml_17
  have ml_32 : _ = 6 := ml_32
  clear hm_32 mo4_17 mo3_17 mo2_17 mo1_17 mo0_17
  refine ae6 (up_m rfl s2_31) (up_m rfl s3_31) (up_m rfl s5_31) (up_m rfl s6_31) (up_m rfl s11_31) up_h ?_; clear s11_31 s2_31 s3_31 s5_31 s6_31; intro e_33 s2_33 s3_33 s5_33 s6_33 s11_33 s12_33
  refine then_n <| aw_seq <| aw_seq <| at_ <| ar (ro_move s11_33) rfl <| ar (ro_eql up_h ev_c) rfl ?_
  refine ae7 (u2 rfl s2_33) (u2 rfl s3_33) (u2 rfl s5_33) (u2 rfl s6_33) (u2 rfl s11_33) (u2 rfl s12_33) up_h ?_; clear s11_33 s12_33 s2_33 s3_33 s5_33 s6_33; intro e_34 s2_34 s3_34 s5_34 s6_34 s11_34 s12_34 s89_34
  refine then_n <| aw_case s89_34 (fun hq_35 => ?_) (fun hq_35 => ?_)
  · replace hq_35 := bt hq_35; exfalso; omega
  replace hq_35 := bf hq_35
  refine aw_skip <| then_n <| aw_seq <| aw_seq <| at_ <| ar (ro_move s6_34) rfl <| ar (ro_move (up_m rfl s11_34)) rfl <| ar (ro_neq (up_m rfl up_h) up_h) rfl <| ar (ro_move up_h) rfl <| al_case up_h (fun hb_36 hq_36 => ?_) (fun hb_36 hq_36 => ?_)
  · replace hq_36 := bnt hq_36; exfalso; omega
  replace hq_36 := bnf hq_36
  refine al_ro' (ro_eq (ro_ld_ptr y64_ty26 rfl mo2_32 (u4 rfl s5_34) (nle rfl)) (by simp only [pS, Value.cells, Nat.reduceAdd] <;> rfl)) ⟨_, rfl, hb_36⟩ rfl ?_
  refine al_ro' (ro_eq (ro_ld_ptr y64_ty26 rfl mo5_32 (up_m rfl (u4 rfl s12_34)) (nle rfl)) (by simp only [pS, Value.cells, Nat.reduceAdd] <;> rfl)) ⟨_, rfl, (up_m rfl hb_36)⟩ rfl ?_
  refine al_ro' (ro_call (evL_cons (up_m rfl up_h) (evL_cons up_h evL_nil)) rfl (same_none) y64_hcf34) ⟨_, rfl, (u2 rfl hb_36)⟩ rfl ?_
  refine al_ro' (ro_not up_h) ⟨_, rfl, (up_m rfl (u2 rfl hb_36))⟩ rfl ?_
  refine ar (ro_pickF (u4 rfl hb_36) up_h) rfl <| ae5 (up_m rfl (u8 rfl s2_34)) (up_m rfl (u8 rfl s3_34)) (up_m rfl (u8 rfl s5_34)) (up_m rfl (u8 rfl s11_34)) up_h ?_; clear hb_36 s11_34 s12_34 s2_34 s3_34 s5_34 s6_34 s89_34; intro e_40 s2_40 s3_40 s5_40 s11_40 s107_40
  refine then_n <| aw_case s107_40 (fun hq_41 => ?_) (fun hq_41 => ?_)
  · cases hq_41
  replace hq_41 := bf' hq_41
  refine aw_skip <| then_n <| aw_seq <| aw_seq <| at_ <| ar (ro_move s11_40) rfl <| ar (ro_neq up_h ev_c) rfl <| ae4 (u2 rfl s2_40) (u2 rfl s3_40) (u2 rfl s5_40) up_h ?_; clear s107_40 s11_40 s2_40 s3_40 s5_40; intro e_43 s2_43 s3_43 s5_43 s109_43
  refine then_n <| aw_case s109_43 (fun hq_44 => ?_) (fun hq_44 => ?_)
  ·replace hq_44 := bnt hq_44
   refine aw_seq <| at_ <| ar (ro_assign ev_c) rfl <| ae1 up_h ?_; clear s109_43 s2_43 s3_43 s5_43; intro e_45 s4_45
   refine then_n <| aw_ret <| then_r <| ret1 (.inr rfl) (by kernel_rfl) (resV_tmp s4_45) (.ro _ rfl) ?_
   clear s4_45 mo5_32 mo4_32 mo3_32 mo2_32 mo1_32 mo0_32 ml_32
   first | rfl | simp_all
  · replace hq_44 := bnf hq_44; exfalso; omega
set_option maxRecDepth 100000 in
set_option maxHeartbeats 4000000 in
theorem lineSurveys_far (l : Lin) (hf : fewL l = true) (hg : (linM l).2 = 0) (n a b y : Int) (hm : misE n 0 (l.js.length - 1) = 0) (hy : withinB y 0 100 = false) (A : Lin) (d : Int) (hA : Sho A) (hS : surA l n.toNat a b = .tuple [lnA A, mA d]) (hd : d = 0 → n.toNat < A.js.length ∧ (l.js.getD n.toNat default).lo ≤ (A.js.getD n.toNat default).lo ∧ (A.js.getD n.toNat default).lo ≤ (A.js.getD n.toNat default).hi ∧ (A.js.getD n.toNat default).hi ≤ (l.js.getD n.toNat default).hi) : FnOk Try.prog 6 [lnA l, .agg [mA n, mA a, mA b, mA y]] (fun q => q = tbA true) := by
  refine fnOk_of (fn := Try.f6) 143 (by kernel_rfl) rfl (by kernel_rfl) (Nat.le_of_ble_eq_true rfl) ?_
  intro e_0 m_0 hA hm_0
  have s0_0 : evA e_0 (.tmp 0) = _ := hA 0 _ rfl
  have s1_0 : evA e_0 (.tmp 1) = _ := hA 1 _ rfl
  have ml_0 : m_0.length = 0 := by rw [hm_0]; rfl
  clear hA hm_0
  have hl := fewL_sho hf; have hr := rgt_of hg; have hm2 := misE_z.1 hm; have hjs := hr.js
  refine aw_seq <| at_ <| al_stm (st_box s0_0 rfl ml_0) trivial rfl (fun m_1 hm_1 => ?_)
  have mo0_1 := m_push hm_1 ml_0
  have ml_1 := m_push_l hm_1 ml_0
  have ml_1 : _ = 1 := ml_1
  clear hm_1
  refine al_stm (st_box (up_m rfl s1_0) rfl ml_1) trivial rfl (fun m_2 hm_2 => ?_)
  have mo1_2 := m_push hm_2 ml_1
  have mo0_2 := m_push_o hm_2 mo0_1
  have ml_2 := m_push_l hm_2 ml_1
  have ml_2 : _ = 2 := ml_2
  clear hm_2 mo0_1
  refine ar (ro_assign ev_c) rfl <| ae2 (u2 rfl up_h) (up_m rfl up_h) ?_; clear s0_0 s1_0; intro e_3 s2_3 s3_3
  refine then_n <| aw_seq <| aw_seq <| at_ <| ar (ro_call evL_nil rfl (awake_ok) y64_hcf12) rfl <| ar (ro_not up_h) rfl <| ae3 (u2 rfl s2_3) (u2 rfl s3_3) up_h ?_; clear s2_3 s3_3; intro e_4 s2_4 s3_4 s16_4
  refine then_n <| aw_case s16_4 (fun hq_5 => ?_) (fun hq_5 => ?_)
  · cases hq_5
  replace hq_5 := bf' hq_5
  refine aw_skip <| then_n <| aw_seq <| aw_seq <| at_ <| ar (ro_eq (ro_ld_ptr y64_ty26 rfl mo0_2 s2_4 (nle rfl)) (by simp only [pS, Value.cells, Nat.reduceAdd, jnE] <;> rfl)) rfl ?_
  refine ar (ro_call (evL_cons up_h evL_nil) rfl ((fewL_ok l).mono (fun q h => h.trans (by rw [hf]))) y64_hcf13) rfl ?_
  refine ar (ro_not up_h) rfl <| ae3 (up_m rfl (u2 rfl s2_4)) (up_m rfl (u2 rfl s3_4)) up_h ?_; clear s16_4 s2_4 s3_4; intro e_6 s2_6 s3_6 s19_6
  refine then_n <| aw_case s19_6 (fun hq_7 => ?_) (fun hq_7 => ?_)
  · cases hq_7
  replace hq_7 := bf' hq_7
  refine aw_skip <| then_n <| aw_seq <| aw_drawK 12 1 ml_2 (by kernel_rfl) (by kernel_rfl) (by kernel_rfl) (by kernel_rfl) (fun m_8 hm_8 => ?_)
  have mo1_8 := m_room_o hm_8 mo1_2
  have mo0_8 := m_room_o hm_8 mo0_2
  have mo2_8 : m_8[2]? = _ := m_room_g hm_8 ml_2 0 rfl rfl
  have ml_8 : _ = 3 := m_room_l (K := 1) hm_8 ml_2
  clear hm_8 mo1_2 mo0_2 ml_2
  refine dh_ld (0) (fun M_ hM_ => (ro_eq (ro_ld_ptr y64_ty26 rfl (agr hM_ mo0_8 (by simp)) s2_6 (nle rfl)) (by simp only [pS, Value.cells, Nat.reduceAdd, jnE] <;> rfl))) trivial trivial ?_
  refine dh_ro (fun M_ hM_ => (ro_call (evL_cons up_h evL_nil) rfl (yCopy_ok l hl) y64_hcf18)) trivial ?_
  refine dh_ro (fun M_ hM_ => (ro_fld_ptr y64_fl61_0 rfl (u2 rfl s3_6))) trivial ?_
  refine dh_ld (1) (fun M_ hM_ => (ro_eq (ro_ld_ptr y64_ty3 rfl (agr hM_ mo1_8 (by simp)) up_h (nle rfl)) (by simp only [pS, Value.cells, Nat.reduceAdd, jnE] <;> rfl))) trivial trivial ?_
  refine dh_ro (fun M_ hM_ => (ro_fld_ptr y64_fl61_1 rfl (u4 rfl s3_6))) trivial ?_
  refine dh_ld (1) (fun M_ hM_ => (ro_eq (ro_ld_ptr y64_ty39 rfl (agr hM_ mo1_8 (by simp)) up_h (nle rfl)) (by simp only [pS, Value.cells, Nat.reduceAdd, jnE] <;> rfl))) trivial trivial ?_
  refine dh_ro (fun M_ hM_ => (ro_call (evL_cons (u4 rfl up_h) (evL_cons (u2 rfl up_h) (evL_cons up_h evL_nil))) rfl ((surveyed_in l hl hg n a b hm).mono (fun q h => h.trans hS)) y64_hcf32)) trivial ?_
  refine dh_ro (fun M_ hM_ => (ro_move up_h)) trivial ?_
  refine dh_ro (fun M_ hM_ => (ro_extract up_h rfl)) trivial ?_
  refine dh_ro (fun M_ hM_ => (ro_extract (up_m rfl up_h) rfl)) trivial ?_
  refine dh_nw (2) (fun M_ hM_ => (nw_alloc y64_az26 rfl)) trivial mo2_8 rfl trivial ⟨.inl (by simp <;> omega), ⟨.inl (by simp <;> omega), ⟨.inl (by simp <;> omega), trivial⟩⟩⟩ (fun m_9 hm_9 => ?_)
  have mo2_9 := m_set hm_9 mo2_8
  simp only [pS, Value.cells, Nat.reduceAdd, jnE] at mo2_9
  have mo1_9 := m_set_o hm_9 mo1_8 (by decide)
  have mo0_9 := m_set_o hm_9 mo0_8 (by decide)
  have ml_9 := m_set_l hm_9 ml_8
  clear hm_9 mo1_8 mo0_8 mo2_8
  refine dh_set (2) (fun M_ hM_ => (se_store up_h (u2 rfl up_h) rfl rfl (agr hM_ mo2_9 (by simp)) y64_sz26 rfl (nle rfl))) trivial ⟨.inr (wt_one 11 10 (by kernel_rfl)), trivial⟩ ⟨.inl (by simp <;> omega), ⟨.inl (by simp <;> omega), ⟨.inl (by simp <;> omega), ⟨.inr (wt_one 11 10 (by kernel_rfl)), trivial⟩⟩⟩⟩ (fun m_10 hm_10 => ?_)
  have mo2_10 := m_set hm_10 mo2_9
  simp only [pS, Value.cells, Nat.reduceAdd, jnE] at mo2_10
  have mo1_10 := m_set_o hm_10 mo1_9 (by decide)
  have mo0_10 := m_set_o hm_10 mo0_9 (by decide)
  have ml_10 := m_set_l hm_10 ml_9
  clear hm_10 mo2_9 mo1_9 mo0_9
  refine dh_nil rfl ?_
  refine ar (ro_assign (up_n (up_m rfl up_h))) rfl <| ae4 (up_m rfl (up_n (up_m rfl (u2 rfl (u8 rfl s2_6))))) (up_m rfl (up_n (up_m rfl (u2 rfl (u8 rfl s3_6))))) (up_m rfl (up_n up_h)) up_h ?_; clear s19_6 s2_6 s3_6; intro e_11 s2_11 s3_11 s5_11 s6_11
  refine then_n <| aw_seq <| aw_drawK 10 1 ml_10 (by kernel_rfl) (by kernel_rfl) (by kernel_rfl) (by kernel_rfl) (fun m_12 hm_12 => ?_)
  have mo2_12 := m_room_o hm_12 mo2_10
  have mo1_12 := m_room_o hm_12 mo1_10
  have mo0_12 := m_room_o hm_12 mo0_10
  have mo3_12 : m_12[3]? = _ := m_room_g hm_12 ml_10 0 rfl rfl
  have ml_12 : _ = 4 := m_room_l (K := 1) hm_12 ml_10
  clear hm_12 mo2_10 mo1_10 mo0_10 ml_10
  refine dh_ld (0) (fun M_ hM_ => (ro_eq (ro_ld_ptr y64_ty26 rfl (agr hM_ mo0_12 (by simp)) s2_11 (nle rfl)) (by simp only [pS, Value.cells, Nat.reduceAdd, jnE] <;> rfl))) trivial trivial ?_
  refine dh_ro (fun M_ hM_ => (ro_call (evL_cons up_h evL_nil) rfl (yCopy_ok l hl) y64_hcf18)) trivial ?_
  refine dh_ro (fun M_ hM_ => (ro_fld_ptr y64_fl61_2 rfl (u2 rfl s3_11))) trivial ?_
  refine dh_ld (1) (fun M_ hM_ => (ro_eq (ro_ld_ptr y64_ty3 rfl (agr hM_ mo1_12 (by simp)) up_h (nle rfl)) (by simp only [pS, Value.cells, Nat.reduceAdd, jnE] <;> rfl))) trivial trivial ?_
  refine dh_ro (fun M_ hM_ => (ro_call (evL_cons (u2 rfl up_h) (evL_cons up_h evL_nil)) rfl (warmed_far l hl hg y hy) y64_hcf33)) trivial ?_
  refine dh_ro (fun M_ hM_ => (ro_move up_h)) trivial ?_
  refine dh_ro (fun M_ hM_ => (ro_extract up_h rfl)) trivial ?_
  refine dh_ro (fun M_ hM_ => (ro_extract (up_m rfl up_h) rfl)) trivial ?_
  refine dh_nw (3) (fun M_ hM_ => (nw_alloc y64_az26 rfl)) trivial mo3_12 rfl trivial ⟨.inl (by simp <;> omega), ⟨.inl (by simp <;> omega), trivial⟩⟩ (fun m_13 hm_13 => ?_)
  have mo3_13 := m_set hm_13 mo3_12
  simp only [pS, Value.cells, Nat.reduceAdd, jnE] at mo3_13
  have mo2_13 := m_set_o hm_13 mo2_12 (by decide)
  have mo1_13 := m_set_o hm_13 mo1_12 (by decide)
  have mo0_13 := m_set_o hm_13 mo0_12 (by decide)
  have ml_13 := m_set_l hm_13 ml_12
  clear hm_13 mo2_12 mo1_12 mo0_12 mo3_12
  refine dh_set (3) (fun M_ hM_ => (se_store up_h (u2 rfl up_h) rfl rfl (agr hM_ mo3_13 (by simp)) y64_sz26 rfl (nle rfl))) trivial ⟨.inr (wt_one 9 8 (by kernel_rfl)), trivial⟩ ⟨.inl (by simp <;> omega), ⟨.inl (by simp <;> omega), ⟨.inr (wt_one 9 8 (by kernel_rfl)), trivial⟩⟩⟩ (fun m_14 hm_14 => ?_)
  have mo3_14 := m_set hm_14 mo3_13
  simp only [pS, Value.cells, Nat.reduceAdd, jnE] at mo3_14
  have mo2_14 := m_set_o hm_14 mo2_13 (by decide)
  have mo1_14 := m_set_o hm_14 mo1_13 (by decide)
  have mo0_14 := m_set_o hm_14 mo0_13 (by decide)
  have ml_14 := m_set_l hm_14 ml_13
  clear hm_14 mo3_13 mo2_13 mo1_13 mo0_13
  refine dh_nil rfl ?_
  refine ar (ro_assign (up_n (up_m rfl up_h))) rfl <| ae6 (up_m rfl (up_n (up_m rfl (u8 rfl s2_11)))) (up_m rfl (up_n (up_m rfl (u8 rfl s3_11)))) (up_m rfl (up_n (up_m rfl (u8 rfl s5_11)))) (up_m rfl (up_n (up_m rfl (u8 rfl s6_11)))) (up_m rfl (up_n up_h)) up_h ?_; clear s2_11 s3_11 s5_11 s6_11; intro e_15 s2_15 s3_15 s5_15 s6_15 s7_15 s8_15
  refine then_n <| aw_seq <| at_ <| ar (ro_build evP_nil y64_bz26 y64_bu26 y64_bp26 rfl) rfl ?_
  refine al_stm (st_alloc y64_az26 rfl ml_14) trivial rfl (fun m_16 hm_16 => ?_)
  have mo4_16 := m_push hm_16 ml_14
  simp only [pS, Value.cells, Nat.reduceAdd, jnE] at mo4_16
  have mo3_16 := m_push_o hm_16 mo3_14
  have mo2_16 := m_push_o hm_16 mo2_14
  have mo1_16 := m_push_o hm_16 mo1_14
  have mo0_16 := m_push_o hm_16 mo0_14
  have ml_16 := m_push_l hm_16 ml_14
  have ml_16 : _ = 5 := ml_16
  clear hm_16 mo3_14 mo2_14 mo1_14 mo0_14
  refine al_stm (st_store up_h (up_m rfl up_h) rfl rfl mo4_16 y64_sz26 rfl (nle rfl)) trivial rfl (fun m_17 hm_17 => ?_)
  have mo4_17 := m_set hm_17 mo4_16
  simp only [pS, Value.cells, Nat.reduceAdd, jnE] at mo4_17
  have mo3_17 := m_set_o hm_17 mo3_16 (by decide)
  have mo2_17 := m_set_o hm_17 mo2_16 (by decide)
  have mo1_17 := m_set_o hm_17 mo1_16 (by decide)
  have mo0_17 := m_set_o hm_17 mo0_16 (by decide)
  have ml_17 := m_set_l hm_17 ml_16
  clear hm_17 mo4_16 mo3_16 mo2_16 mo1_16 mo0_16
  refine ae7 (up_n (u2 rfl s2_15)) (up_n (u2 rfl s3_15)) (up_n (u2 rfl s5_15)) (up_n (u2 rfl s6_15)) (up_n (u2 rfl s7_15)) (up_n (u2 rfl s8_15)) (up_n up_h) ?_; clear s2_15 s3_15 s5_15 s6_15 s7_15 s8_15; intro e_18 s2_18 s3_18 s5_18 s6_18 s7_18 s8_18 s9_18
  refine then_n <| aw_seq <| aw_seq <| at_ <| ar (ro_eq (ro_ld_ptr y64_ty26 rfl mo0_17 s2_18 (nle rfl)) (by simp only [pS, Value.cells, Nat.reduceAdd, jnE] <;> rfl)) rfl ?_
  refine ar (ro_call (evL_cons up_h evL_nil) rfl (lineErr_ok l hl) y64_hcf14) rfl <| ar (ro_assign up_h) rfl <| ae8 (up_m rfl (u2 rfl s2_18)) (up_m rfl (u2 rfl s3_18)) (up_m rfl (u2 rfl s5_18)) (up_m rfl (u2 rfl s6_18)) (up_m rfl (u2 rfl s7_18)) (up_m rfl (u2 rfl s8_18)) (up_m rfl (u2 rfl s9_18)) up_h ?_; clear s2_18 s3_18 s5_18 s6_18 s7_18 s8_18 s9_18; intro e_19 s2_19 s3_19 s5_19 s6_19 s7_19 s8_19 s9_19 s10_19
  refine then_n <| aw_seq <| at_ <| ar (ro_move s10_19) rfl <| ar (ro_neq up_h ev_c) rfl <| ae9 (u2 rfl s2_19) (u2 rfl s3_19) (u2 rfl s5_19) (u2 rfl s6_19) (u2 rfl s7_19) (u2 rfl s8_19) (u2 rfl s9_19) (u2 rfl s10_19) up_h ?_; clear s10_19 s2_19 s3_19 s5_19 s6_19 s7_19 s8_19 s9_19; intro e_20 s2_20 s3_20 s5_20 s6_20 s7_20 s8_20 s9_20 s10_20 s42_20
  refine then_n <| aw_case s42_20 (fun hq_21 => ?_) (fun hq_21 => ?_)
  · replace hq_21 := bnt hq_21; exfalso; omega
  replace hq_21 := bnf hq_21
  refine aw_skip <| then_n <| aw_seq <| aw_seq <| at_ <| ar (ro_fld_ptr y64_fl61_2 rfl s3_20) rfl <| ar (ro_eq (ro_ld_ptr y64_ty3 rfl mo1_17 up_h (nle rfl)) (by simp only [pS, Value.cells, Nat.reduceAdd, jnE] <;> rfl)) rfl ?_
  refine ar (ro_call (evL_cons up_h (evL_cons ev_c (evL_cons ev_c evL_nil))) rfl ((bWithin_ok _ _ _).mono (fun q h => show q = tbA false from h.trans (by rw [hy]))) y64_hcf30) rfl ?_
  refine ar (ro_not up_h) rfl <| ae8 (u4 rfl s2_20) (u4 rfl s3_20) (u4 rfl s5_20) (u4 rfl s6_20) (u4 rfl s7_20) (u4 rfl s8_20) (u4 rfl s9_20) up_h ?_; clear s10_20 s2_20 s3_20 s42_20 s5_20 s6_20 s7_20 s8_20 s9_20; intro e_22 s2_22 s3_22 s5_22 s6_22 s7_22 s8_22 s9_22 s64_22
  refine then_n <| aw_case s64_22 (fun hq_23 => ?_) (fun hq_23 => ?_)
  ·replace hq_23 := bt' hq_23
   refine aw_seq <| at_ <| ar (ro_move s8_22) rfl <| ar (ro_neq up_h ev_c) rfl <| ar (ro_move up_h) rfl <| al_case up_h (fun hb_24 hq_24 => ?_) (fun hb_24 hq_24 => ?_)
   · cases hq_24
   replace hq_24 := bnf hq_24
   refine al_ro' (ro_eq (ro_ld_ptr y64_ty26 rfl mo3_17 (up_m rfl (u2 rfl s7_22)) (nle rfl)) (by simp only [pS, Value.cells, Nat.reduceAdd, jnE] <;> rfl)) ⟨_, rfl, hb_24⟩ rfl ?_
   refine al_ro' (ro_eq (ro_ld_ptr y64_ty26 rfl mo4_17 (u4 rfl s9_22) (nle rfl)) (by simp only [pS, Value.cells, Nat.reduceAdd, jnE] <;> rfl)) ⟨_, rfl, (up_m rfl hb_24)⟩ rfl ?_
   refine al_ro' (ro_call (evL_cons (up_m rfl up_h) (evL_cons up_h evL_nil)) rfl (same_none) y64_hcf34) ⟨_, rfl, (u2 rfl hb_24)⟩ rfl ?_
   refine al_ro' (ro_not up_h) ⟨_, rfl, (up_m rfl (u2 rfl hb_24))⟩ rfl ?_
   refine ar (ro_pickF (u4 rfl hb_24) up_h) rfl <| ae5 (u8 rfl s2_22) (u8 rfl s3_22) (u8 rfl s5_22) (u8 rfl s6_22) up_h ?_; clear hb_24 s2_22 s3_22 s5_22 s64_22 s6_22 s7_22 s8_22 s9_22; intro e_28 s2_28 s3_28 s5_28 s6_28 s72_28
   refine then_n <| aw_case s72_28 (fun hq_29 => ?_) (fun hq_29 => ?_)
   · cases hq_29
   replace hq_29 := bf' hq_29
   refine aw_skip <| then_n <| aw_seq <| at_ <| ar (ro_eq (ro_ld_ptr y64_ty26 rfl mo0_17 s2_28 (nle rfl)) (by simp only [pS, Value.cells, Nat.reduceAdd, jnE] <;> rfl)) rfl ?_
   refine ar (ro_fld_ptr y64_fl61_0 rfl (up_m rfl s3_28)) rfl <| ar (ro_eq (ro_ld_ptr y64_ty3 rfl mo1_17 up_h (nle rfl)) (by simp only [pS, Value.cells, Nat.reduceAdd, jnE] <;> rfl)) rfl ?_
   refine ar (ro_call (evL_cons (u2 rfl up_h) (evL_cons up_h evL_nil)) rfl ((jointErr_ok l hl n).mono (fun q h => show q = mA 0 from h.trans (by rw [hm]))) y64_hcf36) rfl ?_
   refine ar (ro_assign up_h) rfl <| ae5 (up_m rfl (u4 rfl s2_28)) (up_m rfl (u4 rfl s3_28)) (up_m rfl (u4 rfl s5_28)) (up_m rfl (u4 rfl s6_28)) up_h ?_; clear s2_28 s3_28 s5_28 s6_28 s72_28; intro e_31 s2_31 s3_31 s5_31 s6_31 s11_31
   refine then_n <| aw_seq <| at_ <| al_stm (st_alloc y64_az26 rfl ml_17) trivial rfl (fun m_32 hm_32 => ?_)
   have mo5_32 := m_push hm_32 ml_17
   simp only [pS, Value.cells, Nat.reduceAdd, jnE] at mo5_32
   have mo4_32 := m_push_o hm_32 mo4_17
   have mo3_32 := m_push_o hm_32 mo3_17
   have mo2_32 := m_push_o hm_32 mo2_17
   have mo1_32 := m_push_o hm_32 mo1_17
   have mo0_32 := m_push_o hm_32 mo0_17
   have ml_32 := m_push_l hm_32 ml_17
   have ml_32 : _ = 6 := ml_32
   clear hm_32 mo4_17 mo3_17 mo2_17 mo1_17 mo0_17
   refine ae6 (up_m rfl s2_31) (up_m rfl s3_31) (up_m rfl s5_31) (up_m rfl s6_31) (up_m rfl s11_31) up_h ?_; clear s11_31 s2_31 s3_31 s5_31 s6_31; intro e_33 s2_33 s3_33 s5_33 s6_33 s11_33 s12_33
   refine then_n <| aw_seq <| aw_seq <| at_ <| ar (ro_move s11_33) rfl <| ar (ro_eql up_h ev_c) rfl ?_
   refine ae7 (u2 rfl s2_33) (u2 rfl s3_33) (u2 rfl s5_33) (u2 rfl s6_33) (u2 rfl s11_33) (u2 rfl s12_33) up_h ?_; clear s11_33 s12_33 s2_33 s3_33 s5_33 s6_33; intro e_34 s2_34 s3_34 s5_34 s6_34 s11_34 s12_34 s89_34
   refine then_n <| aw_case s89_34 (fun hq_35 => ?_) (fun hq_35 => ?_)
   ·replace hq_35 := bt hq_35
    refine at_ <| ar (ro_eq (ro_ld_ptr y64_ty26 rfl mo0_32 s2_34 (nle rfl)) (by simp only [pS, Value.cells, Nat.reduceAdd, jnE] <;> rfl)) rfl ?_
    refine ar (ro_fld_ptr y64_fl61_0 rfl (up_m rfl s3_34)) rfl <| ar (ro_eq (ro_ld_ptr y64_ty3 rfl mo1_32 up_h (nle rfl)) (by simp only [pS, Value.cells, Nat.reduceAdd, jnE] <;> rfl)) rfl ?_
    refine ar (ro_fld_ptr y64_fl61_1 rfl (up_m rfl (u2 rfl s3_34))) rfl <| ar (ro_eq (ro_ld_ptr y64_ty39 rfl mo1_32 up_h (nle rfl)) (by simp only [pS, Value.cells, Nat.reduceAdd, jnE] <;> rfl)) rfl ?_
    refine ar (ro_call (evL_cons (u4 rfl up_h) (evL_cons (u2 rfl up_h) (evL_cons up_h evL_nil))) rfl ((rSurveyed_in l hl hr n a b hm2).mono (fun q h => h.trans hS)) y64_hcf37) rfl ?_
    refine ar (ro_move up_h) rfl <| ar (ro_extract up_h rfl) rfl <| ar (ro_extract (up_m rfl up_h) rfl) rfl <| al_stm (st_store (up_m rfl (u8 rfl s12_34)) (up_m rfl up_h) rfl rfl mo5_32 y64_sz26 rfl (nle rfl)) trivial rfl (fun m_36 hm_36 => ?_)
    have mo5_36 := m_set hm_36 mo5_32
    simp only [pS, Value.cells, Nat.reduceAdd, jnE] at mo5_36
    have mo4_36 := m_set_o hm_36 mo4_32 (by decide)
    have mo3_36 := m_set_o hm_36 mo3_32 (by decide)
    have mo2_36 := m_set_o hm_36 mo2_32 (by decide)
    have mo1_36 := m_set_o hm_36 mo1_32 (by decide)
    have mo0_36 := m_set_o hm_36 mo0_32 (by decide)
    have ml_36 := m_set_l hm_36 ml_32
    clear hm_36 mo5_32 mo4_32 mo3_32 mo2_32 mo1_32 mo0_32
    refine ar (ro_assign (up_n up_h)) rfl <| ae6 (up_m rfl (up_n (up_m rfl (u8 rfl s2_34)))) (up_m rfl (up_n (up_m rfl (u8 rfl s3_34)))) (up_m rfl (up_n (up_m rfl (u8 rfl s5_34)))) (up_m rfl (up_n (up_m rfl (u8 rfl s6_34)))) up_h (up_m rfl (up_n (up_m rfl (u8 rfl s12_34)))) ?_; clear s11_34 s12_34 s2_34 s3_34 s5_34 s6_34 s89_34; intro e_37 s2_37 s3_37 s5_37 s6_37 s11_37 s12_37
    refine then_n <| aw_seq <| aw_seq <| at_ <| ar (ro_move s6_37) rfl <| ar (ro_move (up_m rfl s11_37)) rfl <| ar (ro_neq (up_m rfl up_h) up_h) rfl <| ar (ro_move up_h) rfl <| al_case up_h (fun hb_38 hq_38 => ?_) (fun hb_38 hq_38 => ?_)
    · replace hq_38 := bnt hq_38; exfalso; omega
    replace hq_38 := bnf hq_38
    refine al_ro' (ro_eq (ro_ld_ptr y64_ty26 rfl mo2_36 (u4 rfl s5_37) (nle rfl)) (by simp only [pS, Value.cells, Nat.reduceAdd, jnE] <;> rfl)) ⟨_, rfl, hb_38⟩ rfl ?_
    refine al_ro' (ro_eq (ro_ld_ptr y64_ty26 rfl mo5_36 (up_m rfl (u4 rfl s12_37)) (nle rfl)) (by simp only [pS, Value.cells, Nat.reduceAdd, jnE] <;> rfl)) ⟨_, rfl, (up_m rfl hb_38)⟩ rfl ?_
    refine al_ro' (ro_call (evL_cons (up_m rfl up_h) (evL_cons up_h evL_nil)) rfl (same_refl A hA) y64_hcf34) ⟨_, rfl, (u2 rfl hb_38)⟩ rfl ?_
    refine al_ro' (ro_not up_h) ⟨_, rfl, (up_m rfl (u2 rfl hb_38))⟩ rfl ?_
    refine ar (ro_pickF (u4 rfl hb_38) up_h) rfl <| ae5 (up_m rfl (u8 rfl s2_37)) (up_m rfl (u8 rfl s3_37)) (up_m rfl (u8 rfl s5_37)) (up_m rfl (u8 rfl s11_37)) up_h ?_; clear hb_38 s11_37 s12_37 s2_37 s3_37 s5_37 s6_37; intro e_42 s2_42 s3_42 s5_42 s11_42 s107_42
    refine then_n <| aw_case s107_42 (fun hq_43 => ?_) (fun hq_43 => ?_)
    · cases hq_43
    replace hq_43 := bf' hq_43
    refine aw_skip <| then_n <| aw_seq <| aw_seq <| at_ <| ar (ro_move s11_42) rfl <| ar (ro_neq up_h ev_c) rfl <| ae4 (u2 rfl s2_42) (u2 rfl s3_42) (u2 rfl s5_42) up_h ?_; clear s107_42 s11_42 s2_42 s3_42 s5_42; intro e_45 s2_45 s3_45 s5_45 s109_45
    refine then_n <| aw_case s109_45 (fun hq_46 => ?_) (fun hq_46 => ?_)
    ·replace hq_46 := bnt hq_46
     refine aw_seq <| at_ <| ar (ro_assign ev_c) rfl <| ae1 up_h ?_; clear s109_45 s2_45 s3_45 s5_45; intro e_47 s4_47
     refine then_n <| aw_ret <| then_r <| ret1 (.inr rfl) (by kernel_rfl) (resV_tmp s4_47) (.ro _ rfl) ?_
     clear s4_47 mo5_36 mo4_36 mo3_36 mo2_36 mo1_36 mo0_36 ml_36
     first | rfl | simp_all
    replace hq_46 := bnf hq_46
    (have hd0 : d = 0 := (by omega); obtain ⟨g1, g2, g3, g4⟩ := hd hd0)
    refine aw_skip <| then_n <| aw_seq <| aw_drawK 17 2 ml_36 (by kernel_rfl) (by kernel_rfl) (by kernel_rfl) (by kernel_rfl) (fun m_48 hm_48 => ?_)
    have mo5_48 := m_room_o hm_48 mo5_36
    have mo4_48 := m_room_o hm_48 mo4_36
    have mo3_48 := m_room_o hm_48 mo3_36
    have mo2_48 := m_room_o hm_48 mo2_36
    have mo1_48 := m_room_o hm_48 mo1_36
    have mo0_48 := m_room_o hm_48 mo0_36
    have mo6_48 : m_48[6]? = _ := m_room_g hm_48 ml_36 0 rfl rfl
    have mo7_48 : m_48[7]? = _ := m_room_g hm_48 ml_36 1 rfl rfl
    have ml_48 : _ = 8 := m_room_l (K := 2) hm_48 ml_36
    clear hm_48 mo5_36 mo4_36 mo3_36 mo2_36 mo1_36 mo0_36 ml_36
    refine dh_ro (fun M_ hM_ => (ro_fld_ptr y64_fl26_1 rfl s2_45)) trivial ?_
    refine dh_ld (0) (fun M_ hM_ => (ro_eq (ro_ld_ptr y64_ty22 rfl (agr hM_ mo0_48 (by simp)) up_h (nle rfl)) (by simp only [pS, Value.cells, Nat.reduceAdd, jnE] <;> rfl))) trivial trivial ?_
    refine dh_ro (fun M_ hM_ => (ro_fld_ptr y64_fl61_0 rfl (u2 rfl s3_45))) trivial ?_
    refine dh_ld (1) (fun M_ hM_ => (ro_eq (ro_ld_ptr y64_ty3 rfl (agr hM_ mo1_48 (by simp)) up_h (nle rfl)) (by simp only [pS, Value.cells, Nat.reduceAdd, jnE] <;> rfl))) trivial trivial ?_
    refine dh_ro (fun M_ hM_ => (ro_eq (ro_ix y64_sl22 (u2 rfl up_h) up_h (by omega) (by first | (refine idx_map ?_; first | omega | (simp only [lnS]; omega)) | (refine idx_mapI ?_; first | omega | (simp only [lnS]; omega)) | (refine idx_mapN ?_; first | omega | (simp only [lnS]; omega)) | rfl)) (by simp only [pS, Value.cells, Nat.reduceAdd, jnE] <;> rfl))) trivial ?_
    refine dh_ro (fun M_ hM_ => (ro_eq (ro_fld_ref y64_fl70_2 rfl up_h) (by simp only [pS, Value.cells, Nat.reduceAdd, jnE] <;> rfl))) trivial ?_
    refine dh_ro (fun M_ hM_ => (ro_eq (ro_ld_ref y64_ty39 rfl up_h (nle rfl)) (by simp only [pS, Value.cells, Nat.reduceAdd, jnE] <;> rfl))) trivial ?_
    refine dh_ro (fun M_ hM_ => (ro_fld_ptr y64_fl26_1 rfl (up_m rfl (u2 rfl (u4 rfl s5_45))))) trivial ?_
    refine dh_ld (2) (fun M_ hM_ => (ro_eq (ro_ld_ptr y64_ty22 rfl (agr hM_ mo2_48 (by simp)) up_h (nle rfl)) (by simp only [pS, Value.cells, Nat.reduceAdd, jnE] <;> rfl))) trivial trivial ?_
    refine dh_ro (fun M_ hM_ => (ro_fld_ptr y64_fl61_0 rfl (up_m rfl (u8 rfl s3_45)))) trivial ?_
    refine dh_ld (1) (fun M_ hM_ => (ro_eq (ro_ld_ptr y64_ty3 rfl (agr hM_ mo1_48 (by simp)) up_h (nle rfl)) (by simp only [pS, Value.cells, Nat.reduceAdd, jnE] <;> rfl))) trivial trivial ?_
    refine dh_ro (fun M_ hM_ => (ro_eq (ro_ix y64_sl22 (u2 rfl up_h) up_h (by omega) (by first | (refine idx_map ?_; first | omega | (simp only [lnS]; omega)) | (refine idx_mapI ?_; first | omega | (simp only [lnS]; omega)) | (refine idx_mapN ?_; first | omega | (simp only [lnS]; omega)) | rfl)) (by simp only [pS, Value.cells, Nat.reduceAdd, jnE] <;> rfl))) trivial ?_
    refine dh_ro (fun M_ hM_ => (ro_eq (ro_fld_ref y64_fl70_2 rfl up_h) (by simp only [pS, Value.cells, Nat.reduceAdd, jnE] <;> rfl))) trivial ?_
    refine dh_ro (fun M_ hM_ => (ro_eq (ro_ld_ref y64_ty39 rfl up_h (nle rfl)) (by simp only [pS, Value.cells, Nat.reduceAdd, jnE] <;> rfl))) trivial ?_
    refine dh_nw (6) (fun M_ hM_ => (nw_alloc y64_az39 rfl)) trivial mo6_48 rfl trivial ⟨.inl (by simp <;> omega), ⟨.inl (by simp <;> omega), ⟨.inl (by simp <;> omega), ⟨.inl (by simp <;> omega), trivial⟩⟩⟩⟩ (fun m_49 hm_49 => ?_)
    have mo6_49 := m_set hm_49 mo6_48
    simp only [pS, Value.cells, Nat.reduceAdd, jnE] at mo6_49
    have mo5_49 := m_set_o hm_49 mo5_48 (by decide)
    have mo4_49 := m_set_o hm_49 mo4_48 (by decide)
    have mo3_49 := m_set_o hm_49 mo3_48 (by decide)
    have mo2_49 := m_set_o hm_49 mo2_48 (by decide)
    have mo1_49 := m_set_o hm_49 mo1_48 (by decide)
    have mo0_49 := m_set_o hm_49 mo0_48 (by decide)
    have mo7_49 := m_set_o hm_49 mo7_48 (by decide)
    have ml_49 := m_set_l hm_49 ml_48
    clear hm_49 mo5_48 mo4_48 mo3_48 mo2_48 mo1_48 mo0_48 mo6_48 mo7_48
    refine dh_nw (7) (fun M_ hM_ => (nw_alloc y64_az39 rfl)) trivial mo7_49 rfl ⟨.inl (by simp <;> omega), trivial⟩ ⟨.inl (by simp <;> omega), ⟨.inl (by simp <;> omega), ⟨.inl (by simp <;> omega), ⟨.inl (by simp <;> omega), ⟨.inl (by simp <;> omega), trivial⟩⟩⟩⟩⟩ (fun m_50 hm_50 => ?_)
    have mo7_50 := m_set hm_50 mo7_49
    simp only [pS, Value.cells, Nat.reduceAdd, jnE] at mo7_50
    have mo6_50 := m_set_o hm_50 mo6_49 (by decide)
    have mo5_50 := m_set_o hm_50 mo5_49 (by decide)
    have mo4_50 := m_set_o hm_50 mo4_49 (by decide)
    have mo3_50 := m_set_o hm_50 mo3_49 (by decide)
    have mo2_50 := m_set_o hm_50 mo2_49 (by decide)
    have mo1_50 := m_set_o hm_50 mo1_49 (by decide)
    have mo0_50 := m_set_o hm_50 mo0_49 (by decide)
    have ml_50 := m_set_l hm_50 ml_49
    clear hm_50 mo6_49 mo5_49 mo4_49 mo3_49 mo2_49 mo1_49 mo0_49 mo7_49
    refine dh_set (6) (fun M_ hM_ => (se_store (up_m rfl up_h) (up_m rfl (u8 rfl up_h)) rfl rfl (agr hM_ mo6_50 (by simp)) y64_sz39 rfl (nle rfl))) trivial ⟨.inr (wt_one 16 14 (by kernel_rfl)), ⟨.inl (by simp <;> omega), trivial⟩⟩ ⟨.inl (by simp <;> omega), ⟨.inl (by simp <;> omega), ⟨.inl (by simp <;> omega), ⟨.inl (by simp <;> omega), ⟨.inr (wt_one 16 14 (by kernel_rfl)), ⟨.inl (by simp <;> omega), trivial⟩⟩⟩⟩⟩⟩ (fun m_51 hm_51 => ?_)
    have mo6_51 := m_set hm_51 mo6_50
    simp only [pS, Value.cells, Nat.reduceAdd, jnE] at mo6_51
    have mo7_51 := m_set_o hm_51 mo7_50 (by decide)
    have mo5_51 := m_set_o hm_51 mo5_50 (by decide)
    have mo4_51 := m_set_o hm_51 mo4_50 (by decide)
    have mo3_51 := m_set_o hm_51 mo3_50 (by decide)
    have mo2_51 := m_set_o hm_51 mo2_50 (by decide)
    have mo1_51 := m_set_o hm_51 mo1_50 (by decide)
    have mo0_51 := m_set_o hm_51 mo0_50 (by decide)
    have ml_51 := m_set_l hm_51 ml_50
    clear hm_51 mo7_50 mo6_50 mo5_50 mo4_50 mo3_50 mo2_50 mo1_50 mo0_50
    refine dh_nil rfl ?_
    refine al_stm (st_store (up_n up_h) (up_n (u2 rfl up_h)) rfl rfl mo7_51 y64_sz39 rfl (nle rfl)) trivial rfl (fun m_52 hm_52 => ?_)
    have mo7_52 := m_set hm_52 mo7_51
    simp only [pS, Value.cells, Nat.reduceAdd, jnE] at mo7_52
    have mo6_52 := m_set_o hm_52 mo6_51 (by decide)
    have mo5_52 := m_set_o hm_52 mo5_51 (by decide)
    have mo4_52 := m_set_o hm_52 mo4_51 (by decide)
    have mo3_52 := m_set_o hm_52 mo3_51 (by decide)
    have mo2_52 := m_set_o hm_52 mo2_51 (by decide)
    have mo1_52 := m_set_o hm_52 mo1_51 (by decide)
    have mo0_52 := m_set_o hm_52 mo0_51 (by decide)
    have ml_52 := m_set_l hm_52 ml_51
    clear hm_52 mo6_51 mo7_51 mo5_51 mo4_51 mo3_51 mo2_51 mo1_51 mo0_51
    refine ae2 (up_n (up_n (up_m rfl up_h))) (up_n (up_n up_h)) ?_; clear s109_45 s2_45 s3_45 s5_45; intro e_53 s13_53 s14_53
    refine then_n <| aw_seq <| at_ <| ar (ro_fld_ptr y64_fl39_0 rfl s13_53) rfl <| ar (ro_eq (ro_ld_ptr y64_ty3 rfl mo6_52 up_h (nle rfl)) (by simp only [pS, Value.cells, Nat.reduceAdd, jnE] <;> rfl)) rfl ?_
    refine ar (ro_fld_ptr y64_fl39_0 rfl (u2 rfl s14_53)) rfl <| ar (ro_eq (ro_ld_ptr y64_ty3 rfl mo7_52 up_h (nle rfl)) (by simp only [pS, Value.cells, Nat.reduceAdd, jnE] <;> rfl)) rfl ?_
    refine ar (ro_leq (u2 rfl up_h) up_h) rfl <| ar (ro_move up_h) rfl <| al_case up_h (fun hb_54 hq_54 => ?_) (fun hb_54 hq_54 => ?_)
    ·replace hq_54 := bt hq_54
     refine al_ro' (ro_fld_ptr y64_fl39_0 rfl (u2 rfl (u4 rfl s14_53))) ⟨_, rfl, hb_54⟩ rfl ?_
     refine al_ro' (ro_eq (ro_ld_ptr y64_ty3 rfl mo7_52 up_h (nle rfl)) (by simp only [pS, Value.cells, Nat.reduceAdd, jnE] <;> rfl)) ⟨_, rfl, (up_m rfl hb_54)⟩ rfl ?_
     refine al_ro' (ro_fld_ptr y64_fl39_1 rfl (u8 rfl s14_53)) ⟨_, rfl, (u2 rfl hb_54)⟩ rfl ?_
     refine al_ro' (ro_eq (ro_ld_ptr y64_ty3 rfl mo7_52 up_h (nle rfl)) (by simp only [pS, Value.cells, Nat.reduceAdd, jnE] <;> rfl)) ⟨_, rfl, (up_m rfl (u2 rfl hb_54))⟩ rfl ?_
     refine al_ro' (ro_leq (u2 rfl up_h) up_h) ⟨_, rfl, (u4 rfl hb_54)⟩ rfl ?_
     refine ar (ro_pickT (up_m rfl (u4 rfl hb_54)) up_h) rfl <| ar (ro_move up_h) rfl <| al_case up_h (fun hb_55 hq_55 => ?_) (fun hb_55 hq_55 => ?_)
     ·replace hq_55 := bt hq_55
      refine al_ro' (ro_fld_ptr y64_fl39_1 rfl (up_m rfl (u4 rfl (u8 rfl s14_53)))) ⟨_, rfl, hb_55⟩ rfl ?_
      refine al_ro' (ro_eq (ro_ld_ptr y64_ty3 rfl mo7_52 up_h (nle rfl)) (by simp only [pS, Value.cells, Nat.reduceAdd, jnE] <;> rfl)) ⟨_, rfl, (up_m rfl hb_55)⟩ rfl ?_
      refine al_ro' (ro_fld_ptr y64_fl39_1 rfl (up_m rfl (u2 rfl (u4 rfl (u8 rfl s13_53))))) ⟨_, rfl, (u2 rfl hb_55)⟩ rfl ?_
      refine al_ro' (ro_eq (ro_ld_ptr y64_ty3 rfl mo6_52 up_h (nle rfl)) (by simp only [pS, Value.cells, Nat.reduceAdd, jnE] <;> rfl)) ⟨_, rfl, (up_m rfl (u2 rfl hb_55))⟩ rfl ?_
      refine al_ro' (ro_leq (u2 rfl up_h) up_h) ⟨_, rfl, (u4 rfl hb_55)⟩ rfl ?_
      refine ar (ro_pickT (up_m rfl (u4 rfl hb_55)) up_h) rfl <| ar (ro_assign up_h) rfl <| ae1 up_h ?_; clear hb_54 hb_55 s13_53 s14_53; intro e_56 s4_56
      refine then_n <| aw_ret <| ret1 (.inr rfl) (by kernel_rfl) (resV_tmp s4_56) (.ro _ rfl) ?_
      clear s4_56 mo7_52 mo6_52 mo5_52 mo4_52 mo3_52 mo2_52 mo1_52 mo0_52 ml_52
      first | rfl | simp_all
     · replace hq_55 := bf hq_55; exfalso; omega
    · replace hq_54 := bf hq_54; exfalso; omega
   · cases hq_35
  · cases hq_23
set_option maxRecDepth 100000 in
set_option maxHeartbeats 4000000 in
theorem lineSurveys_in (l : Lin) (hf : fewL l = true) (hg : (linM l).2 = 0) (n a b y : Int) (hm : misE n 0 (l.js.length - 1) = 0) (hy : withinB y 0 100 = true) (A : Lin) (d : Int) (hA : Sho A) (hS : surA l n.toNat a b = .tuple [lnA A, mA d]) (hd : d = 0 → n.toNat < A.js.length ∧ (l.js.getD n.toNat default).lo ≤ (A.js.getD n.toNat default).lo ∧ (A.js.getD n.toNat default).lo ≤ (A.js.getD n.toNat default).hi ∧ (A.js.getD n.toNat default).hi ≤ (l.js.getD n.toNat default).hi) : FnOk Try.prog 6 [lnA l, .agg [mA n, mA a, mA b, mA y]] (fun q => q = tbA true) := by
  refine fnOk_of (fn := Try.f6) 143 (by kernel_rfl) rfl (by kernel_rfl) (Nat.le_of_ble_eq_true rfl) ?_
  intro e_0 m_0 hA hm_0
  have s0_0 : evA e_0 (.tmp 0) = _ := hA 0 _ rfl
  have s1_0 : evA e_0 (.tmp 1) = _ := hA 1 _ rfl
  have ml_0 : m_0.length = 0 := by rw [hm_0]; rfl
  clear hA hm_0
  have hl := fewL_sho hf; have hr := rgt_of hg; have hm2 := misE_z.1 hm; have hjs := hr.js; have hy2 := withinB_iff.1 hy
  refine aw_seq <| at_ <| al_stm (st_box s0_0 rfl ml_0) trivial rfl (fun m_1 hm_1 => ?_)
  have mo0_1 := m_push hm_1 ml_0
  have ml_1 := m_push_l hm_1 ml_0
  have ml_1 : _ = 1 := ml_1
  clear hm_1
  refine al_stm (st_box (up_m rfl s1_0) rfl ml_1) trivial rfl (fun m_2 hm_2 => ?_)
  have mo1_2 := m_push hm_2 ml_1
  have mo0_2 := m_push_o hm_2 mo0_1
  have ml_2 := m_push_l hm_2 ml_1
  have ml_2 : _ = 2 := ml_2
  clear hm_2 mo0_1
  refine ar (ro_assign ev_c) rfl <| ae2 (u2 rfl up_h) (up_m rfl up_h) ?_; clear s0_0 s1_0; intro e_3 s2_3 s3_3
  refine then_n <| aw_seq <| aw_seq <| at_ <| ar (ro_call evL_nil rfl (awake_ok) y64_hcf12) rfl <| ar (ro_not up_h) rfl <| ae3 (u2 rfl s2_3) (u2 rfl s3_3) up_h ?_; clear s2_3 s3_3; intro e_4 s2_4 s3_4 s16_4
  refine then_n <| aw_case s16_4 (fun hq_5 => ?_) (fun hq_5 => ?_)
  · cases hq_5
  replace hq_5 := bf' hq_5
  refine aw_skip <| then_n <| aw_seq <| aw_seq <| at_ <| ar (ro_eq (ro_ld_ptr y64_ty26 rfl mo0_2 s2_4 (nle rfl)) (by simp only [pS, Value.cells, Nat.reduceAdd, jnE] <;> rfl)) rfl ?_
  refine ar (ro_call (evL_cons up_h evL_nil) rfl ((fewL_ok l).mono (fun q h => h.trans (by rw [hf]))) y64_hcf13) rfl ?_
  refine ar (ro_not up_h) rfl <| ae3 (up_m rfl (u2 rfl s2_4)) (up_m rfl (u2 rfl s3_4)) up_h ?_; clear s16_4 s2_4 s3_4; intro e_6 s2_6 s3_6 s19_6
  refine then_n <| aw_case s19_6 (fun hq_7 => ?_) (fun hq_7 => ?_)
  · cases hq_7
  replace hq_7 := bf' hq_7
  refine aw_skip <| then_n <| aw_seq <| aw_drawK 12 1 ml_2 (by kernel_rfl) (by kernel_rfl) (by kernel_rfl) (by kernel_rfl) (fun m_8 hm_8 => ?_)
  have mo1_8 := m_room_o hm_8 mo1_2
  have mo0_8 := m_room_o hm_8 mo0_2
  have mo2_8 : m_8[2]? = _ := m_room_g hm_8 ml_2 0 rfl rfl
  have ml_8 : _ = 3 := m_room_l (K := 1) hm_8 ml_2
  clear hm_8 mo1_2 mo0_2 ml_2
  refine dh_ld (0) (fun M_ hM_ => (ro_eq (ro_ld_ptr y64_ty26 rfl (agr hM_ mo0_8 (by simp)) s2_6 (nle rfl)) (by simp only [pS, Value.cells, Nat.reduceAdd, jnE] <;> rfl))) trivial trivial ?_
  refine dh_ro (fun M_ hM_ => (ro_call (evL_cons up_h evL_nil) rfl (yCopy_ok l hl) y64_hcf18)) trivial ?_
  refine dh_ro (fun M_ hM_ => (ro_fld_ptr y64_fl61_0 rfl (u2 rfl s3_6))) trivial ?_
  refine dh_ld (1) (fun M_ hM_ => (ro_eq (ro_ld_ptr y64_ty3 rfl (agr hM_ mo1_8 (by simp)) up_h (nle rfl)) (by simp only [pS, Value.cells, Nat.reduceAdd, jnE] <;> rfl))) trivial trivial ?_
  refine dh_ro (fun M_ hM_ => (ro_fld_ptr y64_fl61_1 rfl (u4 rfl s3_6))) trivial ?_
  refine dh_ld (1) (fun M_ hM_ => (ro_eq (ro_ld_ptr y64_ty39 rfl (agr hM_ mo1_8 (by simp)) up_h (nle rfl)) (by simp only [pS, Value.cells, Nat.reduceAdd, jnE] <;> rfl))) trivial trivial ?_
  refine dh_ro (fun M_ hM_ => (ro_call (evL_cons (u4 rfl up_h) (evL_cons (u2 rfl up_h) (evL_cons up_h evL_nil))) rfl ((surveyed_in l hl hg n a b hm).mono (fun q h => h.trans hS)) y64_hcf32)) trivial ?_
  refine dh_ro (fun M_ hM_ => (ro_move up_h)) trivial ?_
  refine dh_ro (fun M_ hM_ => (ro_extract up_h rfl)) trivial ?_
  refine dh_ro (fun M_ hM_ => (ro_extract (up_m rfl up_h) rfl)) trivial ?_
  refine dh_nw (2) (fun M_ hM_ => (nw_alloc y64_az26 rfl)) trivial mo2_8 rfl trivial ⟨.inl (by simp <;> omega), ⟨.inl (by simp <;> omega), ⟨.inl (by simp <;> omega), trivial⟩⟩⟩ (fun m_9 hm_9 => ?_)
  have mo2_9 := m_set hm_9 mo2_8
  simp only [pS, Value.cells, Nat.reduceAdd, jnE] at mo2_9
  have mo1_9 := m_set_o hm_9 mo1_8 (by decide)
  have mo0_9 := m_set_o hm_9 mo0_8 (by decide)
  have ml_9 := m_set_l hm_9 ml_8
  clear hm_9 mo1_8 mo0_8 mo2_8
  refine dh_set (2) (fun M_ hM_ => (se_store up_h (u2 rfl up_h) rfl rfl (agr hM_ mo2_9 (by simp)) y64_sz26 rfl (nle rfl))) trivial ⟨.inr (wt_one 11 10 (by kernel_rfl)), trivial⟩ ⟨.inl (by simp <;> omega), ⟨.inl (by simp <;> omega), ⟨.inl (by simp <;> omega), ⟨.inr (wt_one 11 10 (by kernel_rfl)), trivial⟩⟩⟩⟩ (fun m_10 hm_10 => ?_)
  have mo2_10 := m_set hm_10 mo2_9
  simp only [pS, Value.cells, Nat.reduceAdd, jnE] at mo2_10
  have mo1_10 := m_set_o hm_10 mo1_9 (by decide)
  have mo0_10 := m_set_o hm_10 mo0_9 (by decide)
  have ml_10 := m_set_l hm_10 ml_9
  clear hm_10 mo2_9 mo1_9 mo0_9
  refine dh_nil rfl ?_
  refine ar (ro_assign (up_n (up_m rfl up_h))) rfl <| ae4 (up_m rfl (up_n (up_m rfl (u2 rfl (u8 rfl s2_6))))) (up_m rfl (up_n (up_m rfl (u2 rfl (u8 rfl s3_6))))) (up_m rfl (up_n up_h)) up_h ?_; clear s19_6 s2_6 s3_6; intro e_11 s2_11 s3_11 s5_11 s6_11
  refine then_n <| aw_seq <| aw_drawK 10 1 ml_10 (by kernel_rfl) (by kernel_rfl) (by kernel_rfl) (by kernel_rfl) (fun m_12 hm_12 => ?_)
  have mo2_12 := m_room_o hm_12 mo2_10
  have mo1_12 := m_room_o hm_12 mo1_10
  have mo0_12 := m_room_o hm_12 mo0_10
  have mo3_12 : m_12[3]? = _ := m_room_g hm_12 ml_10 0 rfl rfl
  have ml_12 : _ = 4 := m_room_l (K := 1) hm_12 ml_10
  clear hm_12 mo2_10 mo1_10 mo0_10 ml_10
  refine dh_ld (0) (fun M_ hM_ => (ro_eq (ro_ld_ptr y64_ty26 rfl (agr hM_ mo0_12 (by simp)) s2_11 (nle rfl)) (by simp only [pS, Value.cells, Nat.reduceAdd, jnE] <;> rfl))) trivial trivial ?_
  refine dh_ro (fun M_ hM_ => (ro_call (evL_cons up_h evL_nil) rfl (yCopy_ok l hl) y64_hcf18)) trivial ?_
  refine dh_ro (fun M_ hM_ => (ro_fld_ptr y64_fl61_2 rfl (u2 rfl s3_11))) trivial ?_
  refine dh_ld (1) (fun M_ hM_ => (ro_eq (ro_ld_ptr y64_ty3 rfl (agr hM_ mo1_12 (by simp)) up_h (nle rfl)) (by simp only [pS, Value.cells, Nat.reduceAdd, jnE] <;> rfl))) trivial trivial ?_
  refine dh_ro (fun M_ hM_ => (ro_call (evL_cons (u2 rfl up_h) (evL_cons up_h evL_nil)) rfl (warmed_in l hl hg y hy) y64_hcf33)) trivial ?_
  refine dh_ro (fun M_ hM_ => (ro_move up_h)) trivial ?_
  refine dh_ro (fun M_ hM_ => (ro_extract up_h rfl)) trivial ?_
  refine dh_ro (fun M_ hM_ => (ro_extract (up_m rfl up_h) rfl)) trivial ?_
  refine dh_nw (3) (fun M_ hM_ => (nw_alloc y64_az26 rfl)) trivial mo3_12 rfl trivial ⟨.inl (by simp <;> omega), ⟨.inl (by simp <;> omega), trivial⟩⟩ (fun m_13 hm_13 => ?_)
  have mo3_13 := m_set hm_13 mo3_12
  simp only [pS, Value.cells, Nat.reduceAdd, jnE] at mo3_13
  have mo2_13 := m_set_o hm_13 mo2_12 (by decide)
  have mo1_13 := m_set_o hm_13 mo1_12 (by decide)
  have mo0_13 := m_set_o hm_13 mo0_12 (by decide)
  have ml_13 := m_set_l hm_13 ml_12
  clear hm_13 mo2_12 mo1_12 mo0_12 mo3_12
  refine dh_set (3) (fun M_ hM_ => (se_store up_h (u2 rfl up_h) rfl rfl (agr hM_ mo3_13 (by simp)) y64_sz26 rfl (nle rfl))) trivial ⟨.inr (wt_one 9 8 (by kernel_rfl)), trivial⟩ ⟨.inl (by simp <;> omega), ⟨.inl (by simp <;> omega), ⟨.inr (wt_one 9 8 (by kernel_rfl)), trivial⟩⟩⟩ (fun m_14 hm_14 => ?_)
  have mo3_14 := m_set hm_14 mo3_13
  simp only [pS, Value.cells, Nat.reduceAdd, jnE] at mo3_14
  have mo2_14 := m_set_o hm_14 mo2_13 (by decide)
  have mo1_14 := m_set_o hm_14 mo1_13 (by decide)
  have mo0_14 := m_set_o hm_14 mo0_13 (by decide)
  have ml_14 := m_set_l hm_14 ml_13
  clear hm_14 mo3_13 mo2_13 mo1_13 mo0_13
  refine dh_nil rfl ?_
  refine ar (ro_assign (up_n (up_m rfl up_h))) rfl <| ae6 (up_m rfl (up_n (up_m rfl (u8 rfl s2_11)))) (up_m rfl (up_n (up_m rfl (u8 rfl s3_11)))) (up_m rfl (up_n (up_m rfl (u8 rfl s5_11)))) (up_m rfl (up_n (up_m rfl (u8 rfl s6_11)))) (up_m rfl (up_n up_h)) up_h ?_; clear s2_11 s3_11 s5_11 s6_11; intro e_15 s2_15 s3_15 s5_15 s6_15 s7_15 s8_15
  refine then_n <| aw_seq <| at_ <| ar (ro_build evP_nil y64_bz26 y64_bu26 y64_bp26 rfl) rfl ?_
  refine al_stm (st_alloc y64_az26 rfl ml_14) trivial rfl (fun m_16 hm_16 => ?_)
  have mo4_16 := m_push hm_16 ml_14
  simp only [pS, Value.cells, Nat.reduceAdd, jnE] at mo4_16
  have mo3_16 := m_push_o hm_16 mo3_14
  have mo2_16 := m_push_o hm_16 mo2_14
  have mo1_16 := m_push_o hm_16 mo1_14
  have mo0_16 := m_push_o hm_16 mo0_14
  have ml_16 := m_push_l hm_16 ml_14
  have ml_16 : _ = 5 := ml_16
  clear hm_16 mo3_14 mo2_14 mo1_14 mo0_14
  refine al_stm (st_store up_h (up_m rfl up_h) rfl rfl mo4_16 y64_sz26 rfl (nle rfl)) trivial rfl (fun m_17 hm_17 => ?_)
  have mo4_17 := m_set hm_17 mo4_16
  simp only [pS, Value.cells, Nat.reduceAdd, jnE] at mo4_17
  have mo3_17 := m_set_o hm_17 mo3_16 (by decide)
  have mo2_17 := m_set_o hm_17 mo2_16 (by decide)
  have mo1_17 := m_set_o hm_17 mo1_16 (by decide)
  have mo0_17 := m_set_o hm_17 mo0_16 (by decide)
  have ml_17 := m_set_l hm_17 ml_16
  clear hm_17 mo4_16 mo3_16 mo2_16 mo1_16 mo0_16
  refine ae7 (up_n (u2 rfl s2_15)) (up_n (u2 rfl s3_15)) (up_n (u2 rfl s5_15)) (up_n (u2 rfl s6_15)) (up_n (u2 rfl s7_15)) (up_n (u2 rfl s8_15)) (up_n up_h) ?_; clear s2_15 s3_15 s5_15 s6_15 s7_15 s8_15; intro e_18 s2_18 s3_18 s5_18 s6_18 s7_18 s8_18 s9_18
  refine then_n <| aw_seq <| aw_seq <| at_ <| ar (ro_eq (ro_ld_ptr y64_ty26 rfl mo0_17 s2_18 (nle rfl)) (by simp only [pS, Value.cells, Nat.reduceAdd, jnE] <;> rfl)) rfl ?_
  refine ar (ro_call (evL_cons up_h evL_nil) rfl (lineErr_ok l hl) y64_hcf14) rfl <| ar (ro_assign up_h) rfl <| ae8 (up_m rfl (u2 rfl s2_18)) (up_m rfl (u2 rfl s3_18)) (up_m rfl (u2 rfl s5_18)) (up_m rfl (u2 rfl s6_18)) (up_m rfl (u2 rfl s7_18)) (up_m rfl (u2 rfl s8_18)) (up_m rfl (u2 rfl s9_18)) up_h ?_; clear s2_18 s3_18 s5_18 s6_18 s7_18 s8_18 s9_18; intro e_19 s2_19 s3_19 s5_19 s6_19 s7_19 s8_19 s9_19 s10_19
  refine then_n <| aw_seq <| at_ <| ar (ro_move s10_19) rfl <| ar (ro_neq up_h ev_c) rfl <| ae9 (u2 rfl s2_19) (u2 rfl s3_19) (u2 rfl s5_19) (u2 rfl s6_19) (u2 rfl s7_19) (u2 rfl s8_19) (u2 rfl s9_19) (u2 rfl s10_19) up_h ?_; clear s10_19 s2_19 s3_19 s5_19 s6_19 s7_19 s8_19 s9_19; intro e_20 s2_20 s3_20 s5_20 s6_20 s7_20 s8_20 s9_20 s10_20 s42_20
  refine then_n <| aw_case s42_20 (fun hq_21 => ?_) (fun hq_21 => ?_)
  · replace hq_21 := bnt hq_21; exfalso; omega
  replace hq_21 := bnf hq_21
  refine aw_skip <| then_n <| aw_seq <| aw_seq <| at_ <| ar (ro_fld_ptr y64_fl61_2 rfl s3_20) rfl <| ar (ro_eq (ro_ld_ptr y64_ty3 rfl mo1_17 up_h (nle rfl)) (by simp only [pS, Value.cells, Nat.reduceAdd, jnE] <;> rfl)) rfl ?_
  refine ar (ro_call (evL_cons up_h (evL_cons ev_c (evL_cons ev_c evL_nil))) rfl ((bWithin_ok _ _ _).mono (fun q h => show q = tbA true from h.trans (by rw [hy]))) y64_hcf30) rfl ?_
  refine ar (ro_not up_h) rfl <| ae8 (u4 rfl s2_20) (u4 rfl s3_20) (u4 rfl s5_20) (u4 rfl s6_20) (u4 rfl s7_20) (u4 rfl s8_20) (u4 rfl s9_20) up_h ?_; clear s10_20 s2_20 s3_20 s42_20 s5_20 s6_20 s7_20 s8_20 s9_20; intro e_22 s2_22 s3_22 s5_22 s6_22 s7_22 s8_22 s9_22 s64_22
  refine then_n <| aw_case s64_22 (fun hq_23 => ?_) (fun hq_23 => ?_)
  · cases hq_23
  replace hq_23 := bf' hq_23
  refine aw_seq <| aw_draw 11 (by kernel_rfl) (by kernel_rfl) (by kernel_rfl) (by kernel_rfl) ?_
  refine dr (ro_move s8_22) rfl <| dr (ro_neq up_h ev_c) rfl <| dr (ro_move up_h) rfl <| ds_case up_h (fun hb_24 hq_24 => ?_) (fun hb_24 hq_24 => ?_)
  · cases hq_24
  replace hq_24 := bnf hq_24
  refine ds_ro' (ro_eq (ro_ld_ptr y64_ty26 rfl mo3_17 (up_m rfl (u2 rfl s7_22)) (nle rfl)) (by simp only [pS, Value.cells, Nat.reduceAdd, jnE] <;> rfl)) ⟨_, rfl, hb_24⟩ rfl ?_
  refine ds_ro' (ro_eq (ro_ld_ptr y64_ty26 rfl mo0_17 (u4 rfl s2_22) (nle rfl)) (by simp only [pS, Value.cells, Nat.reduceAdd, jnE] <;> rfl)) ⟨_, rfl, (up_m rfl hb_24)⟩ rfl ?_
  refine ds_ro' (ro_fld_ptr y64_fl61_2 rfl (up_m rfl (u4 rfl s3_22))) ⟨_, rfl, (u2 rfl hb_24)⟩ rfl ?_
  refine ds_ro' (ro_eq (ro_ld_ptr y64_ty3 rfl mo1_17 up_h (nle rfl)) (by simp only [pS, Value.cells, Nat.reduceAdd, jnE] <;> rfl)) ⟨_, rfl, (up_m rfl (u2 rfl hb_24))⟩ rfl ?_
  refine ds_ro' (ro_call (evL_cons (u2 rfl up_h) (evL_cons up_h evL_nil)) rfl (rWarmed_ok l hl hr y hy2) y64_hcf35) ⟨_, rfl, (u4 rfl hb_24)⟩ rfl ?_
  refine ds_ro' (ro_call (evL_cons (u4 rfl up_h) (evL_cons up_h evL_nil)) rfl (same_refl _ (warL_sho hl y)) y64_hcf34) ⟨_, rfl, (up_m rfl (u4 rfl hb_24))⟩ rfl ?_
  refine ds_ro' (ro_not up_h) ⟨_, rfl, (u2 rfl (u4 rfl hb_24))⟩ rfl ?_
  refine dr (ro_pickF (up_m rfl (u2 rfl (u4 rfl hb_24))) up_h) rfl <| ds_nil <| ae5 (up_m rfl (u2 rfl (u8 rfl s2_22))) (up_m rfl (u2 rfl (u8 rfl s3_22))) (up_m rfl (u2 rfl (u8 rfl s5_22))) (up_m rfl (u2 rfl (u8 rfl s6_22))) up_h ?_; clear hb_24 s2_22 s3_22 s5_22 s64_22 s6_22 s7_22 s8_22 s9_22; intro e_28 s2_28 s3_28 s5_28 s6_28 s83_28
  refine then_n <| aw_case s83_28 (fun hq_29 => ?_) (fun hq_29 => ?_)
  · cases hq_29
  replace hq_29 := bf' hq_29
  refine aw_skip <| then_n <| aw_seq <| at_ <| ar (ro_eq (ro_ld_ptr y64_ty26 rfl mo0_17 s2_28 (nle rfl)) (by simp only [pS, Value.cells, Nat.reduceAdd, jnE] <;> rfl)) rfl ?_
  refine ar (ro_fld_ptr y64_fl61_0 rfl (up_m rfl s3_28)) rfl <| ar (ro_eq (ro_ld_ptr y64_ty3 rfl mo1_17 up_h (nle rfl)) (by simp only [pS, Value.cells, Nat.reduceAdd, jnE] <;> rfl)) rfl ?_
  refine ar (ro_call (evL_cons (u2 rfl up_h) (evL_cons up_h evL_nil)) rfl ((jointErr_ok l hl n).mono (fun q h => show q = mA 0 from h.trans (by rw [hm]))) y64_hcf36) rfl ?_
  refine ar (ro_assign up_h) rfl <| ae5 (up_m rfl (u4 rfl s2_28)) (up_m rfl (u4 rfl s3_28)) (up_m rfl (u4 rfl s5_28)) (up_m rfl (u4 rfl s6_28)) up_h ?_; clear s2_28 s3_28 s5_28 s6_28 s83_28; intro e_31 s2_31 s3_31 s5_31 s6_31 s11_31
  refine then_n <| aw_seq <| at_ <| al_stm (st_alloc y64_az26 rfl ml_17) trivial rfl (fun m_32 hm_32 => ?_)
  have mo5_32 := m_push hm_32 ml_17
  simp only [pS, Value.cells, Nat.reduceAdd, jnE] at mo5_32
  have mo4_32 := m_push_o hm_32 mo4_17
  have mo3_32 := m_push_o hm_32 mo3_17
  have mo2_32 := m_push_o hm_32 mo2_17
  have mo1_32 := m_push_o hm_32 mo1_17
  have mo0_32 := m_push_o hm_32 mo0_17
  have ml_32 := m_push_l hm_32 ml_17
  have ml_32 : _ = 6 := ml_32
  clear hm_32 mo4_17 mo3_17 mo2_17 mo1_17 mo0_17
  refine ae6 (up_m rfl s2_31) (up_m rfl s3_31) (up_m rfl s5_31) (up_m rfl s6_31) (up_m rfl s11_31) up_h ?_; clear s11_31 s2_31 s3_31 s5_31 s6_31; intro e_33 s2_33 s3_33 s5_33 s6_33 s11_33 s12_33
  refine then_n <| aw_seq <| aw_seq <| at_ <| ar (ro_move s11_33) rfl <| ar (ro_eql up_h ev_c) rfl ?_
  refine ae7 (u2 rfl s2_33) (u2 rfl s3_33) (u2 rfl s5_33) (u2 rfl s6_33) (u2 rfl s11_33) (u2 rfl s12_33) up_h ?_; clear s11_33 s12_33 s2_33 s3_33 s5_33 s6_33; intro e_34 s2_34 s3_34 s5_34 s6_34 s11_34 s12_34 s89_34
  refine then_n <| aw_case s89_34 (fun hq_35 => ?_) (fun hq_35 => ?_)
  ·replace hq_35 := bt hq_35
   refine at_ <| ar (ro_eq (ro_ld_ptr y64_ty26 rfl mo0_32 s2_34 (nle rfl)) (by simp only [pS, Value.cells, Nat.reduceAdd, jnE] <;> rfl)) rfl ?_
   refine ar (ro_fld_ptr y64_fl61_0 rfl (up_m rfl s3_34)) rfl <| ar (ro_eq (ro_ld_ptr y64_ty3 rfl mo1_32 up_h (nle rfl)) (by simp only [pS, Value.cells, Nat.reduceAdd, jnE] <;> rfl)) rfl ?_
   refine ar (ro_fld_ptr y64_fl61_1 rfl (up_m rfl (u2 rfl s3_34))) rfl <| ar (ro_eq (ro_ld_ptr y64_ty39 rfl mo1_32 up_h (nle rfl)) (by simp only [pS, Value.cells, Nat.reduceAdd, jnE] <;> rfl)) rfl ?_
   refine ar (ro_call (evL_cons (u4 rfl up_h) (evL_cons (u2 rfl up_h) (evL_cons up_h evL_nil))) rfl ((rSurveyed_in l hl hr n a b hm2).mono (fun q h => h.trans hS)) y64_hcf37) rfl ?_
   refine ar (ro_move up_h) rfl <| ar (ro_extract up_h rfl) rfl <| ar (ro_extract (up_m rfl up_h) rfl) rfl <| al_stm (st_store (up_m rfl (u8 rfl s12_34)) (up_m rfl up_h) rfl rfl mo5_32 y64_sz26 rfl (nle rfl)) trivial rfl (fun m_36 hm_36 => ?_)
   have mo5_36 := m_set hm_36 mo5_32
   simp only [pS, Value.cells, Nat.reduceAdd, jnE] at mo5_36
   have mo4_36 := m_set_o hm_36 mo4_32 (by decide)
   have mo3_36 := m_set_o hm_36 mo3_32 (by decide)
   have mo2_36 := m_set_o hm_36 mo2_32 (by decide)
   have mo1_36 := m_set_o hm_36 mo1_32 (by decide)
   have mo0_36 := m_set_o hm_36 mo0_32 (by decide)
   have ml_36 := m_set_l hm_36 ml_32
   clear hm_36 mo5_32 mo4_32 mo3_32 mo2_32 mo1_32 mo0_32
   refine ar (ro_assign (up_n up_h)) rfl <| ae6 (up_m rfl (up_n (up_m rfl (u8 rfl s2_34)))) (up_m rfl (up_n (up_m rfl (u8 rfl s3_34)))) (up_m rfl (up_n (up_m rfl (u8 rfl s5_34)))) (up_m rfl (up_n (up_m rfl (u8 rfl s6_34)))) up_h (up_m rfl (up_n (up_m rfl (u8 rfl s12_34)))) ?_; clear s11_34 s12_34 s2_34 s3_34 s5_34 s6_34 s89_34; intro e_37 s2_37 s3_37 s5_37 s6_37 s11_37 s12_37
   refine then_n <| aw_seq <| aw_seq <| at_ <| ar (ro_move s6_37) rfl <| ar (ro_move (up_m rfl s11_37)) rfl <| ar (ro_neq (up_m rfl up_h) up_h) rfl <| ar (ro_move up_h) rfl <| al_case up_h (fun hb_38 hq_38 => ?_) (fun hb_38 hq_38 => ?_)
   · replace hq_38 := bnt hq_38; exfalso; omega
   replace hq_38 := bnf hq_38
   refine al_ro' (ro_eq (ro_ld_ptr y64_ty26 rfl mo2_36 (u4 rfl s5_37) (nle rfl)) (by simp only [pS, Value.cells, Nat.reduceAdd, jnE] <;> rfl)) ⟨_, rfl, hb_38⟩ rfl ?_
   refine al_ro' (ro_eq (ro_ld_ptr y64_ty26 rfl mo5_36 (up_m rfl (u4 rfl s12_37)) (nle rfl)) (by simp only [pS, Value.cells, Nat.reduceAdd, jnE] <;> rfl)) ⟨_, rfl, (up_m rfl hb_38)⟩ rfl ?_
   refine al_ro' (ro_call (evL_cons (up_m rfl up_h) (evL_cons up_h evL_nil)) rfl (same_refl A hA) y64_hcf34) ⟨_, rfl, (u2 rfl hb_38)⟩ rfl ?_
   refine al_ro' (ro_not up_h) ⟨_, rfl, (up_m rfl (u2 rfl hb_38))⟩ rfl ?_
   refine ar (ro_pickF (u4 rfl hb_38) up_h) rfl <| ae5 (up_m rfl (u8 rfl s2_37)) (up_m rfl (u8 rfl s3_37)) (up_m rfl (u8 rfl s5_37)) (up_m rfl (u8 rfl s11_37)) up_h ?_; clear hb_38 s11_37 s12_37 s2_37 s3_37 s5_37 s6_37; intro e_42 s2_42 s3_42 s5_42 s11_42 s107_42
   refine then_n <| aw_case s107_42 (fun hq_43 => ?_) (fun hq_43 => ?_)
   · cases hq_43
   replace hq_43 := bf' hq_43
   refine aw_skip <| then_n <| aw_seq <| aw_seq <| at_ <| ar (ro_move s11_42) rfl <| ar (ro_neq up_h ev_c) rfl <| ae4 (u2 rfl s2_42) (u2 rfl s3_42) (u2 rfl s5_42) up_h ?_; clear s107_42 s11_42 s2_42 s3_42 s5_42; intro e_45 s2_45 s3_45 s5_45 s109_45
   refine then_n <| aw_case s109_45 (fun hq_46 => ?_) (fun hq_46 => ?_)
   ·replace hq_46 := bnt hq_46
    refine aw_seq <| at_ <| ar (ro_assign ev_c) rfl <| ae1 up_h ?_; clear s109_45 s2_45 s3_45 s5_45; intro e_47 s4_47
    refine then_n <| aw_ret <| then_r <| ret1 (.inr rfl) (by kernel_rfl) (resV_tmp s4_47) (.ro _ rfl) ?_
    clear s4_47 mo5_36 mo4_36 mo3_36 mo2_36 mo1_36 mo0_36 ml_36
    first | rfl | simp_all
   replace hq_46 := bnf hq_46
   (have hd0 : d = 0 := (by omega); obtain ⟨g1, g2, g3, g4⟩ := hd hd0)
   refine aw_skip <| then_n <| aw_seq <| aw_drawK 17 2 ml_36 (by kernel_rfl) (by kernel_rfl) (by kernel_rfl) (by kernel_rfl) (fun m_48 hm_48 => ?_)
   have mo5_48 := m_room_o hm_48 mo5_36
   have mo4_48 := m_room_o hm_48 mo4_36
   have mo3_48 := m_room_o hm_48 mo3_36
   have mo2_48 := m_room_o hm_48 mo2_36
   have mo1_48 := m_room_o hm_48 mo1_36
   have mo0_48 := m_room_o hm_48 mo0_36
   have mo6_48 : m_48[6]? = _ := m_room_g hm_48 ml_36 0 rfl rfl
   have mo7_48 : m_48[7]? = _ := m_room_g hm_48 ml_36 1 rfl rfl
   have ml_48 : _ = 8 := m_room_l (K := 2) hm_48 ml_36
   clear hm_48 mo5_36 mo4_36 mo3_36 mo2_36 mo1_36 mo0_36 ml_36
   refine dh_ro (fun M_ hM_ => (ro_fld_ptr y64_fl26_1 rfl s2_45)) trivial ?_
   refine dh_ld (0) (fun M_ hM_ => (ro_eq (ro_ld_ptr y64_ty22 rfl (agr hM_ mo0_48 (by simp)) up_h (nle rfl)) (by simp only [pS, Value.cells, Nat.reduceAdd, jnE] <;> rfl))) trivial trivial ?_
   refine dh_ro (fun M_ hM_ => (ro_fld_ptr y64_fl61_0 rfl (u2 rfl s3_45))) trivial ?_
   refine dh_ld (1) (fun M_ hM_ => (ro_eq (ro_ld_ptr y64_ty3 rfl (agr hM_ mo1_48 (by simp)) up_h (nle rfl)) (by simp only [pS, Value.cells, Nat.reduceAdd, jnE] <;> rfl))) trivial trivial ?_
   refine dh_ro (fun M_ hM_ => (ro_eq (ro_ix y64_sl22 (u2 rfl up_h) up_h (by omega) (by first | (refine idx_map ?_; first | omega | (simp only [lnS]; omega)) | (refine idx_mapI ?_; first | omega | (simp only [lnS]; omega)) | (refine idx_mapN ?_; first | omega | (simp only [lnS]; omega)) | rfl)) (by simp only [pS, Value.cells, Nat.reduceAdd, jnE] <;> rfl))) trivial ?_
   refine dh_ro (fun M_ hM_ => (ro_eq (ro_fld_ref y64_fl70_2 rfl up_h) (by simp only [pS, Value.cells, Nat.reduceAdd, jnE] <;> rfl))) trivial ?_
   refine dh_ro (fun M_ hM_ => (ro_eq (ro_ld_ref y64_ty39 rfl up_h (nle rfl)) (by simp only [pS, Value.cells, Nat.reduceAdd, jnE] <;> rfl))) trivial ?_
   refine dh_ro (fun M_ hM_ => (ro_fld_ptr y64_fl26_1 rfl (up_m rfl (u2 rfl (u4 rfl s5_45))))) trivial ?_
   refine dh_ld (2) (fun M_ hM_ => (ro_eq (ro_ld_ptr y64_ty22 rfl (agr hM_ mo2_48 (by simp)) up_h (nle rfl)) (by simp only [pS, Value.cells, Nat.reduceAdd, jnE] <;> rfl))) trivial trivial ?_
   refine dh_ro (fun M_ hM_ => (ro_fld_ptr y64_fl61_0 rfl (up_m rfl (u8 rfl s3_45)))) trivial ?_
   refine dh_ld (1) (fun M_ hM_ => (ro_eq (ro_ld_ptr y64_ty3 rfl (agr hM_ mo1_48 (by simp)) up_h (nle rfl)) (by simp only [pS, Value.cells, Nat.reduceAdd, jnE] <;> rfl))) trivial trivial ?_
   refine dh_ro (fun M_ hM_ => (ro_eq (ro_ix y64_sl22 (u2 rfl up_h) up_h (by omega) (by first | (refine idx_map ?_; first | omega | (simp only [lnS]; omega)) | (refine idx_mapI ?_; first | omega | (simp only [lnS]; omega)) | (refine idx_mapN ?_; first | omega | (simp only [lnS]; omega)) | rfl)) (by simp only [pS, Value.cells, Nat.reduceAdd, jnE] <;> rfl))) trivial ?_
   refine dh_ro (fun M_ hM_ => (ro_eq (ro_fld_ref y64_fl70_2 rfl up_h) (by simp only [pS, Value.cells, Nat.reduceAdd, jnE] <;> rfl))) trivial ?_
   refine dh_ro (fun M_ hM_ => (ro_eq (ro_ld_ref y64_ty39 rfl up_h (nle rfl)) (by simp only [pS, Value.cells, Nat.reduceAdd, jnE] <;> rfl))) trivial ?_
   refine dh_nw (6) (fun M_ hM_ => (nw_alloc y64_az39 rfl)) trivial mo6_48 rfl trivial ⟨.inl (by simp <;> omega), ⟨.inl (by simp <;> omega), ⟨.inl (by simp <;> omega), ⟨.inl (by simp <;> omega), trivial⟩⟩⟩⟩ (fun m_49 hm_49 => ?_)
   have mo6_49 := m_set hm_49 mo6_48
   simp only [pS, Value.cells, Nat.reduceAdd, jnE] at mo6_49
   have mo5_49 := m_set_o hm_49 mo5_48 (by decide)
   have mo4_49 := m_set_o hm_49 mo4_48 (by decide)
   have mo3_49 := m_set_o hm_49 mo3_48 (by decide)
   have mo2_49 := m_set_o hm_49 mo2_48 (by decide)
   have mo1_49 := m_set_o hm_49 mo1_48 (by decide)
   have mo0_49 := m_set_o hm_49 mo0_48 (by decide)
   have mo7_49 := m_set_o hm_49 mo7_48 (by decide)
   have ml_49 := m_set_l hm_49 ml_48
   clear hm_49 mo5_48 mo4_48 mo3_48 mo2_48 mo1_48 mo0_48 mo6_48 mo7_48
   refine dh_nw (7) (fun M_ hM_ => (nw_alloc y64_az39 rfl)) trivial mo7_49 rfl ⟨.inl (by simp <;> omega), trivial⟩ ⟨.inl (by simp <;> omega), ⟨.inl (by simp <;> omega), ⟨.inl (by simp <;> omega), ⟨.inl (by simp <;> omega), ⟨.inl (by simp <;> omega), trivial⟩⟩⟩⟩⟩ (fun m_50 hm_50 => ?_)
   have mo7_50 := m_set hm_50 mo7_49
   simp only [pS, Value.cells, Nat.reduceAdd, jnE] at mo7_50
   have mo6_50 := m_set_o hm_50 mo6_49 (by decide)
   have mo5_50 := m_set_o hm_50 mo5_49 (by decide)
   have mo4_50 := m_set_o hm_50 mo4_49 (by decide)
   have mo3_50 := m_set_o hm_50 mo3_49 (by decide)
   have mo2_50 := m_set_o hm_50 mo2_49 (by decide)
   have mo1_50 := m_set_o hm_50 mo1_49 (by decide)
   have mo0_50 := m_set_o hm_50 mo0_49 (by decide)
   have ml_50 := m_set_l hm_50 ml_49
   clear hm_50 mo6_49 mo5_49 mo4_49 mo3_49 mo2_49 mo1_49 mo0_49 mo7_49
   refine dh_set (6) (fun M_ hM_ => (se_store (up_m rfl up_h) (up_m rfl (u8 rfl up_h)) rfl rfl (agr hM_ mo6_50 (by simp)) y64_sz39 rfl (nle rfl))) trivial ⟨.inr (wt_one 16 14 (by kernel_rfl)), ⟨.inl (by simp <;> omega), trivial⟩⟩ ⟨.inl (by simp <;> omega), ⟨.inl (by simp <;> omega), ⟨.inl (by simp <;> omega), ⟨.inl (by simp <;> omega), ⟨.inr (wt_one 16 14 (by kernel_rfl)), ⟨.inl (by simp <;> omega), trivial⟩⟩⟩⟩⟩⟩ (fun m_51 hm_51 => ?_)
   have mo6_51 := m_set hm_51 mo6_50
   simp only [pS, Value.cells, Nat.reduceAdd, jnE] at mo6_51
   have mo7_51 := m_set_o hm_51 mo7_50 (by decide)
   have mo5_51 := m_set_o hm_51 mo5_50 (by decide)
   have mo4_51 := m_set_o hm_51 mo4_50 (by decide)
   have mo3_51 := m_set_o hm_51 mo3_50 (by decide)
   have mo2_51 := m_set_o hm_51 mo2_50 (by decide)
   have mo1_51 := m_set_o hm_51 mo1_50 (by decide)
   have mo0_51 := m_set_o hm_51 mo0_50 (by decide)
   have ml_51 := m_set_l hm_51 ml_50
   clear hm_51 mo7_50 mo6_50 mo5_50 mo4_50 mo3_50 mo2_50 mo1_50 mo0_50
   refine dh_nil rfl ?_
   refine al_stm (st_store (up_n up_h) (up_n (u2 rfl up_h)) rfl rfl mo7_51 y64_sz39 rfl (nle rfl)) trivial rfl (fun m_52 hm_52 => ?_)
   have mo7_52 := m_set hm_52 mo7_51
   simp only [pS, Value.cells, Nat.reduceAdd, jnE] at mo7_52
   have mo6_52 := m_set_o hm_52 mo6_51 (by decide)
   have mo5_52 := m_set_o hm_52 mo5_51 (by decide)
   have mo4_52 := m_set_o hm_52 mo4_51 (by decide)
   have mo3_52 := m_set_o hm_52 mo3_51 (by decide)
   have mo2_52 := m_set_o hm_52 mo2_51 (by decide)
   have mo1_52 := m_set_o hm_52 mo1_51 (by decide)
   have mo0_52 := m_set_o hm_52 mo0_51 (by decide)
   have ml_52 := m_set_l hm_52 ml_51
   clear hm_52 mo6_51 mo7_51 mo5_51 mo4_51 mo3_51 mo2_51 mo1_51 mo0_51
   refine ae2 (up_n (up_n (up_m rfl up_h))) (up_n (up_n up_h)) ?_; clear s109_45 s2_45 s3_45 s5_45; intro e_53 s13_53 s14_53
   refine then_n <| aw_seq <| at_ <| ar (ro_fld_ptr y64_fl39_0 rfl s13_53) rfl <| ar (ro_eq (ro_ld_ptr y64_ty3 rfl mo6_52 up_h (nle rfl)) (by simp only [pS, Value.cells, Nat.reduceAdd, jnE] <;> rfl)) rfl ?_
   refine ar (ro_fld_ptr y64_fl39_0 rfl (u2 rfl s14_53)) rfl <| ar (ro_eq (ro_ld_ptr y64_ty3 rfl mo7_52 up_h (nle rfl)) (by simp only [pS, Value.cells, Nat.reduceAdd, jnE] <;> rfl)) rfl ?_
   refine ar (ro_leq (u2 rfl up_h) up_h) rfl <| ar (ro_move up_h) rfl <| al_case up_h (fun hb_54 hq_54 => ?_) (fun hb_54 hq_54 => ?_)
   ·replace hq_54 := bt hq_54
    refine al_ro' (ro_fld_ptr y64_fl39_0 rfl (u2 rfl (u4 rfl s14_53))) ⟨_, rfl, hb_54⟩ rfl ?_
    refine al_ro' (ro_eq (ro_ld_ptr y64_ty3 rfl mo7_52 up_h (nle rfl)) (by simp only [pS, Value.cells, Nat.reduceAdd, jnE] <;> rfl)) ⟨_, rfl, (up_m rfl hb_54)⟩ rfl ?_
    refine al_ro' (ro_fld_ptr y64_fl39_1 rfl (u8 rfl s14_53)) ⟨_, rfl, (u2 rfl hb_54)⟩ rfl ?_
    refine al_ro' (ro_eq (ro_ld_ptr y64_ty3 rfl mo7_52 up_h (nle rfl)) (by simp only [pS, Value.cells, Nat.reduceAdd, jnE] <;> rfl)) ⟨_, rfl, (up_m rfl (u2 rfl hb_54))⟩ rfl ?_
    refine al_ro' (ro_leq (u2 rfl up_h) up_h) ⟨_, rfl, (u4 rfl hb_54)⟩ rfl ?_
    refine ar (ro_pickT (up_m rfl (u4 rfl hb_54)) up_h) rfl <| ar (ro_move up_h) rfl <| al_case up_h (fun hb_55 hq_55 => ?_) (fun hb_55 hq_55 => ?_)
    ·replace hq_55 := bt hq_55
     refine al_ro' (ro_fld_ptr y64_fl39_1 rfl (up_m rfl (u4 rfl (u8 rfl s14_53)))) ⟨_, rfl, hb_55⟩ rfl ?_
     refine al_ro' (ro_eq (ro_ld_ptr y64_ty3 rfl mo7_52 up_h (nle rfl)) (by simp only [pS, Value.cells, Nat.reduceAdd, jnE] <;> rfl)) ⟨_, rfl, (up_m rfl hb_55)⟩ rfl ?_
     refine al_ro' (ro_fld_ptr y64_fl39_1 rfl (up_m rfl (u2 rfl (u4 rfl (u8 rfl s13_53))))) ⟨_, rfl, (u2 rfl hb_55)⟩ rfl ?_
     refine al_ro' (ro_eq (ro_ld_ptr y64_ty3 rfl mo6_52 up_h (nle rfl)) (by simp only [pS, Value.cells, Nat.reduceAdd, jnE] <;> rfl)) ⟨_, rfl, (up_m rfl (u2 rfl hb_55))⟩ rfl ?_
     refine al_ro' (ro_leq (u2 rfl up_h) up_h) ⟨_, rfl, (u4 rfl hb_55)⟩ rfl ?_
     refine ar (ro_pickT (up_m rfl (u4 rfl hb_55)) up_h) rfl <| ar (ro_assign up_h) rfl <| ae1 up_h ?_; clear hb_54 hb_55 s13_53 s14_53; intro e_56 s4_56
     refine then_n <| aw_ret <| ret1 (.inr rfl) (by kernel_rfl) (resV_tmp s4_56) (.ro _ rfl) ?_
     clear s4_56 mo7_52 mo6_52 mo5_52 mo4_52 mo3_52 mo2_52 mo1_52 mo0_52 ml_52
     first | rfl | simp_all
    · replace hq_55 := bf hq_55; exfalso; omega
   · replace hq_54 := bf hq_54; exfalso; omega
  · cases hq_35
theorem lineSurveys_ok (l : Lin) (n a b y : Int) : FnOk Try.prog 6 [lnA l, .agg [mA n, mA a, mA b, mA y]] (fun q => q = tbA true) := by
  cases hf : fewL l with
  | false => exact lineSurveys_many l hf n a b y
  | true =>
    have hl := fewL_sho hf
    by_cases hg : (linM l).2 = 0
    · by_cases hm : misE n 0 (l.js.length - 1) = 0
      · have hm2 := misE_z.1 hm
        obtain ⟨A, d, hA, hS, hd⟩ : ∃ (A : Lin) (d : Int), Sho A ∧ surA l n.toNat a b = .tuple [lnA A, mA d] ∧ (d = 0 → n.toNat < A.js.length ∧ (l.js.getD n.toNat default).lo ≤ (A.js.getD n.toNat default).lo ∧ (A.js.getD n.toNat default).lo ≤ (A.js.getD n.toNat default).hi ∧ (A.js.getD n.toNat default).hi ≤ (l.js.getD n.toNat default).hi) := by
          by_cases hx : surX l n.toNat a b = 0
          · exact ⟨surL l n.toNat a b, 0, surL_sho hl _ _ _, surA_0 hx, fun _ => surL_at (by omega) hx⟩
          · exact ⟨nonL, _, nonL_sho, surA_n hx, fun h => absurd h hx⟩
        cases hy : withinB y 0 100 with
        | false => exact lineSurveys_far l hf hg n a b y hm hy A d hA hS hd
        | true => exact lineSurveys_in l hf hg n a b y hm hy A d hA hS hd
      · cases hy : withinB y 0 100 with
        | false => exact lineSurveys_missFar l hf hg n a b y hm hy
        | true => exact lineSurveys_missIn l hf hg n a b y hm hy
    · exact lineSurveys_bad l hf hg n a b y
end Go.Proofs.Ytonjcljnpcmenaa

