/- Texts of this claim, one behind the other: lemmas for the statement. -/
import Derived.Test.YtonjcljnpcmenaaM7
import Derived.Test.YtonjcljnpcmenaaM9
import Derived.Test.YtonjcljnpcmenaaA31
/- Contracts of chapter 1: a line held against itself; how far surveys and warmth move ranges. No conditions on a program. -/
namespace Go.Proofs.Ytonjcljnpcmenaa
open Go Go.RowKit Go.Proofs
set_option linter.unusedSimpArgs false
set_option linter.unusedVariables false
theorem y62_az91 : (Try.prog.info? 91).bind (·.zero) = some (.agg #[.string ByteArray.empty, .int .i64 0, .slice none 0 0]) := by kernel_rfl
theorem y62_fl26_0 : FldIs Try.prog 26 0 0 false 1 := by unfold FldIs; kernel_rfl
theorem y62_fl26_1 : FldIs Try.prog 26 1 1 false 1 := by unfold FldIs; kernel_rfl
theorem y62_fl26_2 : FldIs Try.prog 26 2 2 false 1 := by unfold FldIs; kernel_rfl
theorem y62_fl26_3 : FldIs Try.prog 26 3 3 false 1 := by unfold FldIs; kernel_rfl
theorem y62_fl91_0 : FldIs Try.prog 91 0 0 false 1 := by unfold FldIs; kernel_rfl
theorem y62_fl91_1 : FldIs Try.prog 91 1 1 false 1 := by unfold FldIs; kernel_rfl
theorem y62_fl91_2 : FldIs Try.prog 91 2 2 false 1 := by unfold FldIs; kernel_rfl
theorem y62_hcf26 : ∀ args w, (callFunc 26 args).run Try.prog w = .ok (.enter 26 args) w := fun _ _ => by kernel_rfl
theorem y62_sl22 : SlIs Try.prog 22 70 4 32 (.agg #[.int .i64 0, .int .i64 0, .int .i64 0, .int .i64 0]) := ⟨by kernel_rfl, by kernel_rfl, by kernel_rfl⟩
theorem y62_sl23 : SlIs Try.prog 23 87 2 16 (.agg #[.int .i64 0, .int .i64 0]) := ⟨by kernel_rfl, by kernel_rfl, by kernel_rfl⟩
theorem y62_sl24 : SlIs Try.prog 24 91 3 48 (.agg #[.string ByteArray.empty, .int .i64 0, .slice none 0 0]) := ⟨by kernel_rfl, by kernel_rfl, by kernel_rfl⟩
theorem y62_gq70 : Try.prog.eqGuardType Try.prog.depth 70 = false := by kernel_rfl
theorem y62_sq70 {a0 b0 : Int} {a1 b1 : Int} {a2 b2 : Int} {a3 b3 : Int} : EqV Try.prog 3 70 (.agg #[.int .i64 a0, .int .i64 a1, .int .i64 a2, .int .i64 a3]) (.agg #[.int .i64 b0, .int .i64 b1, .int .i64 b2, .int .i64 b3]) (decide (a0 = b0) && (decide (a1 = b1) && ((decide (a2 = b2) && (decide (a3 = b3) && true)) && true))) := (eqs_struct [(3, 0), (3, 1), (39, 2)] (by kernel_rfl) (by kernel_rfl) (by kernel_rfl) (by kernel_rfl) (.cons (fun _ => by kernel_rfl) (fun _ => by kernel_rfl) (EqV.up (eqv_int (k := .i64) (k' := .i64) (by kernel_rfl) a0 b0) 1) (.cons (fun _ => by kernel_rfl) (fun _ => by kernel_rfl) (EqV.up (eqv_int (k := .i64) (k' := .i64) (by kernel_rfl) a1 b1) 1) (.cons (x := .agg #[.int .i64 a2, .int .i64 a3]) (y := .agg #[.int .i64 b2, .int .i64 b3]) (fun _ => by kernel_rfl) (fun _ => by kernel_rfl) (eqs_struct [(3, 0), (3, 1)] (by kernel_rfl) (by kernel_rfl) (by kernel_rfl) (by kernel_rfl) (.cons (fun _ => by kernel_rfl) (fun _ => by kernel_rfl) (eqv_int (k := .i64) (k' := .i64) (by kernel_rfl) a2 b2) (.cons (fun _ => by kernel_rfl) (fun _ => by kernel_rfl) (eqv_int (k := .i64) (k' := .i64) (by kernel_rfl) a3 b3) .nil))) .nil))))
theorem y62_gq87 : Try.prog.eqGuardType Try.prog.depth 87 = false := by kernel_rfl
theorem y62_sq87 {a0 b0 : Int} {a1 b1 : Int} : EqV Try.prog 2 87 (.agg #[.int .i64 a0, .int .i64 a1]) (.agg #[.int .i64 b0, .int .i64 b1]) (decide (a0 = b0) && (decide (a1 = b1) && true)) := (eqs_struct [(3, 0), (3, 1)] (by kernel_rfl) (by kernel_rfl) (by kernel_rfl) (by kernel_rfl) (.cons (fun _ => by kernel_rfl) (fun _ => by kernel_rfl) (eqv_int (k := .i64) (k' := .i64) (by kernel_rfl) a0 b0) (.cons (fun _ => by kernel_rfl) (fun _ => by kernel_rfl) (eqv_int (k := .i64) (k' := .i64) (by kernel_rfl) a1 b1) .nil)))
theorem y62_sz91 : (Try.prog.info? 91).map (·.size) = some 3 := by kernel_rfl
theorem y62_ty22 : TyIs Try.prog 22 false 1 := ⟨by kernel_rfl, by kernel_rfl⟩
theorem y62_ty23 : TyIs Try.prog 23 false 1 := ⟨by kernel_rfl, by kernel_rfl⟩
theorem y62_ty24 : TyIs Try.prog 24 false 1 := ⟨by kernel_rfl, by kernel_rfl⟩
theorem y62_ty3 : TyIs Try.prog 3 false 1 := ⟨by kernel_rfl, by kernel_rfl⟩
theorem y62_ty49 : TyIs Try.prog 49 false 1 := ⟨by kernel_rfl, by kernel_rfl⟩
theorem y62_ty70 : TyIs Try.prog 70 true 4 := ⟨by kernel_rfl, by kernel_rfl⟩
theorem y62_ty87 : TyIs Try.prog 87 true 2 := ⟨by kernel_rfl, by kernel_rfl⟩
theorem y62_ty9 : TyIs Try.prog 9 false 1 := ⟨by kernel_rfl, by kernel_rfl⟩
theorem y62_ty91 : TyIs Try.prog 91 true 3 := ⟨by kernel_rfl, by kernel_rfl⟩

set_option maxRecDepth 100000 in
set_option maxHeartbeats 4000000 in
theorem same_refl (l : Lin) (hl : Sho l) : FnOk Try.prog 34 [lnA l, lnA l] (fun q => q = tbA true) := by
  obtain ⟨h1, h2, h3, h4, h5⟩ := id hl
  refine fnOk_of (fn := Try.f34) 115 (by kernel_rfl) rfl (by kernel_rfl) (Nat.le_of_ble_eq_true rfl) ?_
  intro e_0 m_0 hA hm_0
  have s0_0 : evA e_0 (.tmp 0) = _ := hA 0 _ rfl
  have s1_0 : evA e_0 (.tmp 1) = _ := hA 1 _ rfl
  have ml_0 : m_0.length = 0 := by rw [hm_0]; rfl
  clear hA hm_0
  refine aw_seq <| at_ <| al_stm (st_box s0_0 rfl ml_0) trivial rfl (fun m_1 hm_1 => ?_)
  have mo0_1 := m_push hm_1 ml_0
  have ml_1 := m_push_l hm_1 ml_0
  have ml_1 : _ = 1 := ml_1
  clear hm_1
  refine al_stm (st_box (up_m rfl s1_0) rfl ml_1) trivial rfl (fun m_2 hm_2 => ?_)
  have mo1_2 := m_push hm_2 ml_1
  have mo0_2 := m_push_o hm_2 mo0_1
  have ml_2 := m_push_l hm_2 ml_1
  have ml_2 : _ = 2 := ml_2
  clear hm_2 mo0_1
  refine ar (ro_assign ev_c) rfl <| ae2 (u2 rfl up_h) (up_m rfl up_h) ?_; clear s0_0 s1_0; intro e_3 s2_3 s3_3
  refine then_n <| aw_seq <| aw_seq <| at_ <| ar (ro_fld_ptr y62_fl26_0 rfl s2_3) rfl <| ar (ro_eq (ro_ld_ptr y62_ty9 rfl mo0_2 up_h (nle rfl)) (by simp only [pS, Value.cells, Nat.reduceAdd, jnE, beE, swE] <;> rfl)) rfl ?_
  refine ar (ro_fld_ptr y62_fl26_0 rfl (u2 rfl s3_3)) rfl <| ar (ro_eq (ro_ld_ptr y62_ty9 rfl mo1_2 up_h (nle rfl)) (by simp only [pS, Value.cells, Nat.reduceAdd, jnE, beE, swE] <;> rfl)) rfl ?_
  refine ar (ro_sneq (u2 rfl up_h) up_h) rfl <| ar (ro_move up_h) rfl <| al_case up_h (fun hb_4 hq_4 => ?_) (fun hb_4 hq_4 => ?_)
  ·replace hq_4 := bt' hq_4
   refine al_skip' ⟨_, rfl, .inl hb_4⟩ rfl ?_
   refine al_skip' ⟨_, rfl, .inl (up_m rfl hb_4)⟩ rfl ?_
   refine al_skip' ⟨_, rfl, .inl (u2 rfl hb_4)⟩ rfl ?_
   refine al_skip' ⟨_, rfl, .inl (up_m rfl (u2 rfl hb_4))⟩ rfl ?_
   refine al_skip' ⟨_, rfl, .inl (u4 rfl hb_4)⟩ rfl ?_
   refine al_skip' ⟨_, rfl, .inl (up_m rfl (u4 rfl hb_4))⟩ rfl ?_
   refine al_skip' ⟨_, rfl, .inl (u2 rfl (u4 rfl hb_4))⟩ rfl ?_
   refine ar (ro_pickT (up_m rfl (u2 rfl (u4 rfl hb_4))) ev_c) rfl <| ar (ro_move up_h) rfl <| al_skip' ⟨_, rfl, .inl up_h⟩ rfl ?_
   refine al_skip' ⟨_, rfl, .inl (up_m rfl up_h)⟩ rfl ?_
   refine al_skip' ⟨_, rfl, .inl (u2 rfl up_h)⟩ rfl ?_
   refine al_skip' ⟨_, rfl, .inl (up_m rfl (u2 rfl up_h))⟩ rfl ?_
   refine al_skip' ⟨_, rfl, .inl (u4 rfl up_h)⟩ rfl ?_
   refine al_skip' ⟨_, rfl, .inl (up_m rfl (u4 rfl up_h))⟩ rfl ?_
   refine al_skip' ⟨_, rfl, .inl (u2 rfl (u4 rfl up_h))⟩ rfl ?_
   refine ar (ro_pickT (up_m rfl (u2 rfl (u4 rfl up_h))) ev_c) rfl <| ar (ro_move up_h) rfl <| al_skip' ⟨_, rfl, .inl up_h⟩ rfl ?_
   refine al_skip' ⟨_, rfl, .inl (up_m rfl up_h)⟩ rfl ?_
   refine al_skip' ⟨_, rfl, .inl (u2 rfl up_h)⟩ rfl ?_
   refine al_skip' ⟨_, rfl, .inl (up_m rfl (u2 rfl up_h))⟩ rfl ?_
   refine al_skip' ⟨_, rfl, .inl (u4 rfl up_h)⟩ rfl ?_
   refine al_skip' ⟨_, rfl, .inl (up_m rfl (u4 rfl up_h))⟩ rfl ?_
   refine al_skip' ⟨_, rfl, .inl (u2 rfl (u4 rfl up_h))⟩ rfl ?_
   refine ar (ro_pickT (up_m rfl (u2 rfl (u4 rfl up_h))) ev_c) rfl <| ae3 (u16 rfl (u16 rfl s2_3)) (u16 rfl (u16 rfl s3_3)) up_h ?_; clear hb_4 s2_3 s3_3; intro e_5 s2_5 s3_5 s41_5
   refine then_n <| aw_true s41_5 <| aw_seq <| at_ <| ar (ro_assign ev_c) rfl <| ae1 up_h ?_; clear s2_5 s3_5 s41_5; intro e_7 s4_7
   refine then_n <| aw_ret <| then_r <| ret1 (.inr rfl) (by kernel_rfl) (resV_tmp s4_7) (.ro _ rfl) ?_
   clear s4_7 mo1_2 mo0_2 ml_2
   first | rfl | (simp at *; done)
  replace hq_4 := bf' hq_4
  refine al_ro' (ro_fld_ptr y62_fl26_1 rfl (u2 rfl (u4 rfl s2_3))) ⟨_, rfl, hb_4⟩ rfl ?_
  refine al_ro' (ro_eq (ro_ld_ptr y62_ty22 rfl mo0_2 up_h (nle rfl)) (by simp only [pS, Value.cells, Nat.reduceAdd, jnE, beE, swE] <;> rfl)) ⟨_, rfl, (up_m rfl hb_4)⟩ rfl ?_
  refine al_ro' (ro_eq (ro_len_row up_h rfl y62_sl22.1) (by simp only [lnS] <;> rfl)) ⟨_, rfl, (u2 rfl hb_4)⟩ rfl ?_
  refine al_ro' (ro_fld_ptr y62_fl26_1 rfl (up_m rfl (u8 rfl s3_3))) ⟨_, rfl, (up_m rfl (u2 rfl hb_4))⟩ rfl ?_
  refine al_ro' (ro_eq (ro_ld_ptr y62_ty22 rfl mo1_2 up_h (nle rfl)) (by simp only [pS, Value.cells, Nat.reduceAdd, jnE, beE, swE] <;> rfl)) ⟨_, rfl, (u4 rfl hb_4)⟩ rfl ?_
  refine al_ro' (ro_eq (ro_len_row up_h rfl y62_sl22.1) (by simp only [lnS] <;> rfl)) ⟨_, rfl, (up_m rfl (u4 rfl hb_4))⟩ rfl ?_
  refine al_ro' (ro_neq (up_m rfl (u2 rfl up_h)) up_h) ⟨_, rfl, (u2 rfl (u4 rfl hb_4))⟩ rfl ?_
  refine ar (ro_pickF (up_m rfl (u2 rfl (u4 rfl hb_4))) up_h) rfl <| ar (ro_move up_h) rfl <| al_case up_h (fun hb_8 hq_8 => ?_) (fun hb_8 hq_8 => ?_)
  · replace hq_8 := bnt hq_8; exfalso; omega
  replace hq_8 := bnf hq_8
  refine al_ro' (ro_fld_ptr y62_fl26_2 rfl (up_m rfl (u2 rfl (u4 rfl (u8 rfl s2_3))))) ⟨_, rfl, hb_8⟩ rfl ?_
  refine al_ro' (ro_eq (ro_ld_ptr y62_ty23 rfl mo0_2 up_h (nle rfl)) (by simp only [pS, Value.cells, Nat.reduceAdd, jnE, beE, swE] <;> rfl)) ⟨_, rfl, (up_m rfl hb_8)⟩ rfl ?_
  refine al_ro' (ro_eq (ro_len_row up_h rfl y62_sl23.1) (by simp only [lnS] <;> rfl)) ⟨_, rfl, (u2 rfl hb_8)⟩ rfl ?_
  refine al_ro' (ro_fld_ptr y62_fl26_2 rfl (u2 rfl (u16 rfl s3_3))) ⟨_, rfl, (up_m rfl (u2 rfl hb_8))⟩ rfl ?_
  refine al_ro' (ro_eq (ro_ld_ptr y62_ty23 rfl mo1_2 up_h (nle rfl)) (by simp only [pS, Value.cells, Nat.reduceAdd, jnE, beE, swE] <;> rfl)) ⟨_, rfl, (u4 rfl hb_8)⟩ rfl ?_
  refine al_ro' (ro_eq (ro_len_row up_h rfl y62_sl23.1) (by simp only [lnS] <;> rfl)) ⟨_, rfl, (up_m rfl (u4 rfl hb_8))⟩ rfl ?_
  refine al_ro' (ro_neq (up_m rfl (u2 rfl up_h)) up_h) ⟨_, rfl, (u2 rfl (u4 rfl hb_8))⟩ rfl ?_
  refine ar (ro_pickF (up_m rfl (u2 rfl (u4 rfl hb_8))) up_h) rfl <| ar (ro_move up_h) rfl <| al_case up_h (fun hb_12 hq_12 => ?_) (fun hb_12 hq_12 => ?_)
  · replace hq_12 := bnt hq_12; exfalso; omega
  replace hq_12 := bnf hq_12
  refine al_ro' (ro_fld_ptr y62_fl26_3 rfl (u8 rfl (u16 rfl s2_3))) ⟨_, rfl, hb_12⟩ rfl ?_
  refine al_ro' (ro_eq (ro_ld_ptr y62_ty24 rfl mo0_2 up_h (nle rfl)) (by simp only [pS, Value.cells, Nat.reduceAdd, jnE, beE, swE] <;> rfl)) ⟨_, rfl, (up_m rfl hb_12)⟩ rfl ?_
  refine al_ro' (ro_eq (ro_len_row up_h rfl y62_sl24.1) (by simp only [lnS] <;> rfl)) ⟨_, rfl, (u2 rfl hb_12)⟩ rfl ?_
  refine al_ro' (ro_fld_ptr y62_fl26_3 rfl (up_m rfl (u2 rfl (u8 rfl (u16 rfl s3_3))))) ⟨_, rfl, (up_m rfl (u2 rfl hb_12))⟩ rfl ?_
  refine al_ro' (ro_eq (ro_ld_ptr y62_ty24 rfl mo1_2 up_h (nle rfl)) (by simp only [pS, Value.cells, Nat.reduceAdd, jnE, beE, swE] <;> rfl)) ⟨_, rfl, (u4 rfl hb_12)⟩ rfl ?_
  refine al_ro' (ro_eq (ro_len_row up_h rfl y62_sl24.1) (by simp only [lnS] <;> rfl)) ⟨_, rfl, (up_m rfl (u4 rfl hb_12))⟩ rfl ?_
  refine al_ro' (ro_neq (up_m rfl (u2 rfl up_h)) up_h) ⟨_, rfl, (u2 rfl (u4 rfl hb_12))⟩ rfl ?_
  refine ar (ro_pickF (up_m rfl (u2 rfl (u4 rfl hb_12))) up_h) rfl <| ae3 (u16 rfl (u16 rfl s2_3)) (u16 rfl (u16 rfl s3_3)) up_h ?_; clear hb_12 hb_4 hb_8 s2_3 s3_3; intro e_16 s2_16 s3_16 s41_16
  refine then_n <| aw_case s41_16 (fun hq_17 => ?_) (fun hq_17 => ?_)
  · replace hq_17 := bnt hq_17; exfalso; omega
  replace hq_17 := bnf hq_17
  refine aw_skip <| then_n <| aw_seq <| aw_seq <| at_ <| ar (ro_assign ev_c) rfl <| ae3 (up_m rfl s2_16) (up_m rfl s3_16) up_h ?_; clear s2_16 s3_16 s41_16; intro e_19 s2_19 s3_19 s5_19
  refine then_n <| aw_block <| aw_loop (S := Int) (fun i e mem => (evA e (.tmp 5) = .v (.int .i64 i)) ∧ (evA e (.tmp 2) = evA e_19 (.tmp 2)) ∧ (evA e (.tmp 3) = evA e_19 (.tmp 3)) ∧ (mem[1]? = m_2[1]?) ∧ (mem[0]? = m_2[0]?) ∧ (mem.length = 2) ∧ ((0 ≤ i ∧ i ≤ l.js.length))) (fun i => (l.js.length - i).toNat) _ ⟨s5_19, rfl, rfl, rfl, rfl, ml_2, ?_⟩ ?_
  · (exact ⟨by omega, by omega⟩)
  · rintro i e_20 m_20 ⟨s5_20, k2_20, k3_20, mk1_20, mk0_20, ml_20, hinv⟩
    have s2_20 := k2_20.trans s2_19
    have s3_20 := k3_20.trans s3_19
    have mo1_20 := mk1_20.trans mo1_2
    have mo0_20 := mk0_20.trans mo0_2
    (obtain ⟨p1, p2⟩ := hinv)
    refine aw_seq <| aw_seq <| at_ <| ar (ro_move s5_20) rfl <| ar (ro_fld_ptr y62_fl26_1 rfl (up_m rfl s2_20)) rfl <| ar (ro_eq (ro_ld_ptr y62_ty22 rfl mo0_20 up_h (nle rfl)) (by simp only [pS, Value.cells, Nat.reduceAdd, jnE, beE, swE] <;> rfl)) rfl ?_
    refine ar (ro_eq (ro_len_row up_h rfl y62_sl22.1) (by simp only [lnS] <;> rfl)) rfl ?_
    refine ar (ro_lss (up_m rfl (u2 rfl up_h)) up_h) rfl <| ae4 (up_m rfl (u4 rfl s2_20)) (up_m rfl (u4 rfl s3_20)) (up_m rfl (u4 rfl s5_20)) up_h ?_; clear s2_20 s3_20 s5_20; intro e_21 s2_21 s3_21 s5_21 s46_21
    refine then_n <| aw_case s46_21 (fun hq_22 => ?_) (fun hq_22 => ?_)
    ·replace hq_22 := bt hq_22
     refine aw_skip <| then_n <| aw_seq <| aw_block <| aw_seq <| aw_draw 11 (by kernel_rfl) (by kernel_rfl) (by kernel_rfl) (by kernel_rfl) ?_
     refine dr (ro_fld_ptr y62_fl26_1 rfl s2_21) rfl <| dr (ro_eq (ro_ld_ptr y62_ty22 rfl mo0_20 up_h (nle rfl)) (by simp only [pS, Value.cells, Nat.reduceAdd, jnE, beE, swE] <;> rfl)) rfl ?_
     refine dr (ro_move (u2 rfl s5_21)) rfl <| dr (ro_eq (ro_ix y62_sl22 (up_m rfl up_h) up_h (by omega) (by first | (refine idx_map ?_; first | omega | (simp only [lnS]; omega)) | (refine idx_mapI ?_; first | omega | (simp only [lnS]; omega)) | (refine idx_mapN ?_; first | omega | (simp only [lnS]; omega)) | rfl)) (by simp only [pS, Value.cells, Nat.reduceAdd, jnE, beE, swE] <;> rfl)) rfl ?_
     refine dr (ro_eq (ro_ld_ref y62_ty70 rfl up_h (nle rfl)) (by simp only [pS, Value.cells, Nat.reduceAdd, jnE, beE, swE] <;> rfl)) rfl ?_
     refine dr (ro_fld_ptr y62_fl26_1 rfl (up_m rfl (u4 rfl s3_21))) rfl <| dr (ro_eq (ro_ld_ptr y62_ty22 rfl mo1_20 up_h (nle rfl)) (by simp only [pS, Value.cells, Nat.reduceAdd, jnE, beE, swE] <;> rfl)) rfl ?_
     refine dr (ro_move (up_m rfl (u2 rfl (u4 rfl s5_21)))) rfl <| dr (ro_eq (ro_ix y62_sl22 (up_m rfl up_h) up_h (by omega) (by first | (refine idx_map ?_; first | omega | (simp only [lnS]; omega)) | (refine idx_mapI ?_; first | omega | (simp only [lnS]; omega)) | (refine idx_mapN ?_; first | omega | (simp only [lnS]; omega)) | rfl)) (by simp only [pS, Value.cells, Nat.reduceAdd, jnE, beE, swE] <;> rfl)) rfl ?_
     refine dr (ro_eq (ro_ld_ref y62_ty70 rfl up_h (nle rfl)) (by simp only [pS, Value.cells, Nat.reduceAdd, jnE, beE, swE] <;> rfl)) rfl ?_
     refine dr (ro_sqneq (up_m rfl (u4 rfl up_h)) up_h rfl rfl y62_gq70 y62_sq70 (by decide)) rfl ?_
     refine ds_nil <| ae4 (up_m rfl (u2 rfl (u8 rfl s2_21))) (up_m rfl (u2 rfl (u8 rfl s3_21))) (up_m rfl (u2 rfl (u8 rfl s5_21))) up_h ?_; clear s2_21 s3_21 s46_21 s5_21; intro e_23 s2_23 s3_23 s5_23 s59_23
     refine then_n <| aw_case s59_23 (fun hq_24 => ?_) (fun hq_24 => ?_)
     ·replace hq_24 := bt' hq_24
      refine aw_seq <| at_ <| ar (ro_assign ev_c) rfl <| ae1 up_h ?_; clear s2_23 s3_23 s59_23 s5_23; intro e_25 s4_25
      refine then_n <| aw_ret <| block_r <| then_r <| then_r <| block_r <| then_r <| ret1 (.inr rfl) (by kernel_rfl) (resV_tmp s4_25) (.ro _ rfl) ?_
      clear s4_25 mo1_20 mo0_20 ml_20
      first | rfl | (simp at *; done)
     replace hq_24 := bf' hq_24
     refine aw_skip <| block_n <| then_n <| at_ <| ar (ro_move s5_23) rfl ?_
     (refine ar (ro_add' up_h ev_c ?_) rfl ?_; · (unfold In64; omega))
     refine ar (ro_assign up_h) rfl <| ae3 (up_m rfl (u2 rfl s2_23)) (up_m rfl (u2 rfl s3_23)) up_h ?_; clear s2_23 s3_23 s59_23 s5_23; intro e_26 s2_26 s3_26 s5_26
     refine then_n <| ⟨_, ⟨s5_26, (s2_26.trans s2_19.symm), (s3_26.trans s3_19.symm), (mo1_20.trans mo1_2.symm), (mo0_20.trans mo0_2.symm), ml_20, ?_⟩, ?_⟩
     · (exact ⟨by omega, by omega⟩)
     · ((try dsimp only); omega)
    replace hq_22 := bf hq_22
    refine aw_exit <| then_x <| then_x <| block_hit <| then_n <| aw_seq <| aw_seq <| at_ <| ar (ro_assign ev_c) rfl <| ae3 (up_m rfl s2_21) (up_m rfl s3_21) up_h ?_; clear s2_21 s3_21 s46_21 s5_21; intro e_27 s2_27 s3_27 s6_27
    refine then_n <| aw_block <| aw_loop (S := Int) (fun i e mem => (evA e (.tmp 6) = .v (.int .i64 i)) ∧ (evA e (.tmp 2) = evA e_27 (.tmp 2)) ∧ (evA e (.tmp 3) = evA e_27 (.tmp 3)) ∧ (mem[1]? = m_20[1]?) ∧ (mem[0]? = m_20[0]?) ∧ (mem.length = 2) ∧ ((0 ≤ i ∧ i ≤ l.bs.length))) (fun i => (l.bs.length - i).toNat) _ ⟨s6_27, rfl, rfl, rfl, rfl, ml_20, ?_⟩ ?_
    · (exact ⟨by omega, by omega⟩)
    · rintro i e_28 m_28 ⟨s6_28, k2_28, k3_28, mk1_28, mk0_28, ml_28, hinv⟩
      have s2_28 := k2_28.trans s2_27
      have s3_28 := k3_28.trans s3_27
      have mo1_28 := mk1_28.trans mo1_20
      have mo0_28 := mk0_28.trans mo0_20
      (obtain ⟨p1, p2⟩ := hinv)
      refine aw_seq <| aw_seq <| at_ <| ar (ro_move s6_28) rfl <| ar (ro_fld_ptr y62_fl26_2 rfl (up_m rfl s2_28)) rfl <| ar (ro_eq (ro_ld_ptr y62_ty23 rfl mo0_28 up_h (nle rfl)) (by simp only [pS, Value.cells, Nat.reduceAdd, jnE, beE, swE] <;> rfl)) rfl ?_
      refine ar (ro_eq (ro_len_row up_h rfl y62_sl23.1) (by simp only [lnS] <;> rfl)) rfl ?_
      refine ar (ro_lss (up_m rfl (u2 rfl up_h)) up_h) rfl <| ae4 (up_m rfl (u4 rfl s2_28)) (up_m rfl (u4 rfl s3_28)) (up_m rfl (u4 rfl s6_28)) up_h ?_; clear s2_28 s3_28 s6_28; intro e_29 s2_29 s3_29 s6_29 s64_29
      refine then_n <| aw_case s64_29 (fun hq_30 => ?_) (fun hq_30 => ?_)
      ·replace hq_30 := bt hq_30
       refine aw_skip <| then_n <| aw_seq <| aw_block <| aw_seq <| aw_draw 11 (by kernel_rfl) (by kernel_rfl) (by kernel_rfl) (by kernel_rfl) ?_
       refine dr (ro_fld_ptr y62_fl26_2 rfl s2_29) rfl <| dr (ro_eq (ro_ld_ptr y62_ty23 rfl mo0_28 up_h (nle rfl)) (by simp only [pS, Value.cells, Nat.reduceAdd, jnE, beE, swE] <;> rfl)) rfl ?_
       refine dr (ro_move (u2 rfl s6_29)) rfl <| dr (ro_eq (ro_ix y62_sl23 (up_m rfl up_h) up_h (by omega) (by first | (refine idx_map ?_; first | omega | (simp only [lnS]; omega)) | (refine idx_mapI ?_; first | omega | (simp only [lnS]; omega)) | (refine idx_mapN ?_; first | omega | (simp only [lnS]; omega)) | rfl)) (by simp only [pS, Value.cells, Nat.reduceAdd, jnE, beE, swE] <;> rfl)) rfl ?_
       refine dr (ro_eq (ro_ld_ref y62_ty87 rfl up_h (nle rfl)) (by simp only [pS, Value.cells, Nat.reduceAdd, jnE, beE, swE] <;> rfl)) rfl ?_
       refine dr (ro_fld_ptr y62_fl26_2 rfl (up_m rfl (u4 rfl s3_29))) rfl <| dr (ro_eq (ro_ld_ptr y62_ty23 rfl mo1_28 up_h (nle rfl)) (by simp only [pS, Value.cells, Nat.reduceAdd, jnE, beE, swE] <;> rfl)) rfl ?_
       refine dr (ro_move (up_m rfl (u2 rfl (u4 rfl s6_29)))) rfl <| dr (ro_eq (ro_ix y62_sl23 (up_m rfl up_h) up_h (by omega) (by first | (refine idx_map ?_; first | omega | (simp only [lnS]; omega)) | (refine idx_mapI ?_; first | omega | (simp only [lnS]; omega)) | (refine idx_mapN ?_; first | omega | (simp only [lnS]; omega)) | rfl)) (by simp only [pS, Value.cells, Nat.reduceAdd, jnE, beE, swE] <;> rfl)) rfl ?_
       refine dr (ro_eq (ro_ld_ref y62_ty87 rfl up_h (nle rfl)) (by simp only [pS, Value.cells, Nat.reduceAdd, jnE, beE, swE] <;> rfl)) rfl ?_
       refine dr (ro_sqneq (up_m rfl (u4 rfl up_h)) up_h rfl rfl y62_gq87 y62_sq87 (by decide)) rfl ?_
       refine ds_nil <| ae4 (up_m rfl (u2 rfl (u8 rfl s2_29))) (up_m rfl (u2 rfl (u8 rfl s3_29))) (up_m rfl (u2 rfl (u8 rfl s6_29))) up_h ?_; clear s2_29 s3_29 s64_29 s6_29; intro e_31 s2_31 s3_31 s6_31 s77_31
       refine then_n <| aw_case s77_31 (fun hq_32 => ?_) (fun hq_32 => ?_)
       ·replace hq_32 := bt' hq_32
        refine aw_seq <| at_ <| ar (ro_assign ev_c) rfl <| ae1 up_h ?_; clear s2_31 s3_31 s6_31 s77_31; intro e_33 s4_33
        refine then_n <| aw_ret <| block_r <| then_r <| then_r <| block_r <| then_r <| ret1 (.inr rfl) (by kernel_rfl) (resV_tmp s4_33) (.ro _ rfl) ?_
        clear s4_33 mo1_28 mo0_28 ml_28
        first | rfl | (simp at *; done)
       replace hq_32 := bf' hq_32
       refine aw_skip <| block_n <| then_n <| at_ <| ar (ro_move s6_31) rfl ?_
       (refine ar (ro_add' up_h ev_c ?_) rfl ?_; · (unfold In64; omega))
       refine ar (ro_assign up_h) rfl <| ae3 (up_m rfl (u2 rfl s2_31)) (up_m rfl (u2 rfl s3_31)) up_h ?_; clear s2_31 s3_31 s6_31 s77_31; intro e_34 s2_34 s3_34 s6_34
       refine then_n <| ⟨_, ⟨s6_34, (s2_34.trans s2_27.symm), (s3_34.trans s3_27.symm), (mo1_28.trans mo1_20.symm), (mo0_28.trans mo0_20.symm), ml_28, ?_⟩, ?_⟩
       · (exact ⟨by omega, by omega⟩)
       · ((try dsimp only); omega)
      replace hq_30 := bf hq_30
      refine aw_exit <| then_x <| then_x <| block_hit <| then_n <| aw_seq <| aw_seq <| at_ <| ar (ro_assign ev_c) rfl <| ae3 (up_m rfl s2_29) (up_m rfl s3_29) up_h ?_; clear s2_29 s3_29 s64_29 s6_29; intro e_35 s2_35 s3_35 s7_35
      refine then_n <| aw_block <| aw_loop (S := Int) (fun i e mem => (evA e (.tmp 7) = .v (.int .i64 i)) ∧ (evA e (.tmp 2) = evA e_35 (.tmp 2)) ∧ (evA e (.tmp 3) = evA e_35 (.tmp 3)) ∧ (mem[1]? = m_28[1]?) ∧ (mem[0]? = m_28[0]?) ∧ (∃ n, mem.length = n ∧ 2 ≤ n) ∧ ((0 ≤ i ∧ i ≤ l.ss.length))) (fun i => (l.ss.length - i).toNat) _ ⟨s7_35, rfl, rfl, rfl, rfl, ⟨_, ml_28, Nat.le_refl _⟩, ?_⟩ ?_
      · (exact ⟨by omega, by omega⟩)
      · rintro i e_36 m_36 ⟨s7_36, k2_36, k3_36, mk1_36, mk0_36, ⟨n_36, ml_36, hn_36⟩, hinv⟩
        have s2_36 := k2_36.trans s2_35
        have s3_36 := k3_36.trans s3_35
        have mo1_36 := mk1_36.trans mo1_28
        have mo0_36 := mk0_36.trans mo0_28
        (obtain ⟨p1, p2⟩ := hinv; have hso := hl.at i.toNat)
        refine aw_seq <| aw_seq <| at_ <| ar (ro_move s7_36) rfl <| ar (ro_fld_ptr y62_fl26_3 rfl (up_m rfl s2_36)) rfl <| ar (ro_eq (ro_ld_ptr y62_ty24 rfl mo0_36 up_h (nle rfl)) (by simp only [pS, Value.cells, Nat.reduceAdd, jnE, beE, swE] <;> rfl)) rfl ?_
        refine ar (ro_eq (ro_len_row up_h rfl y62_sl24.1) (by simp only [lnS] <;> rfl)) rfl ?_
        refine ar (ro_lss (up_m rfl (u2 rfl up_h)) up_h) rfl <| ae4 (up_m rfl (u4 rfl s2_36)) (up_m rfl (u4 rfl s3_36)) (up_m rfl (u4 rfl s7_36)) up_h ?_; clear s2_36 s3_36 s7_36; intro e_37 s2_37 s3_37 s7_37 s82_37
        refine then_n <| aw_case s82_37 (fun hq_38 => ?_) (fun hq_38 => ?_)
        ·replace hq_38 := bt hq_38
         refine aw_skip <| then_n <| aw_seq <| aw_block <| aw_seq <| aw_drawK 13 2 ml_36 (by kernel_rfl) (by kernel_rfl) (by kernel_rfl) (by kernel_rfl) (fun m_39 hm_39 => ?_)
         have mo1_39 := m_room_o hm_39 mo1_36
         have mo0_39 := m_room_o hm_39 mo0_36
         have mon_36_39 : m_39[n_36]? = _ := m_room_g hm_39 ml_36 0 rfl rfl
         have mon_36_1_39 : m_39[n_36 + 1]? = _ := m_room_g hm_39 ml_36 1 rfl rfl
         have ml_39 : _ = n_36 + 2 := m_room_l (K := 2) hm_39 ml_36
         clear hm_39 mo1_36 mo0_36 ml_36
         refine dh_ro (fun M_ hM_ => (ro_fld_ptr y62_fl26_3 rfl s2_37)) trivial ?_
         refine dh_ld (0) (fun M_ hM_ => (ro_eq (ro_ld_ptr y62_ty24 rfl (agr hM_ mo0_39 (by simp)) up_h (nle rfl)) (by simp only [pS, Value.cells, Nat.reduceAdd, jnE, beE, swE] <;> rfl))) trivial trivial ?_
         refine dh_ro (fun M_ hM_ => (ro_move (u2 rfl s7_37))) trivial ?_
         refine dh_ro (fun M_ hM_ => (ro_eq (ro_ix y62_sl24 (up_m rfl up_h) up_h (by omega) (by first | (refine idx_map ?_; first | omega | (simp only [lnS]; omega)) | (refine idx_mapI ?_; first | omega | (simp only [lnS]; omega)) | (refine idx_mapN ?_; first | omega | (simp only [lnS]; omega)) | rfl)) (by simp only [pS, Value.cells, Nat.reduceAdd, jnE, beE, swE] <;> rfl))) trivial ?_
         refine dh_ro (fun M_ hM_ => (ro_eq (ro_ld_ref y62_ty91 rfl up_h (nle rfl)) (by simp only [pS, Value.cells, Nat.reduceAdd, jnE, beE, swE] <;> rfl))) trivial ?_
         refine dh_ro (fun M_ hM_ => (ro_fld_ptr y62_fl26_3 rfl (up_m rfl (u4 rfl s3_37)))) trivial ?_
         refine dh_ld (1) (fun M_ hM_ => (ro_eq (ro_ld_ptr y62_ty24 rfl (agr hM_ mo1_39 (by simp)) up_h (nle rfl)) (by simp only [pS, Value.cells, Nat.reduceAdd, jnE, beE, swE] <;> rfl))) trivial trivial ?_
         refine dh_ro (fun M_ hM_ => (ro_move (up_m rfl (u2 rfl (u4 rfl s7_37))))) trivial ?_
         refine dh_ro (fun M_ hM_ => (ro_eq (ro_ix y62_sl24 (up_m rfl up_h) up_h (by omega) (by first | (refine idx_map ?_; first | omega | (simp only [lnS]; omega)) | (refine idx_mapI ?_; first | omega | (simp only [lnS]; omega)) | (refine idx_mapN ?_; first | omega | (simp only [lnS]; omega)) | rfl)) (by simp only [pS, Value.cells, Nat.reduceAdd, jnE, beE, swE] <;> rfl))) trivial ?_
         refine dh_ro (fun M_ hM_ => (ro_eq (ro_ld_ref y62_ty91 rfl up_h (nle rfl)) (by simp only [pS, Value.cells, Nat.reduceAdd, jnE, beE, swE] <;> rfl))) trivial ?_
         refine dh_nw (n_36) (fun M_ hM_ => (nw_alloc y62_az91 rfl)) trivial mon_36_39 rfl trivial ⟨.inl (by simp <;> omega), ⟨.inl (by simp <;> omega), trivial⟩⟩ (fun m_40 hm_40 => ?_)
         have mon_36_40 := m_set hm_40 mon_36_39
         simp only [pS, Value.cells, Nat.reduceAdd, jnE, beE, swE] at mon_36_40
         have mo1_40 := m_set_o hm_40 mo1_39 (by omega)
         have mo0_40 := m_set_o hm_40 mo0_39 (by omega)
         have mon_36_1_40 := m_set_o hm_40 mon_36_1_39 (by omega)
         have ml_40 := m_set_l hm_40 ml_39
         clear hm_40 mo1_39 mo0_39 mon_36_39 mon_36_1_39
         refine dh_nw (n_36 + 1) (fun M_ hM_ => (nw_alloc y62_az91 rfl)) trivial mon_36_1_40 rfl ⟨.inl (by simp <;> omega), trivial⟩ ⟨.inl (by simp <;> omega), ⟨.inl (by simp <;> omega), ⟨.inl (by simp <;> omega), trivial⟩⟩⟩ (fun m_41 hm_41 => ?_)
         have mon_36_1_41 := m_set hm_41 mon_36_1_40
         simp only [pS, Value.cells, Nat.reduceAdd, jnE, beE, swE] at mon_36_1_41
         have mon_36_41 := m_set_o hm_41 mon_36_40 (by omega)
         have mo1_41 := m_set_o hm_41 mo1_40 (by omega)
         have mo0_41 := m_set_o hm_41 mo0_40 (by omega)
         have ml_41 := m_set_l hm_41 ml_40
         clear hm_41 mon_36_40 mo1_40 mo0_40 mon_36_1_40
         refine dh_set (n_36) (fun M_ hM_ => (se_store (up_m rfl up_h) (up_m rfl (u2 rfl (u4 rfl up_h))) rfl rfl (agr hM_ mon_36_41 (by simp)) y62_sz91 rfl (nle rfl))) trivial ⟨.inr (wt_one 12 10 (by kernel_rfl)), ⟨.inl (by simp <;> omega), trivial⟩⟩ ⟨.inl (by simp <;> omega), ⟨.inl (by simp <;> omega), ⟨.inr (wt_one 12 10 (by kernel_rfl)), ⟨.inl (by simp <;> omega), trivial⟩⟩⟩⟩ (fun m_42 hm_42 => ?_)
         have mon_36_42 := m_set hm_42 mon_36_41
         simp only [pS, Value.cells, Nat.reduceAdd, jnE, beE, swE] at mon_36_42
         have mon_36_1_42 := m_set_o hm_42 mon_36_1_41 (by omega)
         have mo1_42 := m_set_o hm_42 mo1_41 (by omega)
         have mo0_42 := m_set_o hm_42 mo0_41 (by omega)
         have ml_42 := m_set_l hm_42 ml_41
         clear hm_42 mon_36_1_41 mon_36_41 mo1_41 mo0_41
         refine dh_nil rfl ?_
         refine al_stm (st_store (up_n up_h) (up_n (u2 rfl up_h)) rfl rfl mon_36_1_42 y62_sz91 rfl (nle rfl)) trivial rfl (fun m_43 hm_43 => ?_)
         have mon_36_1_43 := m_set hm_43 mon_36_1_42
         simp only [pS, Value.cells, Nat.reduceAdd, jnE, beE, swE] at mon_36_1_43
         have mon_36_43 := m_set_o hm_43 mon_36_42 (by omega)
         have mo1_43 := m_set_o hm_43 mo1_42 (by omega)
         have mo0_43 := m_set_o hm_43 mo0_42 (by omega)
         have ml_43 := m_set_l hm_43 ml_42
         clear hm_43 mon_36_42 mon_36_1_42 mo1_42 mo0_42
         refine ae5 (up_n (up_n (u4 rfl (u8 rfl s2_37)))) (up_n (up_n (u4 rfl (u8 rfl s3_37)))) (up_n (up_n (u4 rfl (u8 rfl s7_37)))) (up_n (up_n (up_m rfl up_h))) (up_n (up_n up_h)) ?_; clear s2_37 s3_37 s7_37 s82_37; intro e_44 s2_44 s3_44 s7_44 s8_44 s9_44
         refine then_n <| aw_seq <| at_ <| ar (ro_fld_ptr y62_fl91_0 rfl s8_44) rfl <| ar (ro_eq (ro_ld_ptr y62_ty9 rfl mon_36_43 up_h (nle rfl)) (by simp only [pS, Value.cells, Nat.reduceAdd, jnE, beE, swE] <;> rfl)) rfl ?_
         refine ar (ro_fld_ptr y62_fl91_0 rfl (u2 rfl s9_44)) rfl <| ar (ro_eq (ro_ld_ptr y62_ty9 rfl mon_36_1_43 up_h (nle rfl)) (by simp only [pS, Value.cells, Nat.reduceAdd, jnE, beE, swE] <;> rfl)) rfl ?_
         refine ar (ro_sneq (u2 rfl up_h) up_h) rfl <| ar (ro_move up_h) rfl <| al_case up_h (fun hb_45 hq_45 => ?_) (fun hb_45 hq_45 => ?_)
         ·replace hq_45 := bt' hq_45
          refine al_skip' ⟨_, rfl, .inl hb_45⟩ rfl ?_
          refine al_skip' ⟨_, rfl, .inl (up_m rfl hb_45)⟩ rfl ?_
          refine al_skip' ⟨_, rfl, .inl (u2 rfl hb_45)⟩ rfl ?_
          refine al_skip' ⟨_, rfl, .inl (up_m rfl (u2 rfl hb_45))⟩ rfl ?_
          refine al_skip' ⟨_, rfl, .inl (u4 rfl hb_45)⟩ rfl ?_
          refine ar (ro_pickT (up_m rfl (u4 rfl hb_45)) ev_c) rfl <| ar (ro_move up_h) rfl <| al_skip' ⟨_, rfl, .inl up_h⟩ rfl ?_
          refine al_skip' ⟨_, rfl, .inl (up_m rfl up_h)⟩ rfl ?_
          refine al_skip' ⟨_, rfl, .inl (u2 rfl up_h)⟩ rfl ?_
          refine al_skip' ⟨_, rfl, .inl (up_m rfl (u2 rfl up_h))⟩ rfl ?_
          refine al_skip' ⟨_, rfl, .inl (u4 rfl up_h)⟩ rfl ?_
          refine al_skip' ⟨_, rfl, .inl (up_m rfl (u4 rfl up_h))⟩ rfl ?_
          refine ar (ro_pickT (u2 rfl (u4 rfl up_h)) ev_c) rfl <| ae4 (u4 rfl (u16 rfl s2_44)) (u4 rfl (u16 rfl s3_44)) (u4 rfl (u16 rfl s7_44)) up_h ?_; clear hb_45 s2_44 s3_44 s7_44 s8_44 s9_44; intro e_46 s2_46 s3_46 s7_46 s114_46
          refine then_n <| aw_true s114_46 <| aw_seq <| at_ <| ar (ro_assign ev_c) rfl <| ae1 up_h ?_; clear s114_46 s2_46 s3_46 s7_46; intro e_48 s4_48
          refine then_n <| aw_ret <| block_r <| then_r <| then_r <| block_r <| then_r <| ret1 (.inr rfl) (by kernel_rfl) (resV_tmp s4_48) (.ro _ rfl) ?_
          clear s4_48 mon_36_1_43 mon_36_43 mo1_43 mo0_43 ml_43
          first | rfl | (simp at *; done)
         replace hq_45 := bf' hq_45
         refine al_ro' (ro_fld_ptr y62_fl91_1 rfl (u2 rfl (u4 rfl s8_44))) ⟨_, rfl, hb_45⟩ rfl ?_
         refine al_ro' (ro_eq (ro_ld_ptr y62_ty3 rfl mon_36_43 up_h (nle rfl)) (by simp only [pS, Value.cells, Nat.reduceAdd, jnE, beE, swE] <;> rfl)) ⟨_, rfl, (up_m rfl hb_45)⟩ rfl ?_
         refine al_ro' (ro_fld_ptr y62_fl91_1 rfl (u8 rfl s9_44)) ⟨_, rfl, (u2 rfl hb_45)⟩ rfl ?_
         refine al_ro' (ro_eq (ro_ld_ptr y62_ty3 rfl mon_36_1_43 up_h (nle rfl)) (by simp only [pS, Value.cells, Nat.reduceAdd, jnE, beE, swE] <;> rfl)) ⟨_, rfl, (up_m rfl (u2 rfl hb_45))⟩ rfl ?_
         refine al_ro' (ro_neq (u2 rfl up_h) up_h) ⟨_, rfl, (u4 rfl hb_45)⟩ rfl ?_
         refine ar (ro_pickF (up_m rfl (u4 rfl hb_45)) up_h) rfl <| ar (ro_move up_h) rfl <| al_case up_h (fun hb_49 hq_49 => ?_) (fun hb_49 hq_49 => ?_)
         · replace hq_49 := bnt hq_49; exfalso; omega
         replace hq_49 := bnf hq_49
         refine al_ro' (ro_fld_ptr y62_fl91_2 rfl (up_m rfl (u4 rfl (u8 rfl s8_44)))) ⟨_, rfl, hb_49⟩ rfl ?_
         refine al_ro' (ro_eq (ro_ld_ptr y62_ty49 rfl mon_36_43 up_h (nle rfl)) (by simp only [pS, Value.cells, Nat.reduceAdd, jnE, beE, swE] <;> rfl)) ⟨_, rfl, (up_m rfl hb_49)⟩ rfl ?_
         refine al_ro' (ro_fld_ptr y62_fl91_2 rfl (up_m rfl (u2 rfl (u4 rfl (u8 rfl s9_44))))) ⟨_, rfl, (u2 rfl hb_49)⟩ rfl ?_
         refine al_ro' (ro_eq (ro_ld_ptr y62_ty49 rfl mon_36_1_43 up_h (nle rfl)) (by simp only [pS, Value.cells, Nat.reduceAdd, jnE, beE, swE] <;> rfl)) ⟨_, rfl, (up_m rfl (u2 rfl hb_49))⟩ rfl ?_
         refine al_ro' (ro_call (evL_cons (u2 rfl up_h) (evL_cons up_h evL_nil)) rfl ((bIntsY_ok _ _ (by omega) (by omega)).mono (fun q h => show q = tbA true from h.trans (by simp))) y62_hcf26) ⟨_, rfl, (u4 rfl hb_49)⟩ rfl ?_
         refine al_ro' (ro_not up_h) ⟨_, rfl, (up_m rfl (u4 rfl hb_49))⟩ rfl ?_
         refine ar (ro_pickF (u2 rfl (u4 rfl hb_49)) up_h) rfl <| ae4 (u4 rfl (u16 rfl s2_44)) (u4 rfl (u16 rfl s3_44)) (u4 rfl (u16 rfl s7_44)) up_h ?_; clear hb_45 hb_49 s2_44 s3_44 s7_44 s8_44 s9_44; intro e_53 s2_53 s3_53 s7_53 s114_53
         refine then_n <| aw_case s114_53 (fun hq_54 => ?_) (fun hq_54 => ?_)
         · replace hq_54 := bt' hq_54; cases hq_54
         replace hq_54 := bf' hq_54
         refine aw_skip <| block_n <| then_n <| at_ <| ar (ro_move s7_53) rfl ?_
         (refine ar (ro_add' up_h ev_c ?_) rfl ?_; · (unfold In64; omega))
         refine ar (ro_assign up_h) rfl <| ae3 (up_m rfl (u2 rfl s2_53)) (up_m rfl (u2 rfl s3_53)) up_h ?_; clear s114_53 s2_53 s3_53 s7_53; intro e_56 s2_56 s3_56 s7_56
         refine then_n <| ⟨_, ⟨s7_56, (s2_56.trans s2_35.symm), (s3_56.trans s3_35.symm), (mo1_43.trans mo1_28.symm), (mo0_43.trans mo0_28.symm), ⟨_, ml_43, by omega⟩, ?_⟩, ?_⟩
         · (exact ⟨by omega, by omega⟩)
         · ((try dsimp only); omega)
        replace hq_38 := bf hq_38
        refine aw_exit <| then_x <| then_x <| block_hit <| then_n <| aw_seq <| at_ <| ar (ro_assign ev_c) rfl <| ae1 up_h ?_; clear s2_37 s3_37 s7_37 s82_37; intro e_57 s4_57
        refine then_n <| aw_ret <| ret1 (.inr rfl) (by kernel_rfl) (resV_tmp s4_57) (.ro _ rfl) ?_
        clear s4_57 mo1_36 mo0_36 ml_36
        first | rfl | (simp at *; done)
end Go.Proofs.Ytonjcljnpcmenaa

/- The law of chapter 1 on surveys and warmth. No conditions on a program. -/
namespace Go.Proofs.Ytonjcljnpcmenaa
open Go Go.RowKit Go.Proofs
set_option linter.unusedSimpArgs false
set_option linter.unusedVariables false
/-- A contract, its arguments told in another way. -/
theorem FnOk.retold {P : Program} {f : FuncId} {us bs : List AV} {ψ : AV → Prop} (h : FnOk P f bs ψ) (hl : us.length = bs.length) (hle : ∀ (i : Nat) (a b : AV), us[i]? = some a → bs[i]? = some b → ∀ (pr : Nat → Prop) (w : World) (x : Value), R0 pr w a x → R0 pr w b x) : FnOk P f us ψ := by
  intro pr w vs h1 h2
  refine h pr w vs (by rw [h1, hl]) fun i b x hb hx => ?_
  have hi : i < us.length := by rw [hl]; exact (List.getElem?_eq_some_iff.1 hb).1
  exact hle i _ b (List.getElem?_eq_getElem hi) hb pr w x (h2 i _ x (List.getElem?_eq_getElem hi) hx)
theorem r0l_same {a b : AV} (h : a = b) : ∀ (pr : Nat → Prop) (w : World) (x : Value), R0 pr w a x → R0 pr w b x := fun _ _ _ hx => h ▸ hx
theorem r0l_nil {k : Nat} : ∀ (pr : Nat → Prop) (w : World) (x : Value), R0 pr w (.v (.slice none 0 0)) x → R0 pr w (.row k []) x := fun _ _ _ hx => by
  cases hx; exact .nil _ _ _
theorem r0l_agg {l m : List AV} (hl : l.length = m.length) (h : ∀ (i : Nat) (a b : AV), l[i]? = some a → m[i]? = some b → ∀ (pr : Nat → Prop) (w : World) (x : Value), R0 pr w a x → R0 pr w b x) : ∀ (pr : Nat → Prop) (w : World) (x : Value), R0 pr w (.agg l) x → R0 pr w (.agg m) x := fun pr w x hx => by
  cases hx with
  | agg _ xs h1 h2 =>
    refine .agg _ _ (by rw [h1, hl]) fun i b y hb hy => ?_
    have hi : i < l.length := by rw [hl]; exact (List.getElem?_eq_some_iff.1 hb).1
    exact h i _ b (List.getElem?_eq_getElem hi) hb pr w y (h2 i _ y (List.getElem?_eq_getElem hi) hy)
/-- The line of nothing as a variable holds it. -/
def nonN : AV := .agg [.v (.string ByteArray.empty), .v (.slice none 0 0), .v (.slice none 0 0), .v (.slice none 0 0)]
theorem nonN_le : ∀ (pr : Nat → Prop) (w : World) (x : Value), R0 pr w nonN x → R0 pr w (lnA nonL) x :=
  r0l_agg rfl fun i a b ha hb => by
    match i, ha, hb with
    | 0, ha, hb => simp at ha hb; subst ha hb; exact r0l_same rfl
    | 1, ha, hb => simp at ha hb; subst ha hb; exact r0l_nil
    | 2, ha, hb => simp at ha hb; subst ha hb; exact r0l_nil
    | 3, ha, hb => simp at ha hb; subst ha hb; exact r0l_nil
    | (n + 4), ha, hb => simp at ha
theorem nonL_sho : Sho nonL := ⟨by decide, by decide, by decide, by decide, fun s hs => by cases hs⟩
theorem same_none : FnOk Try.prog 34 [lnA nonL, nonN] (fun q => q = tbA true) :=
  (same_refl nonL nonL_sho).retold rfl fun i a b ha hb => by
    match i, ha, hb with
    | 0, ha, hb => simp at ha hb; subst ha hb; exact r0l_same rfl
    | 1, ha, hb => simp at ha hb; subst ha hb; exact nonN_le
    | (n + 2), ha, hb => simp at ha
end Go.Proofs.Ytonjcljnpcmenaa

/- Contracts of chapter 1: lines copied with two rows of one's own; switches of right lines. No conditions on a program. -/
namespace Go.Proofs.Ytonjcljnpcmenaa
open Go Go.RowKit Go.Proofs
set_option linter.unusedSimpArgs false
set_option linter.unusedVariables false
theorem y65_az26 : (Try.prog.info? 26).bind (·.zero) = some (.agg #[.string ByteArray.empty, .slice none 0 0, .slice none 0 0, .slice none 0 0]) := by kernel_rfl
theorem y65_az91 : (Try.prog.info? 91).bind (·.zero) = some (.agg #[.string ByteArray.empty, .int .i64 0, .slice none 0 0]) := by kernel_rfl
theorem y65_bz26 : (Try.prog.info? 26).bind (·.zero) = some (.agg #[.string ByteArray.empty, .slice none 0 0, .slice none 0 0, .slice none 0 0]) := by kernel_rfl
theorem y65_bu26 : Try.prog.underlying 26 = some (.struct (fsOf Try.prog 26)) := by kernel_rfl
theorem y65_bp26 : ∀ w, ((fsOf Try.prog 26).mapM fun f => Prod.mk f.offset <$> sizeOf f.type : Sem (Array (Nat × Nat))).run Try.prog w = .ok (#[(0, 1), (1, 1), (2, 1), (3, 1)]) w := fun _ => by kernel_rfl
theorem y65_fl26_0 : FldIs Try.prog 26 0 0 false 1 := by unfold FldIs; kernel_rfl
theorem y65_fl26_1 : FldIs Try.prog 26 1 1 false 1 := by unfold FldIs; kernel_rfl
theorem y65_fl26_2 : FldIs Try.prog 26 2 2 false 1 := by unfold FldIs; kernel_rfl
theorem y65_fl26_3 : FldIs Try.prog 26 3 3 false 1 := by unfold FldIs; kernel_rfl
theorem y65_fl91_2 : FldIs Try.prog 91 2 2 false 1 := by unfold FldIs; kernel_rfl
theorem y65_hcf145 : ∀ args w, (callFunc 145 args).run Try.prog w = .ok (.enter 145 args) w := fun _ _ => by kernel_rfl
theorem y65_hcf146 : ∀ args w, (callFunc 146 args).run Try.prog w = .ok (.enter 146 args) w := fun _ _ => by kernel_rfl
theorem y65_hcf147 : ∀ args w, (callFunc 147 args).run Try.prog w = .ok (.enter 147 args) w := fun _ _ => by kernel_rfl
theorem y65_sl24 : SlIs Try.prog 24 91 3 48 (.agg #[.string ByteArray.empty, .int .i64 0, .slice none 0 0]) := ⟨by kernel_rfl, by kernel_rfl, by kernel_rfl⟩
theorem y65_sz24 : (Try.prog.info? 24).map (·.size) = some 1 := by kernel_rfl
theorem y65_sz26 : (Try.prog.info? 26).map (·.size) = some 4 := by kernel_rfl
theorem y65_sz49 : (Try.prog.info? 49).map (·.size) = some 1 := by kernel_rfl
theorem y65_sz91 : (Try.prog.info? 91).map (·.size) = some 3 := by kernel_rfl
theorem y65_ty22 : TyIs Try.prog 22 false 1 := ⟨by kernel_rfl, by kernel_rfl⟩
theorem y65_ty23 : TyIs Try.prog 23 false 1 := ⟨by kernel_rfl, by kernel_rfl⟩
theorem y65_ty24 : TyIs Try.prog 24 false 1 := ⟨by kernel_rfl, by kernel_rfl⟩
theorem y65_ty26 : TyIs Try.prog 26 true 4 := ⟨by kernel_rfl, by kernel_rfl⟩
theorem y65_ty49 : TyIs Try.prog 49 false 1 := ⟨by kernel_rfl, by kernel_rfl⟩
theorem y65_ty9 : TyIs Try.prog 9 false 1 := ⟨by kernel_rfl, by kernel_rfl⟩
theorem y65_ty91 : TyIs Try.prog 91 true 3 := ⟨by kernel_rfl, by kernel_rfl⟩

set_option maxRecDepth 100000 in
set_option maxHeartbeats 4000000 in
theorem copied_two (l : Lin) (hl : Sho l) (hf : Ful l) : FnRow2 Try.prog 95 [lnA l] 70 4 (l.js.map jnE) 87 2 (l.bs.map beE) [.a (.v (.string l.nam)), .one, .two, .a (.row 3 (l.ss.map swE))] := by
  obtain ⟨h1, h2, h3, h4, h5⟩ := id hl
  refine fnRow2_of (fn := Try.f95) 34 (by kernel_rfl) rfl (by kernel_rfl) (Nat.le_of_ble_eq_true rfl) (by exact ⟨jnE_plain l.js, beE_plain l.bs⟩) rfl ?_
  intro e_0 m_0 hA hm_0
  have s0_0 : evA e_0 (.tmp 0) = _ := hA 0 _ rfl
  have ml_0 : m_0.length = 0 := by rw [hm_0]; rfl
  clear hA hm_0
  refine aw_seq <| at_ <| al_stm (st_box s0_0 rfl ml_0) trivial rfl (fun m_1 hm_1 => ?_)
  have mo0_1 := m_push hm_1 ml_0
  have ml_1 := m_push_l hm_1 ml_0
  have ml_1 : _ = 1 := ml_1
  clear hm_1
  refine al_stm (st_alloc y65_az26 rfl ml_1) trivial rfl (fun m_2 hm_2 => ?_)
  have mo1_2 := m_push hm_2 ml_1
  simp only [pS, Value.cells, Nat.reduceAdd, swE, one_swE, app_m] at mo1_2
  have mo0_2 := m_push_o hm_2 mo0_1
  have ml_2 := m_push_l hm_2 ml_1
  have ml_2 : _ = 2 := ml_2
  clear hm_2 mo0_1
  refine ae2 (up_m rfl up_h) up_h ?_; clear s0_0; intro e_3 s1_3 s2_3
  refine then_n <| aw_seq <| aw_drawK 10 3 ml_2 (by kernel_rfl) (by kernel_rfl) (by kernel_rfl) (by kernel_rfl) (fun m_4 hm_4 => ?_)
  have mo1_4 := m_room_o hm_4 mo1_2
  have mo0_4 := m_room_o hm_4 mo0_2
  have mo2_4 : m_4[2]? = _ := m_room_g hm_4 ml_2 0 rfl rfl
  have mo3_4 : m_4[3]? = _ := m_room_g hm_4 ml_2 1 rfl rfl
  have mo4_4 : m_4[4]? = _ := m_room_g hm_4 ml_2 2 rfl rfl
  have ml_4 : _ = 5 := m_room_l (K := 3) hm_4 ml_2
  clear hm_4 mo1_2 mo0_2 ml_2
  refine dh_ro (fun M_ hM_ => (ro_fld_ptr y65_fl26_0 rfl s1_3)) trivial ?_
  refine dh_ld (0) (fun M_ hM_ => (ro_eq (ro_ld_ptr y65_ty9 rfl (agr hM_ mo0_4 (by simp)) up_h (nle rfl)) (by simp only [pS, Value.cells, Nat.reduceAdd, swE, one_swE, app_m] <;> rfl))) trivial trivial ?_
  refine dh_ro (fun M_ hM_ => (ro_fld_ptr y65_fl26_1 rfl (u2 rfl s1_3))) trivial ?_
  refine dh_ld (0) (fun M_ hM_ => (ro_eq (ro_ld_ptr y65_ty22 rfl (agr hM_ mo0_4 (by simp)) up_h (nle rfl)) (by simp only [pS, Value.cells, Nat.reduceAdd, swE, one_swE, app_m] <;> rfl))) trivial trivial ?_
  refine dh_nw (2) (fun M_ hM_ => (nw_callrow (evL_cons up_h evL_nil) rfl (cloneJ_row _ hf.1 h2) y65_hcf145)) trivial mo2_4 rfl trivial ⟨.inl (by simp <;> omega), ⟨.inl (by simp <;> omega), trivial⟩⟩ (fun m_5 hm_5 => ?_)
  have mo2_5 := m_set hm_5 mo2_4
  have mo1_5 := m_set_o hm_5 mo1_4 (by decide)
  have mo0_5 := m_set_o hm_5 mo0_4 (by decide)
  have mo3_5 := m_set_o hm_5 mo3_4 (by decide)
  have mo4_5 := m_set_o hm_5 mo4_4 (by decide)
  have ml_5 := m_set_l hm_5 ml_4
  clear hm_5 mo1_4 mo0_4 mo2_4 mo3_4 mo4_4
  refine dh_ro (fun M_ hM_ => (ro_fld_ptr y65_fl26_2 rfl (up_m rfl (u4 rfl s1_3)))) trivial ?_
  refine dh_ld (0) (fun M_ hM_ => (ro_eq (ro_ld_ptr y65_ty23 rfl (agr hM_ mo0_5 (by simp)) up_h (nle rfl)) (by simp only [pS, Value.cells, Nat.reduceAdd, swE, one_swE, app_m] <;> rfl))) trivial ⟨.inl (by simp <;> omega), trivial⟩ ?_
  refine dh_nw (3) (fun M_ hM_ => (nw_callrow (evL_cons up_h evL_nil) rfl (cloneB_row _ hf.2.1 h3) y65_hcf146)) trivial mo3_5 rfl ⟨.inl (by simp <;> omega), trivial⟩ ⟨.inl (by simp <;> omega), ⟨.inl (by simp <;> omega), ⟨.inl (by simp <;> omega), ⟨.inl (by simp <;> omega), trivial⟩⟩⟩⟩ (fun m_6 hm_6 => ?_)
  have mo3_6 := m_set hm_6 mo3_5
  have mo2_6 := m_set_o hm_6 mo2_5 (by decide)
  have mo1_6 := m_set_o hm_6 mo1_5 (by decide)
  have mo0_6 := m_set_o hm_6 mo0_5 (by decide)
  have mo4_6 := m_set_o hm_6 mo4_5 (by decide)
  have ml_6 := m_set_l hm_6 ml_5
  clear hm_6 mo2_5 mo1_5 mo0_5 mo3_5 mo4_5
  refine dh_ro (fun M_ hM_ => (ro_build (evP_cons (u2 rfl (u4 rfl up_h)) (evP_cons (up_m rfl (u2 rfl up_h)) (evP_cons up_h evP_nil))) y65_bz26 y65_bu26 y65_bp26 rfl)) trivial ?_
  refine dh_nw (4) (fun M_ hM_ => (nw_alloc y65_az26 rfl)) trivial mo4_6 rfl ⟨.inl (by simp <;> omega), ⟨.inl (by simp <;> omega), trivial⟩⟩ ⟨.inl (by simp <;> omega), ⟨.inl (by simp <;> omega), ⟨.inl (by simp <;> omega), ⟨.inl (by simp <;> omega), ⟨.inl (by simp <;> omega), trivial⟩⟩⟩⟩⟩ (fun m_7 hm_7 => ?_)
  have mo4_7 := m_set hm_7 mo4_6
  simp only [pS, Value.cells, Nat.reduceAdd, swE, one_swE, app_m] at mo4_7
  have mo3_7 := m_set_o hm_7 mo3_6 (by decide)
  have mo2_7 := m_set_o hm_7 mo2_6 (by decide)
  have mo1_7 := m_set_o hm_7 mo1_6 (by decide)
  have mo0_7 := m_set_o hm_7 mo0_6 (by decide)
  have ml_7 := m_set_l hm_7 ml_6
  clear hm_7 mo3_6 mo2_6 mo1_6 mo0_6 mo4_6
  refine dh_nil rfl ?_
  refine al_stm (st_storeO up_h (up_m rfl up_h) rfl (oneL_c rfl (oneL_o mo2_7 (oneL_o mo3_7 (oneL_c rfl oneL_nil)))) mo4_7 y65_sz26 rfl (nle rfl)) trivial rfl (fun m_8 hm_8 => ?_)
  have mo4_8 := m_set hm_8 mo4_7
  simp only [pS, Value.cells, Nat.reduceAdd, swE, one_swE, app_m] at mo4_8
  have mo3_8 := m_set_o hm_8 mo3_7 (by decide)
  have mo2_8 := m_set_o hm_8 mo2_7 (by decide)
  have mo1_8 := m_set_o hm_8 mo1_7 (by decide)
  have mo0_8 := m_set_o hm_8 mo0_7 (by decide)
  have ml_8 := m_set_l hm_8 ml_7
  clear hm_8 mo4_7 mo3_7 mo2_7 mo1_7 mo0_7
  refine ae3 (up_n (u2 rfl (u8 rfl s1_3))) (up_n (u2 rfl (u8 rfl s2_3))) (up_n up_h) ?_; clear s1_3 s2_3; intro e_9 s1_9 s2_9 s3_9
  refine then_n <| aw_seq <| aw_seq <| at_ <| ar (ro_fld_ptr y65_fl26_3 rfl s1_9) rfl <| ar (ro_eq (ro_ld_ptr y65_ty24 rfl mo0_8 up_h (nle rfl)) (by simp only [pS, Value.cells, Nat.reduceAdd, swE, one_swE, app_m] <;> rfl)) rfl ?_
  refine ar (ro_eq (ro_len_row up_h rfl y65_sl24.1) (by simp only [lnS] <;> rfl)) rfl ?_
  refine ar (ro_move ev_c) rfl <| ae5 (u4 rfl s2_9) (u4 rfl s3_9) (u2 rfl up_h) (up_m rfl up_h) up_h ?_; clear s1_9 s2_9 s3_9; intro e_10 s2_10 s3_10 s16_10 s17_10 s18_10
  refine then_n <| aw_block <| aw_adoptC 91 3 3 mo4_8 rfl ml_8 (fun m0_11 m_11 h0_11 h1_11 => ?_)
  have mp5_11 := m_push h0_11 ml_8
  have mo5_11 := m_set_o h1_11 mp5_11 (by decide)
  have mp4_11 := m_push_o h0_11 mo4_8
  have mo4_11 := m_set h1_11 mp4_11
  simp only [List.set_cons_zero, List.set_cons_succ] at mo4_11
  have mp3_11 := m_push_o h0_11 mo3_8
  have mo3_11 := m_set_o h1_11 mp3_11 (by decide)
  have mp2_11 := m_push_o h0_11 mo2_8
  have mo2_11 := m_set_o h1_11 mp2_11 (by decide)
  have mp1_11 := m_push_o h0_11 mo1_8
  have mo1_11 := m_set_o h1_11 mp1_11 (by decide)
  have mp0_11 := m_push_o h0_11 mo0_8
  have mo0_11 := m_set_o h1_11 mp0_11 (by decide)
  have mq_11 := m_push_l h0_11 ml_8
  have ml_11 : _ = 6 := m_set_l h1_11 mq_11
  clear h0_11 h1_11 mq_11 mp5_11 mp4_11 mp3_11 mp2_11 mp1_11 mp0_11
  refine aw_loop (S := (Nat × Int × List Swi)) (fun s e mem => match s with | ⟨k, i, xs⟩ => (evA e (.tmp 18) = .v (.int .i64 i)) ∧ (evA e (.tmp 2) = evA e_10 (.tmp 2)) ∧ (evA e (.tmp 3) = evA e_10 (.tmp 3)) ∧ (evA e (.tmp 16) = evA e_10 (.tmp 16)) ∧ (evA e (.tmp 17) = evA e_10 (.tmp 17)) ∧ (mem[4]? = some (.box 26 [.v (.string l.nam), .own 2, .own 3, .own k])) ∧ (mem[k]? = some (.row 91 3 (xs.map swE))) ∧ (mem[3]? = m_11[3]?) ∧ (mem[2]? = m_11[2]?) ∧ (mem[1]? = m_11[1]?) ∧ (mem[0]? = m_11[0]?) ∧ (∃ n, mem.length = n ∧ 6 ≤ n) ∧ ((5 ≤ k ∧ 0 ≤ i ∧ i ≤ l.ss.length ∧ xs = l.ss.take i.toNat))) (fun s => match s with | ⟨k, i, xs⟩ => (l.ss.length - i).toNat) ⟨_, _, []⟩ ⟨s18_10, rfl, rfl, rfl, rfl, mo4_11, mo5_11, rfl, rfl, rfl, rfl, ⟨_, ml_11, Nat.le_refl _⟩, ?_⟩ ?_
  · (exact ⟨by omega, by omega, by omega, rfl⟩)
  · rintro ⟨k, i, xs⟩ e_12 m_12 ⟨s18_12, k2_12, k3_12, k16_12, k17_12, mo4_12, mok_12, mk3_12, mk2_12, mk1_12, mk0_12, ⟨n_12, ml_12, hn_12⟩, hinv⟩
    have s2_12 := k2_12.trans s2_10
    have s3_12 := k3_12.trans s3_10
    have s16_12 := k16_12.trans s16_10
    have s17_12 := k17_12.trans s17_10
    have mo3_12 := mk3_12.trans mo3_11
    have mo2_12 := mk2_12.trans mo2_11
    have mo1_12 := mk1_12.trans mo1_11
    have mo0_12 := mk0_12.trans mo0_11
    have jlk_12 := m_lt mok_12 ml_12
    (obtain ⟨q1, p1, p2, p3⟩ := hinv; have hso := hl.at i.toNat; have hxl : xs.length ≤ 1000000 := (by rw [p3, List.length_take]; omega))
    refine aw_seq <| at_ <| ar (ro_lss s18_12 s17_12) rfl <| ae6 (up_m rfl s2_12) (up_m rfl s3_12) (up_m rfl s16_12) (up_m rfl s17_12) (up_m rfl s18_12) up_h ?_; clear s16_12 s17_12 s18_12 s2_12 s3_12; intro e_13 s2_13 s3_13 s16_13 s17_13 s18_13 s19_13
    refine then_n <| aw_seq <| aw_case s19_13 (fun hq_14 => ?_) (fun hq_14 => ?_)
    ·replace hq_14 := bt hq_14
     refine aw_skip <| then_n <| aw_seq <| aw_block <| aw_seq <| at_ <| ar (ro_eq (ro_ix y65_sl24 s16_13 s18_13 (by omega) (by first | (refine idx_map ?_; first | omega | (simp only [lnS]; omega)) | (refine idx_mapI ?_; first | omega | (simp only [lnS]; omega)) | (refine idx_mapN ?_; first | omega | (simp only [lnS]; omega)) | rfl)) (by simp only [pS, Value.cells, Nat.reduceAdd, swE, one_swE, app_m] <;> rfl)) rfl ?_
     refine ar (ro_eq (ro_ld_ref y65_ty91 rfl up_h (nle rfl)) (by simp only [pS, Value.cells, Nat.reduceAdd, swE, one_swE, app_m] <;> rfl)) rfl ?_
     refine al_stm (st_alloc y65_az91 rfl ml_12) trivial rfl (fun m_15 hm_15 => ?_)
     have mon_12_15 := m_push hm_15 ml_12
     simp only [pS, Value.cells, Nat.reduceAdd, swE, one_swE, app_m] at mon_12_15
     have mo4_15 := m_push_o hm_15 mo4_12
     have mok_15 := m_push_o hm_15 mok_12
     have mo3_15 := m_push_o hm_15 mo3_12
     have mo2_15 := m_push_o hm_15 mo2_12
     have mo1_15 := m_push_o hm_15 mo1_12
     have mo0_15 := m_push_o hm_15 mo0_12
     have ml_15 := m_push_l hm_15 ml_12
     clear hm_15 mo4_12 mok_12 mo3_12 mo2_12 mo1_12 mo0_12
     refine al_stm (st_store up_h (up_m rfl up_h) rfl rfl mon_12_15 y65_sz91 rfl (nle rfl)) trivial rfl (fun m_16 hm_16 => ?_)
     have mon_12_16 := m_set hm_16 mon_12_15
     simp only [pS, Value.cells, Nat.reduceAdd, swE, one_swE, app_m] at mon_12_16
     have mo4_16 := m_set_o hm_16 mo4_15 (by omega)
     have mok_16 := m_set_o hm_16 mok_15 (by omega)
     have mo3_16 := m_set_o hm_16 mo3_15 (by omega)
     have mo2_16 := m_set_o hm_16 mo2_15 (by omega)
     have mo1_16 := m_set_o hm_16 mo1_15 (by omega)
     have mo0_16 := m_set_o hm_16 mo0_15 (by omega)
     have ml_16 := m_set_l hm_16 ml_15
     clear hm_16 mon_12_15 mo4_15 mok_15 mo3_15 mo2_15 mo1_15 mo0_15
     refine ae6 (up_n (up_m rfl (u2 rfl s2_13))) (up_n (up_m rfl (u2 rfl s3_13))) (up_n up_h) (up_n (up_m rfl (u2 rfl s16_13))) (up_n (up_m rfl (u2 rfl s17_13))) (up_n (up_m rfl (u2 rfl s18_13))) ?_; clear s16_13 s17_13 s18_13 s19_13 s2_13 s3_13; intro e_17 s2_17 s3_17 s5_17 s16_17 s17_17 s18_17
     refine then_n <| aw_seq <| at_ <| ar (ro_fld_ptr y65_fl91_2 rfl s5_17) rfl <| ar (ro_eq (ro_ld_ptr y65_ty49 rfl mon_12_16 up_h (nle rfl)) (by simp only [pS, Value.cells, Nat.reduceAdd, swE, one_swE, app_m] <;> rfl)) rfl ?_
     refine ar (ro_call (evL_cons up_h evL_nil) rfl (cloneI_ok _ (hf.at (by omega)) (hl.at i.toNat).2) y65_hcf147) rfl ?_
     refine ar (ro_fld_ptr y65_fl91_2 rfl (up_m rfl (u2 rfl s5_17))) rfl <| al_stm (st_store up_h (up_m rfl up_h) rfl rfl mon_12_16 y65_sz49 rfl (nle rfl)) trivial rfl (fun m_18 hm_18 => ?_)
     have mon_12_18 := m_set hm_18 mon_12_16
     simp only [pS, Value.cells, Nat.reduceAdd, swE, one_swE, app_m] at mon_12_18
     have mo4_18 := m_set_o hm_18 mo4_16 (by omega)
     have mok_18 := m_set_o hm_18 mok_16 (by omega)
     have mo3_18 := m_set_o hm_18 mo3_16 (by omega)
     have mo2_18 := m_set_o hm_18 mo2_16 (by omega)
     have mo1_18 := m_set_o hm_18 mo1_16 (by omega)
     have mo0_18 := m_set_o hm_18 mo0_16 (by omega)
     have ml_18 := m_set_l hm_18 ml_16
     clear hm_18 mon_12_16 mo4_16 mok_16 mo3_16 mo2_16 mo1_16 mo0_16
     refine ae6 (up_n (u4 rfl s2_17)) (up_n (u4 rfl s3_17)) (up_n (u4 rfl s5_17)) (up_n (u4 rfl s16_17)) (up_n (u4 rfl s17_17)) (up_n (u4 rfl s18_17)) ?_; clear s16_17 s17_17 s18_17 s2_17 s3_17 s5_17; intro e_19 s2_19 s3_19 s5_19 s16_19 s17_19 s18_19
     refine then_n <| at_ <| ar (ro_fld_ptr y65_fl26_3 rfl s3_19) rfl <| ar (ro_eq (ro_ld_ptr y65_ty24 rfl mo4_18 up_h (nle rfl)) (by simp only [pS, Value.cells, Nat.reduceAdd, swE, one_swE, app_m] <;> rfl)) rfl ?_
     refine ar (ro_eq (ro_ld_ptr y65_ty91 rfl mon_12_18 (u2 rfl s5_19) (nle rfl)) (by simp only [pS, Value.cells, Nat.reduceAdd, swE, one_swE, app_m] <;> rfl)) rfl ?_
     refine ar (ro_lit y65_sl24 (evP_cons up_h evP_nil) rfl rfl rfl rfl) rfl <| al_stm (st_app y65_sl24 rfl ml_18 mok_18 (u2 rfl up_h) up_h (by rfl) (by simp only [lnS] <;> omega)) trivial rfl (fun m_20 hm_20 => ?_)
     have mon_12_1_20 := m_swap hm_20 ml_18
     simp only [pS, Value.cells, Nat.reduceAdd, swE, one_swE, app_m] at mon_12_1_20
     have mon_12_20 := m_swap_o hm_20 mon_12_18 (by omega)
     have mo4_20 := m_swap_o hm_20 mo4_18 (by omega)
     have mo3_20 := m_swap_o hm_20 mo3_18 (by omega)
     have mo2_20 := m_swap_o hm_20 mo2_18 (by omega)
     have mo1_20 := m_swap_o hm_20 mo1_18 (by omega)
     have mo0_20 := m_swap_o hm_20 mo0_18 (by omega)
     have ml_20 := m_swap_l hm_20 ml_18
     clear hm_20 mon_12_18 mo4_18 mok_18 mo3_18 mo2_18 mo1_18 mo0_18
     refine ar (ro_fld_ptr y65_fl26_3 rfl (up_m rfl (u4 rfl s3_19))) rfl <| al_stm (st_store_own up_h (up_m rfl up_h) mo4_20 mon_12_1_20 y65_sz24 (nle rfl)) trivial rfl (fun m_21 hm_21 => ?_)
     have mo4_21 := m_set hm_21 mo4_20
     simp only [pS, Value.cells, Nat.reduceAdd, swE, one_swE, app_m] at mo4_21
     have mon_12_1_21 := m_set_o hm_21 mon_12_1_20 (by omega)
     have mon_12_21 := m_set_o hm_21 mon_12_20 (by omega)
     have mo3_21 := m_set_o hm_21 mo3_20 (by decide)
     have mo2_21 := m_set_o hm_21 mo2_20 (by decide)
     have mo1_21 := m_set_o hm_21 mo1_20 (by decide)
     have mo0_21 := m_set_o hm_21 mo0_20 (by decide)
     have ml_21 := m_set_l hm_21 ml_20
     clear hm_21 mon_12_1_20 mon_12_20 mo4_20 mo3_20 mo2_20 mo1_20 mo0_20
     refine ae5 (up_n (u2 rfl (u4 rfl s2_19))) (up_n (u2 rfl (u4 rfl s3_19))) (up_n (u2 rfl (u4 rfl s16_19))) (up_n (u2 rfl (u4 rfl s17_19))) (up_n (u2 rfl (u4 rfl s18_19))) ?_; clear s16_19 s17_19 s18_19 s2_19 s3_19 s5_19; intro e_22 s2_22 s3_22 s16_22 s17_22 s18_22
     refine block_n <| then_n <| at_ ?_
     (refine ar (ro_add' s18_22 ev_c ?_) rfl ?_; · (unfold In64; omega))
     refine ar (ro_move up_h) rfl <| ae5 (u2 rfl s2_22) (u2 rfl s3_22) (u2 rfl s16_22) (u2 rfl s17_22) up_h ?_; clear s16_22 s17_22 s18_22 s2_22 s3_22; intro e_23 s2_23 s3_23 s16_23 s17_23 s18_23
     refine then_n <| ⟨⟨_, _, _⟩, ⟨s18_23, (s2_23.trans s2_10.symm), (s3_23.trans s3_10.symm), (s16_23.trans s16_10.symm), (s17_23.trans s17_10.symm), mo4_21, mon_12_1_21, (mo3_21.trans mo3_11.symm), (mo2_21.trans mo2_11.symm), (mo1_21.trans mo1_11.symm), (mo0_21.trans mo0_11.symm), ⟨_, ml_21, by omega⟩, ?_⟩, ?_⟩
     · (refine ⟨by omega, by omega, by omega, ?_⟩; rw [take_suc p1 (by omega), ← p3])
     · ((try dsimp only); omega)
    replace hq_14 := bf hq_14
    (have hx : xs = l.ss := (by rw [p3, List.take_of_length_le (by omega)]); clear p3; subst hx)
    refine aw_exit <| then_x <| then_x <| block_hit <| then_n <| aw_seq <| aw_freezeF 3 mo4_12 mok_12 (by omega) rfl (fun m_24 hm_24 => ?_)
    have mo4_24 := m_set hm_24 (m_set_o rfl mo4_12 (by omega))
    simp only [List.set_cons_zero, List.set_cons_succ] at mo4_24
    have mo3_24 := m_set_o hm_24 (m_set_o rfl mo3_12 (by omega)) (by decide)
    have mo2_24 := m_set_o hm_24 (m_set_o rfl mo2_12 (by omega)) (by decide)
    have mo1_24 := m_set_o hm_24 (m_set_o rfl mo1_12 (by omega)) (by decide)
    have mo0_24 := m_set_o hm_24 (m_set_o rfl mo0_12 (by omega)) (by decide)
    have ml_24 := m_set_l hm_24 (m_set_l rfl ml_12)
    clear hm_24 mo4_12 mok_12 mo3_12 mo2_12 mo1_12 mo0_12
    refine at_ <| ar (ro_eq (ro_ld_ptr y65_ty26 rfl mo4_24 s3_13 (nle rfl)) (by simp only [pS, Value.cells, Nat.reduceAdd, swE, one_swE, app_m] <;> rfl)) rfl ?_
    refine al_stm (st_storeO (up_m rfl s2_13) up_h rfl (oneL_c rfl (oneL_o mo2_24 (oneL_o mo3_24 (oneL_c rfl oneL_nil)))) mo1_24 y65_sz26 rfl (nle rfl)) trivial rfl (fun m_25 hm_25 => ?_)
    have mo1_25 := m_set hm_25 mo1_24
    simp only [pS, Value.cells, Nat.reduceAdd, swE, one_swE, app_m] at mo1_25
    have mo4_25 := m_set_o hm_25 mo4_24 (by decide)
    have mo3_25 := m_set_o hm_25 mo3_24 (by decide)
    have mo2_25 := m_set_o hm_25 mo2_24 (by decide)
    have mo0_25 := m_set_o hm_25 mo0_24 (by decide)
    have ml_25 := m_set_l hm_25 ml_24
    clear hm_25 mo4_24 mo3_24 mo2_24 mo1_24 mo0_24
    refine ae1 (up_n (up_m rfl s2_13)) ?_; clear s16_13 s17_13 s18_13 s19_13 s2_13 s3_13; intro e_26 s2_26
    refine then_n <| aw_ret <| retRow2 (.inr rfl) (by kernel_rfl) (by decide) mo2_25 mo3_25 (resV_cell s2_26 mo1_25 y65_ty26 (nle rfl) (by simp)) rfl ?_
    exact ⟨rfl, rfl⟩
theorem copied_ok (l : Lin) (hl : Sho l) (hf : Ful l) : FnOk Try.prog 95 [lnA l] (fun q => q = lnA l) := (copied_own l hl hf).ok rfl
/-- A switch of a right line. -/
theorem Rgt.swi {l : Lin} (h : Rgt l) {i : Nat} (hi : i < l.ss.length) : 1 ≤ (l.ss.getD i default).fst ∧ 1 ≤ (l.ss.getD i default).acr.length ∧ (l.ss.getD i default).fst + (l.ss.getD i default).acr.length ≤ l.bs.length ∧ ∀ n ∈ (l.ss.getD i default).acr, -20000 ≤ n ∧ n ≤ 20000 := by
  have h1 := h.sa i hi
  unfold swiE at h1
  generalize l.ss.getD i default = t at h1
  split at h1
  · cases h1
  split at h1
  · cases h1
  split at h1
  · cases h1
  split at h1
  · cases h1
  split at h1
  · cases h1
  rename_i _ _ g3 g4 g5
  have e4 : withinB t.fst 1 (l.bs.length - t.acr.length) = true := by simpa using g4
  have e5 := withinB_iff.1 e4
  refine ⟨e5.1, by omega, by omega, fun n hn => ?_⟩
  have e6 : smaB n 20000 = true := by
    apply Classical.byContradiction
    intro hc
    exact g5 (List.any_eq_true.2 ⟨n, hn, by simpa using hc⟩)
  exact withinB_iff.1 e6
end Go.Proofs.Ytonjcljnpcmenaa

/- Contracts of chapter 1: the branch of a switch. No conditions on a program. -/
namespace Go.Proofs.Ytonjcljnpcmenaa
open Go Go.RowKit Go.Proofs
set_option linter.unusedSimpArgs false
set_option linter.unusedVariables false
theorem y66_az26 : (Try.prog.info? 26).bind (·.zero) = some (.agg #[.string ByteArray.empty, .slice none 0 0, .slice none 0 0, .slice none 0 0]) := by kernel_rfl
theorem y66_az91 : (Try.prog.info? 91).bind (·.zero) = some (.agg #[.string ByteArray.empty, .int .i64 0, .slice none 0 0]) := by kernel_rfl
theorem y66_bz26 : (Try.prog.info? 26).bind (·.zero) = some (.agg #[.string ByteArray.empty, .slice none 0 0, .slice none 0 0, .slice none 0 0]) := by kernel_rfl
theorem y66_bu26 : Try.prog.underlying 26 = some (.struct (fsOf Try.prog 26)) := by kernel_rfl
theorem y66_bp26 : ∀ w, ((fsOf Try.prog 26).mapM fun f => Prod.mk f.offset <$> sizeOf f.type : Sem (Array (Nat × Nat))).run Try.prog w = .ok (#[(0, 1), (1, 1), (2, 1), (3, 1)]) w := fun _ => by kernel_rfl
theorem y66_fl26_1 : FldIs Try.prog 26 1 1 false 1 := by unfold FldIs; kernel_rfl
theorem y66_fl26_3 : FldIs Try.prog 26 3 3 false 1 := by unfold FldIs; kernel_rfl
theorem y66_fl70_0 : FldIs Try.prog 70 0 0 false 1 := by unfold FldIs; kernel_rfl
theorem y66_fl91_0 : FldIs Try.prog 91 0 0 false 1 := by unfold FldIs; kernel_rfl
theorem y66_fl91_1 : FldIs Try.prog 91 1 1 false 1 := by unfold FldIs; kernel_rfl
theorem y66_fl91_2 : FldIs Try.prog 91 2 2 false 1 := by unfold FldIs; kernel_rfl
theorem y66_hcf18 : ∀ args w, (callFunc 18 args).run Try.prog w = .ok (.enter 18 args) w := fun _ _ => by kernel_rfl
theorem y66_hcf76 : ∀ args w, (callFunc 76 args).run Try.prog w = .ok (.enter 76 args) w := fun _ _ => by kernel_rfl
theorem y66_hcf95 : ∀ args w, (callFunc 95 args).run Try.prog w = .ok (.enter 95 args) w := fun _ _ => by kernel_rfl
theorem y66_sl22 : SlIs Try.prog 22 70 4 32 (.agg #[.int .i64 0, .int .i64 0, .int .i64 0, .int .i64 0]) := ⟨by kernel_rfl, by kernel_rfl, by kernel_rfl⟩
theorem y66_sl24 : SlIs Try.prog 24 91 3 48 (.agg #[.string ByteArray.empty, .int .i64 0, .slice none 0 0]) := ⟨by kernel_rfl, by kernel_rfl, by kernel_rfl⟩
theorem y66_sl49 : SlIs Try.prog 49 3 1 8 (.int .i64 0) := ⟨by kernel_rfl, by kernel_rfl, by kernel_rfl⟩
theorem y66_sz24 : (Try.prog.info? 24).map (·.size) = some 1 := by kernel_rfl
theorem y66_sz26 : (Try.prog.info? 26).map (·.size) = some 4 := by kernel_rfl
theorem y66_sz3 : (Try.prog.info? 3).map (·.size) = some 1 := by kernel_rfl
theorem y66_sz91 : (Try.prog.info? 91).map (·.size) = some 3 := by kernel_rfl
theorem y66_ty22 : TyIs Try.prog 22 false 1 := ⟨by kernel_rfl, by kernel_rfl⟩
theorem y66_ty24 : TyIs Try.prog 24 false 1 := ⟨by kernel_rfl, by kernel_rfl⟩
theorem y66_ty26 : TyIs Try.prog 26 true 4 := ⟨by kernel_rfl, by kernel_rfl⟩
theorem y66_ty3 : TyIs Try.prog 3 false 1 := ⟨by kernel_rfl, by kernel_rfl⟩
theorem y66_ty49 : TyIs Try.prog 49 false 1 := ⟨by kernel_rfl, by kernel_rfl⟩
theorem y66_ty9 : TyIs Try.prog 9 false 1 := ⟨by kernel_rfl, by kernel_rfl⟩
theorem y66_ty91 : TyIs Try.prog 91 true 3 := ⟨by kernel_rfl, by kernel_rfl⟩

/-- A joint that stands elsewhere across. -/
def Jnt.at (j : Jnt) (n : Int) : Jnt := ⟨n, j.up, j.lo, j.hi⟩
/-- The joints with the first n of a switch's bent. -/
def bendN (js : List Jnt) (f : Int) (xs : List Int) : Nat → List Jnt
  | 0 => js
  | n + 1 => (bendN js f xs n).set (f + n).toNat (((bendN js f xs n).getD (f + n).toNat default).at (xs.getD n default))
theorem bendN_len (js : List Jnt) (f : Int) (xs : List Int) : ∀ n : Nat, (bendN js f xs n).length = js.length
  | 0 => rfl
  | n + 1 => by simp only [bendN, List.length_set]; exact bendN_len js f xs n
def braL (l : Lin) (t : Swi) : Lin := ⟨l.nam, bendN l.js t.fst t.acr t.acr.length, l.bs, []⟩
def nmB (nm : ByteArray) (t : Swi) : Bool := t.nam.toList == nm.toList
def brF (l : Lin) (nm : ByteArray) : Option Swi := l.ss.find? (nmB nm)
theorem find_miss {p : Swi → Bool} {ss : List Swi} {i : Int} (h0 : 0 ≤ i) (hi : i < ss.length) (h : (ss.take i.toNat).find? p = none) (hp : p (ss.getD i.toNat default) = false) : (ss.take (i + 1).toNat).find? p = none := by
  rw [take_suc h0 hi, List.find?_append, h]
  simp only [List.find?, hp, Option.none_or]
theorem find_hit {p : Swi → Bool} {ss : List Swi} {i : Int} (h0 : 0 ≤ i) (hi : i < ss.length) (h : (ss.take i.toNat).find? p = none) (hp : p (ss.getD i.toNat default) = true) : ss.find? p = some (ss.getD i.toNat default) := by
  have h1 : (ss.take (i + 1).toNat).find? p = some (ss.getD i.toNat default) := by
    rw [take_suc h0 hi, List.find?_append, h]
    simp only [List.find?, hp, Option.none_or]
  rw [← List.take_append_drop (i + 1).toNat ss, List.find?_append, h1]
  rw [List.take_append_drop]; rfl
theorem set_at (js : List Jnt) (i : Nat) (n : Int) (j : Jnt) : (js.map jnE).set i [AV.v (.int .i64 n), AV.v (.int .i64 j.up), AV.v (.int .i64 j.lo), AV.v (.int .i64 j.hi)] = (js.set i (j.at n)).map jnE := by simp [List.map_set, jnE, Jnt.at]
set_option maxRecDepth 100000 in
set_option maxHeartbeats 4000000 in
theorem branch_bad (l : Lin) (hl : Sho l) (hb : (linM l).2 ≠ 0) (nm : ByteArray) : FnOk Try.prog 38 [lnA l, .v (.string nm)] (fun q => q = .tuple [lnA nonL, mA (linM l).2]) := by
  refine fnOk_of (fn := Try.f38) 57 (by kernel_rfl) rfl (by kernel_rfl) (Nat.le_of_ble_eq_true rfl) ?_
  intro e_0 m_0 hA hm_0
  have s0_0 : evA e_0 (.tmp 0) = _ := hA 0 _ rfl
  have s1_0 : evA e_0 (.tmp 1) = _ := hA 1 _ rfl
  have ml_0 : m_0.length = 0 := by rw [hm_0]; rfl
  clear hA hm_0
  refine aw_seq <| at_ <| al_stm (st_box s0_0 rfl ml_0) trivial rfl (fun m_1 hm_1 => ?_)
  have mo0_1 := m_push hm_1 ml_0
  have ml_1 := m_push_l hm_1 ml_0
  have ml_1 : _ = 1 := ml_1
  clear hm_1
  refine al_stm (st_alloc y66_az26 rfl ml_1) trivial rfl (fun m_2 hm_2 => ?_)
  have mo1_2 := m_push hm_2 ml_1
  simp only [pS, Value.cells, Nat.reduceAdd] at mo1_2
  have mo0_2 := m_push_o hm_2 mo0_1
  have ml_2 := m_push_l hm_2 ml_1
  have ml_2 : _ = 2 := ml_2
  clear hm_2 mo0_1
  refine ar (ro_assign ev_c) rfl <| ae3 (up_m rfl (u2 rfl s1_0)) (u2 rfl up_h) (up_m rfl up_h) ?_; clear s0_0 s1_0; intro e_3 s1_3 s2_3 s4_3
  refine then_n <| aw_seq <| aw_seq <| at_ <| ar (ro_eq (ro_ld_ptr y66_ty26 rfl mo0_2 s2_3 (nle rfl)) (by simp only [pS, Value.cells, Nat.reduceAdd] <;> rfl)) rfl ?_
  refine ar (ro_call (evL_cons up_h evL_nil) rfl (yOpen_bad l hl hb) y66_hcf76) rfl <| ar (ro_move up_h) rfl <| ar (ro_extract up_h rfl) rfl <| ar (ro_extract (up_m rfl up_h) rfl) rfl <| ar (ro_assign (up_m rfl up_h)) rfl <| ar (ro_assign (up_m rfl up_h)) rfl <| ae4 (up_m rfl (u2 rfl (u4 rfl s1_3))) (up_m rfl (u2 rfl (u4 rfl s2_3))) (up_m rfl (u2 rfl (u4 rfl s4_3))) up_h ?_; clear s1_3 s2_3 s4_3; intro e_4 s1_4 s2_4 s4_4 s7_4
  refine then_n <| aw_seq <| at_ <| ar (ro_move s7_4) rfl <| ar (ro_neq up_h ev_c) rfl <| ae5 (u2 rfl s1_4) (u2 rfl s2_4) (u2 rfl s4_4) (u2 rfl s7_4) up_h ?_; clear s1_4 s2_4 s4_4 s7_4; intro e_5 s1_5 s2_5 s4_5 s7_5 s19_5
  refine then_n <| aw_case s19_5 (fun hq_6 => ?_) (fun hq_6 => ?_)
  ·replace hq_6 := bnt hq_6
   refine aw_seq <| at_ <| ar (ro_build evP_nil y66_bz26 y66_bu26 y66_bp26 rfl) rfl ?_
   refine ar (ro_move (up_m rfl s7_5)) rfl <| al_stm (st_store (u2 rfl s4_5) (up_m rfl up_h) rfl rfl mo1_2 y66_sz26 rfl (nle rfl)) trivial rfl (fun m_7 hm_7 => ?_)
   have mo1_7 := m_set hm_7 mo1_2
   simp only [pS, Value.cells, Nat.reduceAdd] at mo1_7
   have mo0_7 := m_set_o hm_7 mo0_2 (by decide)
   have ml_7 := m_set_l hm_7 ml_2
   clear hm_7 mo1_2 mo0_2
   refine ar (ro_assign (up_n up_h)) rfl <| ae2 (up_m rfl (up_n (u2 rfl s4_5))) up_h ?_; clear s19_5 s1_5 s2_5 s4_5 s7_5; intro e_8 s4_8 s5_8
   refine then_n <| aw_ret <| then_r <| ret2 (.inr rfl) (by kernel_rfl) (resV_cell s4_8 mo1_7 y66_ty26 (nle rfl) (by simp)) (resV_tmp s5_8) (vw_r (vw_agg (vwl_cons (.ro _ rfl) (vwl_cons (.nil 4) (vwl_cons (.nil 2) (vwl_cons (.nil 3) vwl_nil)))))) (.ro _ rfl) ?_
   clear s4_8 s5_8 mo1_7 mo0_7 ml_7
   rfl
  · replace hq_6 := bnf hq_6; exfalso; omega
def braA (l : Lin) (nm : ByteArray) : AV := match brF l nm with | some t => .tuple [lnA (braL l t), mA 0] | none => .tuple [lnA nonL, mA 6]
def rBraA (l : Lin) (nm : ByteArray) : AV := match brF l nm with | some t => .tuple [lnA (braL l t), tbA true] | none => .tuple [lnA nonL, tbA false]
set_option maxRecDepth 100000 in
set_option maxHeartbeats 4000000 in
theorem branch_good (l : Lin) (hl : Sho l) (hg : (linM l).2 = 0) (nm : ByteArray) (hn : nm.size ≤ 1000000) : FnOk Try.prog 38 [lnA l, .v (.string nm)] (fun q => q = braA l nm) := by
  refine fnOk_of (fn := Try.f38) 57 (by kernel_rfl) rfl (by kernel_rfl) (Nat.le_of_ble_eq_true rfl) ?_
  intro e_0 m_0 hA hm_0
  have s0_0 : evA e_0 (.tmp 0) = _ := hA 0 _ rfl
  have s1_0 : evA e_0 (.tmp 1) = _ := hA 1 _ rfl
  have ml_0 : m_0.length = 0 := by rw [hm_0]; rfl
  clear hA hm_0
  have hr := rgt_of hg; have hjs := hr.js; have hn1 := hr.n1; have hs1 := hr.s1
  refine aw_seq <| at_ <| al_stm (st_box s0_0 rfl ml_0) trivial rfl (fun m_1 hm_1 => ?_)
  have mo0_1 := m_push hm_1 ml_0
  have ml_1 := m_push_l hm_1 ml_0
  have ml_1 : _ = 1 := ml_1
  clear hm_1
  refine al_stm (st_alloc y66_az26 rfl ml_1) trivial rfl (fun m_2 hm_2 => ?_)
  have mo1_2 := m_push hm_2 ml_1
  simp only [pS, Value.cells, Nat.reduceAdd, jnE, swE, set_at] at mo1_2
  have mo0_2 := m_push_o hm_2 mo0_1
  have ml_2 := m_push_l hm_2 ml_1
  have ml_2 : _ = 2 := ml_2
  clear hm_2 mo0_1
  refine ar (ro_assign ev_c) rfl <| ae3 (up_m rfl (u2 rfl s1_0)) (u2 rfl up_h) (up_m rfl up_h) ?_; clear s0_0 s1_0; intro e_3 s1_3 s2_3 s4_3
  refine then_n <| aw_seq <| aw_seq <| at_ <| ar (ro_eq (ro_ld_ptr y66_ty26 rfl mo0_2 s2_3 (nle rfl)) (by simp only [pS, Value.cells, Nat.reduceAdd, jnE, swE, set_at] <;> rfl)) rfl ?_
  refine ar (ro_call (evL_cons up_h evL_nil) rfl (yOpen_good l hl hg) y66_hcf76) rfl <| ar (ro_move up_h) rfl <| ar (ro_extract up_h rfl) rfl <| ar (ro_extract (up_m rfl up_h) rfl) rfl <| ar (ro_assign (up_m rfl up_h)) rfl <| ar (ro_assign (up_m rfl up_h)) rfl <| ae4 (up_m rfl (u2 rfl (u4 rfl s1_3))) (up_m rfl (u2 rfl (u4 rfl s2_3))) (up_m rfl (u2 rfl (u4 rfl s4_3))) up_h ?_; clear s1_3 s2_3 s4_3; intro e_4 s1_4 s2_4 s4_4 s7_4
  refine then_n <| aw_seq <| at_ <| ar (ro_move s7_4) rfl <| ar (ro_neq up_h ev_c) rfl <| ae5 (u2 rfl s1_4) (u2 rfl s2_4) (u2 rfl s4_4) (u2 rfl s7_4) up_h ?_; clear s1_4 s2_4 s4_4 s7_4; intro e_5 s1_5 s2_5 s4_5 s7_5 s19_5
  refine then_n <| aw_case s19_5 (fun hq_6 => ?_) (fun hq_6 => ?_)
  · cases hq_6
  replace hq_6 := bnf hq_6
  refine aw_skip <| then_n <| aw_seq <| at_ <| ar (ro_eq (ro_ld_ptr y66_ty26 rfl mo0_2 s2_5 (nle rfl)) (by simp only [pS, Value.cells, Nat.reduceAdd, jnE, swE, set_at] <;> rfl)) rfl ?_
  refine al_stm (st_callL ml_2 (evL_cons up_h evL_nil) rfl (copied_own l hl hr.ful) y66_hcf95) trivial rfl (fun m_7 hm_7 => ?_)
  have mo2_7 := m_push hm_7 ml_2
  have mo1_7 := m_push_o hm_7 mo1_2
  have mo0_7 := m_push_o hm_7 mo0_2
  have ml_7 := m_push_l hm_7 ml_2
  have ml_7 : _ = 3 := ml_7
  clear hm_7 mo1_2 mo0_2
  refine al_stm (st_alloc y66_az26 rfl ml_7) trivial rfl (fun m_8 hm_8 => ?_)
  have mo3_8 := m_push hm_8 ml_7
  simp only [pS, Value.cells, Nat.reduceAdd, jnE, swE, set_at] at mo3_8
  have mo2_8 := m_push_o hm_8 mo2_7
  have mo1_8 := m_push_o hm_8 mo1_7
  have mo0_8 := m_push_o hm_8 mo0_7
  have ml_8 := m_push_l hm_8 ml_7
  have ml_8 : _ = 4 := ml_8
  clear hm_8 mo2_7 mo1_7 mo0_7
  refine al_stm (st_storeO up_h (up_m rfl up_h) rfl (oneL_c rfl (oneL_o mo2_8 (oneL_c rfl (oneL_c rfl oneL_nil)))) mo3_8 y66_sz26 rfl (nle rfl)) trivial rfl (fun m_9 hm_9 => ?_)
  have mo3_9 := m_set hm_9 mo3_8
  simp only [pS, Value.cells, Nat.reduceAdd, jnE, swE, set_at] at mo3_9
  have mo2_9 := m_set_o hm_9 mo2_8 (by decide)
  have mo1_9 := m_set_o hm_9 mo1_8 (by decide)
  have mo0_9 := m_set_o hm_9 mo0_8 (by decide)
  have ml_9 := m_set_l hm_9 ml_8
  clear hm_9 mo3_8 mo2_8 mo1_8 mo0_8
  refine ae4 (up_n (up_m rfl (u2 rfl s1_5))) (up_n (up_m rfl (u2 rfl s2_5))) (up_n (up_m rfl (u2 rfl s4_5))) (up_n up_h) ?_; clear s19_5 s1_5 s2_5 s4_5 s7_5; intro e_10 s1_10 s2_10 s4_10 s8_10
  refine then_n <| aw_seq <| aw_seq <| at_ <| ar (ro_fld_ptr y66_fl26_3 rfl s2_10) rfl <| ar (ro_eq (ro_ld_ptr y66_ty24 rfl mo0_9 up_h (nle rfl)) (by simp only [pS, Value.cells, Nat.reduceAdd, jnE, swE, set_at] <;> rfl)) rfl ?_
  refine ar (ro_eq (ro_len_row up_h rfl y66_sl24.1) (by simp only [lnS] <;> rfl)) rfl ?_
  refine ar (ro_move ev_c) rfl <| ae6 (u4 rfl s1_10) (u4 rfl s4_10) (u4 rfl s8_10) (u2 rfl up_h) (up_m rfl up_h) up_h ?_; clear s1_10 s2_10 s4_10 s8_10; intro e_11 s1_11 s4_11 s8_11 s25_11 s26_11 s27_11
  refine then_n <| aw_block <| aw_loop (S := Int) (fun k e mem => (evA e (.tmp 27) = .v (.int .i64 k)) ∧ (evA e (.tmp 1) = evA e_11 (.tmp 1)) ∧ (evA e (.tmp 4) = evA e_11 (.tmp 4)) ∧ (evA e (.tmp 8) = evA e_11 (.tmp 8)) ∧ (evA e (.tmp 25) = evA e_11 (.tmp 25)) ∧ (evA e (.tmp 26) = evA e_11 (.tmp 26)) ∧ (mem[3]? = m_9[3]?) ∧ (mem[2]? = m_9[2]?) ∧ (mem[1]? = m_9[1]?) ∧ (mem[0]? = m_9[0]?) ∧ (∃ n, mem.length = n ∧ 4 ≤ n) ∧ ((0 ≤ k ∧ k ≤ l.ss.length ∧ (l.ss.take k.toNat).find? (nmB nm) = none))) (fun k => (l.ss.length - k).toNat) _ ⟨s27_11, rfl, rfl, rfl, rfl, rfl, rfl, rfl, rfl, rfl, ⟨_, ml_9, Nat.le_refl _⟩, ?_⟩ ?_
  · (exact ⟨by omega, by omega, rfl⟩)
  · rintro k e_12 m_12 ⟨s27_12, k1_12, k4_12, k8_12, k25_12, k26_12, mk3_12, mk2_12, mk1_12, mk0_12, ⟨n_12, ml_12, hn_12⟩, hinv⟩
    have s1_12 := k1_12.trans s1_11
    have s4_12 := k4_12.trans s4_11
    have s8_12 := k8_12.trans s8_11
    have s25_12 := k25_12.trans s25_11
    have s26_12 := k26_12.trans s26_11
    have mo3_12 := mk3_12.trans mo3_9
    have mo2_12 := mk2_12.trans mo2_9
    have mo1_12 := mk1_12.trans mo1_9
    have mo0_12 := mk0_12.trans mo0_9
    (obtain ⟨p1, p2, p3⟩ := hinv)
    refine aw_seq <| at_ <| ar (ro_lss s27_12 s26_12) rfl <| ae7 (up_m rfl s1_12) (up_m rfl s4_12) (up_m rfl s8_12) (up_m rfl s25_12) (up_m rfl s26_12) (up_m rfl s27_12) up_h ?_; clear s1_12 s25_12 s26_12 s27_12 s4_12 s8_12; intro e_13 s1_13 s4_13 s8_13 s25_13 s26_13 s27_13 s28_13
    refine then_n <| aw_seq <| aw_case s28_13 (fun hq_14 => ?_) (fun hq_14 => ?_)
    ·replace hq_14 := bt hq_14
     refine aw_skip <| then_n <| aw_seq <| aw_block <| aw_seq <| at_ <| ar (ro_eq (ro_ix y66_sl24 s25_13 s27_13 (by omega) (by first | (refine idx_map ?_; first | omega | (simp only [lnS]; omega)) | (refine idx_mapI ?_; first | omega | (simp only [lnS]; omega)) | (refine idx_mapN ?_; first | omega | (simp only [lnS]; omega)) | rfl)) (by simp only [pS, Value.cells, Nat.reduceAdd, jnE, swE, set_at] <;> rfl)) rfl ?_
     refine ar (ro_eq (ro_ld_ref y66_ty91 rfl up_h (nle rfl)) (by simp only [pS, Value.cells, Nat.reduceAdd, jnE, swE, set_at] <;> rfl)) rfl ?_
     refine al_stm (st_alloc y66_az91 rfl ml_12) trivial rfl (fun m_15 hm_15 => ?_)
     have mon_12_15 := m_push hm_15 ml_12
     simp only [pS, Value.cells, Nat.reduceAdd, jnE, swE, set_at] at mon_12_15
     have mo3_15 := m_push_o hm_15 mo3_12
     have mo2_15 := m_push_o hm_15 mo2_12
     have mo1_15 := m_push_o hm_15 mo1_12
     have mo0_15 := m_push_o hm_15 mo0_12
     have ml_15 := m_push_l hm_15 ml_12
     clear hm_15 mo3_12 mo2_12 mo1_12 mo0_12
     refine al_stm (st_store up_h (up_m rfl up_h) rfl rfl mon_12_15 y66_sz91 rfl (nle rfl)) trivial rfl (fun m_16 hm_16 => ?_)
     have mon_12_16 := m_set hm_16 mon_12_15
     simp only [pS, Value.cells, Nat.reduceAdd, jnE, swE, set_at] at mon_12_16
     have mo3_16 := m_set_o hm_16 mo3_15 (by omega)
     have mo2_16 := m_set_o hm_16 mo2_15 (by omega)
     have mo1_16 := m_set_o hm_16 mo1_15 (by omega)
     have mo0_16 := m_set_o hm_16 mo0_15 (by omega)
     have ml_16 := m_set_l hm_16 ml_15
     clear hm_16 mon_12_15 mo3_15 mo2_15 mo1_15 mo0_15
     refine ae7 (up_n (up_m rfl (u2 rfl s1_13))) (up_n (up_m rfl (u2 rfl s4_13))) (up_n (up_m rfl (u2 rfl s8_13))) (up_n up_h) (up_n (up_m rfl (u2 rfl s25_13))) (up_n (up_m rfl (u2 rfl s26_13))) (up_n (up_m rfl (u2 rfl s27_13))) ?_; clear s1_13 s25_13 s26_13 s27_13 s28_13 s4_13 s8_13; intro e_17 s1_17 s4_17 s8_17 s10_17 s25_17 s26_17 s27_17
     refine then_n <| aw_seq <| aw_seq <| at_ <| ar (ro_fld_ptr y66_fl91_0 rfl s10_17) rfl <| ar (ro_eq (ro_ld_ptr y66_ty9 rfl mon_12_16 up_h (nle rfl)) (by simp only [pS, Value.cells, Nat.reduceAdd, jnE, swE, set_at] <;> rfl)) rfl ?_
     refine ar (ro_move (u2 rfl s1_17)) rfl <| ar (ro_sneq (up_m rfl up_h) up_h) rfl <| ae8 (u4 rfl s1_17) (u4 rfl s4_17) (u4 rfl s8_17) (u4 rfl s10_17) (u4 rfl s25_17) (u4 rfl s26_17) (u4 rfl s27_17) up_h ?_; clear s10_17 s1_17 s25_17 s26_17 s27_17 s4_17 s8_17; intro e_18 s1_18 s4_18 s8_18 s10_18 s25_18 s26_18 s27_18 s34_18
     refine then_n <| aw_case s34_18 (fun hq_19 => ?_) (fun hq_19 => ?_)
     ·replace hq_19 := bt' hq_19
      refine aw_exit <| then_x <| block_hit <| then_n <| at_ ?_
      (refine ar (ro_add' s27_18 ev_c ?_) rfl ?_; · (unfold In64; omega))
      refine ar (ro_move up_h) rfl <| ae6 (u2 rfl s1_18) (u2 rfl s4_18) (u2 rfl s8_18) (u2 rfl s25_18) (u2 rfl s26_18) up_h ?_; clear s10_18 s1_18 s25_18 s26_18 s27_18 s34_18 s4_18 s8_18; intro e_20 s1_20 s4_20 s8_20 s25_20 s26_20 s27_20
      refine then_n <| ⟨_, ⟨s27_20, (s1_20.trans s1_11.symm), (s4_20.trans s4_11.symm), (s8_20.trans s8_11.symm), (s25_20.trans s25_11.symm), (s26_20.trans s26_11.symm), (mo3_16.trans mo3_9.symm), (mo2_16.trans mo2_9.symm), (mo1_16.trans mo1_9.symm), (mo0_16.trans mo0_9.symm), ⟨_, ml_16, by omega⟩, ?_⟩, ?_⟩
      · (exact ⟨by omega, by omega, find_miss p1 (by omega) p3 (by assumption)⟩)
      · ((try dsimp only); omega)
     replace hq_19 := bf' hq_19
     refine aw_skip <| then_n <| aw_seq <| aw_seq <| at_ <| ar (ro_fld_ptr y66_fl91_2 rfl s10_18) rfl <| ar (ro_eq (ro_ld_ptr y66_ty49 rfl mon_12_16 up_h (nle rfl)) (by simp only [pS, Value.cells, Nat.reduceAdd, jnE, swE, set_at] <;> rfl)) rfl ?_
     refine ar (ro_eq (ro_len_row up_h rfl y66_sl49.1) (by simp only [lnS] <;> rfl)) rfl ?_
     refine ar (ro_move ev_c) rfl <| ae6 (u4 rfl s4_18) (u4 rfl s8_18) (u4 rfl s10_18) (u2 rfl up_h) (up_m rfl up_h) up_h ?_; clear s10_18 s1_18 s25_18 s26_18 s27_18 s34_18 s4_18 s8_18; intro e_21 s4_21 s8_21 s10_21 s36_21 s37_21 s38_21
     refine then_n <| aw_block <| aw_loop (S := (Int × List Jnt)) (fun s e mem => match s with | ⟨i, xs⟩ => (evA e (.tmp 38) = .v (.int .i64 i)) ∧ (evA e (.tmp 4) = evA e_21 (.tmp 4)) ∧ (evA e (.tmp 8) = evA e_21 (.tmp 8)) ∧ (evA e (.tmp 10) = evA e_21 (.tmp 10)) ∧ (evA e (.tmp 36) = evA e_21 (.tmp 36)) ∧ (evA e (.tmp 37) = evA e_21 (.tmp 37)) ∧ (mem[2]? = some (.row 70 4 (xs.map jnE))) ∧ (mem[n_12]? = m_16[n_12]?) ∧ (mem[3]? = m_16[3]?) ∧ (mem[1]? = m_16[1]?) ∧ (mem[0]? = m_16[0]?) ∧ (mem.length = n_12 + 1) ∧ ((0 ≤ i ∧ i ≤ (l.ss.getD k.toNat default).acr.length ∧ xs = bendN l.js (l.ss.getD k.toNat default).fst (l.ss.getD k.toNat default).acr i.toNat))) (fun s => match s with | ⟨i, xs⟩ => ((l.ss.getD k.toNat default).acr.length - i).toNat) ⟨_, l.js⟩ ⟨s38_21, rfl, rfl, rfl, rfl, rfl, mo2_16, rfl, rfl, rfl, rfl, ml_16, ?_⟩ ?_
     · (exact ⟨by omega, by omega, rfl⟩)
     · rintro ⟨i, xs⟩ e_22 m_22 ⟨s38_22, k4_22, k8_22, k10_22, k36_22, k37_22, mo2_22, mkn_12_22, mk3_22, mk1_22, mk0_22, ml_22, hinv⟩
       have s4_22 := k4_22.trans s4_21
       have s8_22 := k8_22.trans s8_21
       have s10_22 := k10_22.trans s10_21
       have s36_22 := k36_22.trans s36_21
       have s37_22 := k37_22.trans s37_21
       have mon_12_22 := mkn_12_22.trans mon_12_16
       have mo3_22 := mk3_22.trans mo3_16
       have mo1_22 := mk1_22.trans mo1_16
       have mo0_22 := mk0_22.trans mo0_16
       (obtain ⟨i1, i2, i3⟩ := hinv; have hxl : xs.length = l.js.length := (by rw [i3, bendN_len]); have ha := hl.at k.toNat; obtain ⟨w1, w2, w3, w4⟩ := hr.swi (i := k.toNat) (by omega))
       refine aw_seq <| at_ <| ar (ro_lss s38_22 s37_22) rfl <| ae7 (up_m rfl s4_22) (up_m rfl s8_22) (up_m rfl s10_22) (up_m rfl s36_22) (up_m rfl s37_22) (up_m rfl s38_22) up_h ?_; clear s10_22 s36_22 s37_22 s38_22 s4_22 s8_22; intro e_23 s4_23 s8_23 s10_23 s36_23 s37_23 s38_23 s39_23
       refine then_n <| aw_seq <| aw_case s39_23 (fun hq_24 => ?_) (fun hq_24 => ?_)
       ·replace hq_24 := bt hq_24
        refine aw_skip <| then_n <| aw_seq <| aw_block <| aw_seq <| at_ <| ar (ro_move s38_23) rfl <| ar (ro_eq (ro_ix y66_sl49 (up_m rfl s36_23) (up_m rfl s38_23) (by omega) (by first | (refine idx_map ?_; first | omega | (simp only [lnS]; omega)) | (refine idx_mapI ?_; first | omega | (simp only [lnS]; omega)) | (refine idx_mapN ?_; first | omega | (simp only [lnS]; omega)) | rfl)) (by simp only [pS, Value.cells, Nat.reduceAdd, jnE, swE, set_at] <;> rfl)) rfl ?_
        refine ar (ro_eq (ro_ld_ref y66_ty3 rfl up_h (nle rfl)) (by simp only [pS, Value.cells, Nat.reduceAdd, jnE, swE, set_at] <;> rfl)) rfl ?_
        refine ar (ro_assign (u2 rfl up_h)) rfl <| ar (ro_assign (up_m rfl up_h)) rfl <| ae8 (up_m rfl (u4 rfl s4_23)) (up_m rfl (u4 rfl s8_23)) (up_m rfl (u4 rfl s10_23)) (up_m rfl up_h) up_h (up_m rfl (u4 rfl s36_23)) (up_m rfl (u4 rfl s37_23)) (up_m rfl (u4 rfl s38_23)) ?_; clear s10_23 s36_23 s37_23 s38_23 s39_23 s4_23 s8_23; intro e_25 s4_25 s8_25 s10_25 s11_25 s12_25 s36_25 s37_25 s38_25
        refine then_n <| at_ <| ar (ro_fld_ptr y66_fl26_1 rfl s8_25) rfl <| ar (ro_eq (ro_ld_ptr y66_ty22 rfl mo3_22 up_h (nle rfl)) (by simp only [pS, Value.cells, Nat.reduceAdd, jnE, swE, set_at] <;> rfl)) rfl ?_
        refine ar (ro_fld_ptr y66_fl91_1 rfl (u2 rfl s10_25)) rfl <| ar (ro_eq (ro_ld_ptr y66_ty3 rfl mon_12_22 up_h (nle rfl)) (by simp only [pS, Value.cells, Nat.reduceAdd, jnE, swE, set_at] <;> rfl)) rfl ?_
        refine ar (ro_move (u4 rfl s11_25)) rfl ?_
        (refine ar (ro_add' (up_m rfl up_h) up_h ?_) rfl ?_; · (unfold In64; omega))
        refine ar (ro_move (u2 rfl (u4 rfl s12_25))) rfl <| ar (ro_ix_own y66_sl22 mo2_22 (up_m rfl (u4 rfl up_h)) (up_m rfl up_h) (by omega) (by simp only [lnS] <;> omega)) rfl ?_
        refine ar (ro_fld_ptr y66_fl70_0 rfl up_h) rfl <| al_stm (st_store_el up_h (u2 rfl up_h) rfl rfl rfl mo2_22 (Nat.add_zero _).symm (by first | (refine idx_map ?_; first | omega | (simp only [lnS]; omega)) | (refine idx_mapI ?_; first | omega | (simp only [lnS]; omega)) | (refine idx_mapN ?_; first | omega | (simp only [lnS]; omega)) | rfl) y66_sz3 rfl (nle rfl)) trivial rfl (fun m_26 hm_26 => ?_)
        have mo2_26 := m_set hm_26 mo2_22
        simp only [pS, Value.cells, Nat.reduceAdd, jnE, swE, set_at] at mo2_26
        have mon_12_26 := m_set_o hm_26 mon_12_22 (by omega)
        have mo3_26 := m_set_o hm_26 mo3_22 (by decide)
        have mo1_26 := m_set_o hm_26 mo1_22 (by decide)
        have mo0_26 := m_set_o hm_26 mo0_22 (by decide)
        have ml_26 := m_set_l hm_26 ml_22
        clear hm_26 mo2_22 mon_12_22 mo3_22 mo1_22 mo0_22
        refine ae6 (up_n (up_m rfl (u8 rfl s4_25))) (up_n (up_m rfl (u8 rfl s8_25))) (up_n (up_m rfl (u8 rfl s10_25))) (up_n (up_m rfl (u8 rfl s36_25))) (up_n (up_m rfl (u8 rfl s37_25))) (up_n (up_m rfl (u8 rfl s38_25))) ?_; clear s10_25 s11_25 s12_25 s36_25 s37_25 s38_25 s4_25 s8_25; intro e_27 s4_27 s8_27 s10_27 s36_27 s37_27 s38_27
        refine block_n <| then_n <| at_ ?_
        (refine ar (ro_add' s38_27 ev_c ?_) rfl ?_; · (unfold In64; omega))
        refine ar (ro_move up_h) rfl <| ae6 (u2 rfl s4_27) (u2 rfl s8_27) (u2 rfl s10_27) (u2 rfl s36_27) (u2 rfl s37_27) up_h ?_; clear s10_27 s36_27 s37_27 s38_27 s4_27 s8_27; intro e_28 s4_28 s8_28 s10_28 s36_28 s37_28 s38_28
        refine then_n <| ⟨⟨_, _⟩, ⟨s38_28, (s4_28.trans s4_21.symm), (s8_28.trans s8_21.symm), (s10_28.trans s10_21.symm), (s36_28.trans s36_21.symm), (s37_28.trans s37_21.symm), mo2_26, (mon_12_26.trans mon_12_16.symm), (mo3_26.trans mo3_16.symm), (mo1_26.trans mo1_16.symm), (mo0_26.trans mo0_16.symm), ml_26, ?_⟩, ?_⟩
        · (refine ⟨by omega, by omega, ?_⟩; rw [show (i + 1).toNat = i.toNat + 1 by omega]; simp only [bendN]; rw [← i3, show ((l.ss.getD k.toNat default).fst + (i.toNat : Int)) = (l.ss.getD k.toNat default).fst + i by omega])
        · ((try dsimp only); omega)
       replace hq_24 := bf hq_24
       refine aw_exit <| then_x <| then_x <| block_hit <| then_n <| aw_seq <| at_ <| ar (ro_fld_ptr y66_fl26_3 rfl s8_23) rfl <| al_stm (st_store up_h ev_c rfl rfl mo3_22 y66_sz24 rfl (nle rfl)) trivial rfl (fun m_29 hm_29 => ?_)
       have mo3_29 := m_set hm_29 mo3_22
       simp only [pS, Value.cells, Nat.reduceAdd, jnE, swE, set_at] at mo3_29
       have mo2_29 := m_set_o hm_29 mo2_22 (by decide)
       have mon_12_29 := m_set_o hm_29 mon_12_22 (by omega)
       have mo1_29 := m_set_o hm_29 mo1_22 (by decide)
       have mo0_29 := m_set_o hm_29 mo0_22 (by decide)
       have ml_29 := m_set_l hm_29 ml_22
       clear hm_29 mo2_22 mon_12_22 mo3_22 mo1_22 mo0_22
       refine ae2 (up_n (up_m rfl s4_23)) (up_n (up_m rfl s8_23)) ?_; clear s10_23 s36_23 s37_23 s38_23 s39_23 s4_23 s8_23; intro e_30 s4_30 s8_30
       refine then_n <| aw_seq <| at_ <| ar (ro_eq (ro_ld_ptr y66_ty26 rfl mo3_29 s8_30 (nle rfl)) (by simp only [pS, Value.cells, Nat.reduceAdd, jnE, swE, set_at] <;> rfl)) rfl ?_
       refine al_stm (st_storeO (up_m rfl s4_30) up_h rfl (oneL_c rfl (oneL_o mo2_29 (oneL_c rfl (oneL_c rfl oneL_nil)))) mo1_29 y66_sz26 rfl (nle rfl)) trivial rfl (fun m_31 hm_31 => ?_)
       have mo1_31 := m_set hm_31 mo1_29
       simp only [pS, Value.cells, Nat.reduceAdd, jnE, swE, set_at] at mo1_31
       have mo3_31 := m_set_o hm_31 mo3_29 (by decide)
       have mo2_31 := m_set_o hm_31 mo2_29 (by decide)
       have mon_12_31 := m_set_o hm_31 mon_12_29 (by omega)
       have mo0_31 := m_set_o hm_31 mo0_29 (by decide)
       have ml_31 := m_set_l hm_31 ml_29
       clear hm_31 mo3_29 mo2_29 mon_12_29 mo1_29 mo0_29
       refine ar (ro_assign ev_c) rfl <| ae2 (up_m rfl (up_n (up_m rfl s4_30))) up_h ?_; clear s4_30 s8_30; intro e_32 s4_32 s5_32
       refine then_n <| aw_ret <| block_r <| then_r <| then_r <| block_r <| then_r <| ret2 (.inr rfl) (by kernel_rfl) (resV_cell s4_32 mo1_31 y66_ty26 (nle rfl) (by simp)) (resV_tmp s5_32) (vw_r (vw_agg (vwl_cons (.ro _ rfl) (vwl_cons (.own _ _ _ _ mo2_31) (vwl_cons (.ro _ rfl) (vwl_cons (.nil 3) vwl_nil)))))) (.ro _ rfl) ?_
       clear s4_32 s5_32 mo1_31 mo3_31 mo2_31 mon_12_31 mo0_31 ml_31
       (have hm : (l.ss.getD k.toNat default).acr.length = i.toNat := (by omega); have hf : brF l nm = some (l.ss.getD k.toNat default) := find_hit p1 (by omega) p3 (by assumption); unfold braA; rw [hf]; show _ = AV.tuple [lnA (braL l (l.ss.getD k.toNat default)), mA 0]; unfold braL; rw [hm, ← i3]; rfl)
    replace hq_14 := bf hq_14
    refine aw_exit <| then_x <| then_x <| block_hit <| then_n <| aw_seq <| at_ <| ar (ro_build evP_nil y66_bz26 y66_bu26 y66_bp26 rfl) rfl ?_
    refine al_stm (st_store (up_m rfl s4_13) up_h rfl rfl mo1_12 y66_sz26 rfl (nle rfl)) trivial rfl (fun m_33 hm_33 => ?_)
    have mo1_33 := m_set hm_33 mo1_12
    simp only [pS, Value.cells, Nat.reduceAdd, jnE, swE, set_at] at mo1_33
    have mo3_33 := m_set_o hm_33 mo3_12 (by decide)
    have mo2_33 := m_set_o hm_33 mo2_12 (by decide)
    have mo0_33 := m_set_o hm_33 mo0_12 (by decide)
    have ml_33 := m_set_l hm_33 ml_12
    clear hm_33 mo3_12 mo2_12 mo1_12 mo0_12
    refine ar (ro_assign ev_c) rfl <| ae2 (up_m rfl (up_n (up_m rfl s4_13))) up_h ?_; clear s1_13 s25_13 s26_13 s27_13 s28_13 s4_13 s8_13; intro e_34 s4_34 s5_34
    refine then_n <| aw_ret <| ret2 (.inr rfl) (by kernel_rfl) (resV_cell s4_34 mo1_33 y66_ty26 (nle rfl) (by simp)) (resV_tmp s5_34) (vw_r (vw_agg (vwl_cons (.ro _ rfl) (vwl_cons (.nil 4) (vwl_cons (.nil 2) (vwl_cons (.nil 3) vwl_nil)))))) (.ro _ rfl) ?_
    clear s4_34 s5_34 mo1_33 mo3_33 mo2_33 mo0_33 ml_33
    (have hf : brF l nm = none := (by unfold brF; rw [List.take_of_length_le (by omega)] at p3; exact p3); unfold braA; rw [hf]; rfl)
set_option maxRecDepth 100000 in
set_option maxHeartbeats 4000000 in
theorem rBranch_ok (l : Lin) (hl : Sho l) (h : Rgt l) (nm : ByteArray) (hn : nm.size ≤ 1000000) : FnOk Try.prog 40 [lnA l, .v (.string nm)] (fun q => q = rBraA l nm) := by
  refine fnOk_of (fn := Try.f40) 51 (by kernel_rfl) rfl (by kernel_rfl) (Nat.le_of_ble_eq_true rfl) ?_
  intro e_0 m_0 hA hm_0
  have s0_0 : evA e_0 (.tmp 0) = _ := hA 0 _ rfl
  have s1_0 : evA e_0 (.tmp 1) = _ := hA 1 _ rfl
  have ml_0 : m_0.length = 0 := by rw [hm_0]; rfl
  clear hA hm_0
  have hjs := h.js; have hn1 := h.n1; have hs1 := h.s1
  refine aw_seq <| at_ <| al_stm (st_box s0_0 rfl ml_0) trivial rfl (fun m_1 hm_1 => ?_)
  have mo0_1 := m_push hm_1 ml_0
  have ml_1 := m_push_l hm_1 ml_0
  have ml_1 : _ = 1 := ml_1
  clear hm_1
  refine al_stm (st_alloc y66_az26 rfl ml_1) trivial rfl (fun m_2 hm_2 => ?_)
  have mo1_2 := m_push hm_2 ml_1
  simp only [pS, Value.cells, Nat.reduceAdd, jnE, swE, set_at] at mo1_2
  have mo0_2 := m_push_o hm_2 mo0_1
  have ml_2 := m_push_l hm_2 ml_1
  have ml_2 : _ = 2 := ml_2
  clear hm_2 mo0_1
  refine ar (ro_assign ev_c) rfl <| ae3 (up_m rfl (u2 rfl s1_0)) (u2 rfl up_h) (up_m rfl up_h) ?_; clear s0_0 s1_0; intro e_3 s1_3 s2_3 s4_3
  refine then_n <| aw_seq <| aw_seq <| at_ <| ar (ro_assign ev_c) rfl <| ae4 (up_m rfl s1_3) (up_m rfl s2_3) (up_m rfl s4_3) up_h ?_; clear s1_3 s2_3 s4_3; intro e_4 s1_4 s2_4 s4_4 s6_4
  refine then_n <| aw_block <| aw_loop (S := Int) (fun k e mem => (evA e (.tmp 6) = .v (.int .i64 k)) ∧ (evA e (.tmp 1) = evA e_4 (.tmp 1)) ∧ (evA e (.tmp 2) = evA e_4 (.tmp 2)) ∧ (evA e (.tmp 4) = evA e_4 (.tmp 4)) ∧ (mem[1]? = m_2[1]?) ∧ (mem[0]? = m_2[0]?) ∧ (∃ n, mem.length = n ∧ 2 ≤ n) ∧ ((0 ≤ k ∧ k ≤ l.ss.length ∧ (l.ss.take k.toNat).find? (nmB nm) = none))) (fun k => (l.ss.length - k).toNat) _ ⟨s6_4, rfl, rfl, rfl, rfl, rfl, ⟨_, ml_2, Nat.le_refl _⟩, ?_⟩ ?_
  · (exact ⟨by omega, by omega, rfl⟩)
  · rintro k e_5 m_5 ⟨s6_5, k1_5, k2_5, k4_5, mk1_5, mk0_5, ⟨n_5, ml_5, hn_5⟩, hinv⟩
    have s1_5 := k1_5.trans s1_4
    have s2_5 := k2_5.trans s2_4
    have s4_5 := k4_5.trans s4_4
    have mo1_5 := mk1_5.trans mo1_2
    have mo0_5 := mk0_5.trans mo0_2
    (obtain ⟨p1, p2, p3⟩ := hinv)
    refine aw_seq <| aw_seq <| at_ <| ar (ro_move s6_5) rfl <| ar (ro_fld_ptr y66_fl26_3 rfl (up_m rfl s2_5)) rfl <| ar (ro_eq (ro_ld_ptr y66_ty24 rfl mo0_5 up_h (nle rfl)) (by simp only [pS, Value.cells, Nat.reduceAdd, jnE, swE, set_at] <;> rfl)) rfl ?_
    refine ar (ro_eq (ro_len_row up_h rfl y66_sl24.1) (by simp only [lnS] <;> rfl)) rfl ?_
    refine ar (ro_lss (up_m rfl (u2 rfl up_h)) up_h) rfl <| ae5 (up_m rfl (u4 rfl s1_5)) (up_m rfl (u4 rfl s2_5)) (up_m rfl (u4 rfl s4_5)) (up_m rfl (u4 rfl s6_5)) up_h ?_; clear s1_5 s2_5 s4_5 s6_5; intro e_6 s1_6 s2_6 s4_6 s6_6 s14_6
    refine then_n <| aw_case s14_6 (fun hq_7 => ?_) (fun hq_7 => ?_)
    ·replace hq_7 := bt hq_7
     refine aw_skip <| then_n <| aw_seq <| aw_block <| aw_seq <| at_ <| ar (ro_fld_ptr y66_fl26_3 rfl s2_6) rfl <| ar (ro_eq (ro_ld_ptr y66_ty24 rfl mo0_5 up_h (nle rfl)) (by simp only [pS, Value.cells, Nat.reduceAdd, jnE, swE, set_at] <;> rfl)) rfl ?_
     refine ar (ro_move (u2 rfl s6_6)) rfl <| ar (ro_eq (ro_ix y66_sl24 (up_m rfl up_h) up_h (by omega) (by first | (refine idx_map ?_; first | omega | (simp only [lnS]; omega)) | (refine idx_mapI ?_; first | omega | (simp only [lnS]; omega)) | (refine idx_mapN ?_; first | omega | (simp only [lnS]; omega)) | rfl)) (by simp only [pS, Value.cells, Nat.reduceAdd, jnE, swE, set_at] <;> rfl)) rfl ?_
     refine ar (ro_eq (ro_ld_ref y66_ty91 rfl up_h (nle rfl)) (by simp only [pS, Value.cells, Nat.reduceAdd, jnE, swE, set_at] <;> rfl)) rfl ?_
     refine al_stm (st_alloc y66_az91 rfl ml_5) trivial rfl (fun m_8 hm_8 => ?_)
     have mon_5_8 := m_push hm_8 ml_5
     simp only [pS, Value.cells, Nat.reduceAdd, jnE, swE, set_at] at mon_5_8
     have mo1_8 := m_push_o hm_8 mo1_5
     have mo0_8 := m_push_o hm_8 mo0_5
     have ml_8 := m_push_l hm_8 ml_5
     clear hm_8 mo1_5 mo0_5
     refine al_stm (st_store up_h (up_m rfl up_h) rfl rfl mon_5_8 y66_sz91 rfl (nle rfl)) trivial rfl (fun m_9 hm_9 => ?_)
     have mon_5_9 := m_set hm_9 mon_5_8
     simp only [pS, Value.cells, Nat.reduceAdd, jnE, swE, set_at] at mon_5_9
     have mo1_9 := m_set_o hm_9 mo1_8 (by omega)
     have mo0_9 := m_set_o hm_9 mo0_8 (by omega)
     have ml_9 := m_set_l hm_9 ml_8
     clear hm_9 mon_5_8 mo1_8 mo0_8
     refine ae5 (up_n (u2 rfl (u4 rfl s1_6))) (up_n (u2 rfl (u4 rfl s2_6))) (up_n (u2 rfl (u4 rfl s4_6))) (up_n (u2 rfl (u4 rfl s6_6))) (up_n up_h) ?_; clear s14_6 s1_6 s2_6 s4_6 s6_6; intro e_10 s1_10 s2_10 s4_10 s6_10 s7_10
     refine then_n <| aw_seq <| aw_seq <| at_ <| ar (ro_fld_ptr y66_fl91_0 rfl s7_10) rfl <| ar (ro_eq (ro_ld_ptr y66_ty9 rfl mon_5_9 up_h (nle rfl)) (by simp only [pS, Value.cells, Nat.reduceAdd, jnE, swE, set_at] <;> rfl)) rfl ?_
     refine ar (ro_move (u2 rfl s1_10)) rfl <| ar (ro_sneq (up_m rfl up_h) up_h) rfl <| ae6 (u4 rfl s1_10) (u4 rfl s2_10) (u4 rfl s4_10) (u4 rfl s6_10) (u4 rfl s7_10) up_h ?_; clear s1_10 s2_10 s4_10 s6_10 s7_10; intro e_11 s1_11 s2_11 s4_11 s6_11 s7_11 s25_11
     refine then_n <| aw_case s25_11 (fun hq_12 => ?_) (fun hq_12 => ?_)
     ·replace hq_12 := bt' hq_12
      refine aw_exit <| then_x <| block_hit <| then_n <| at_ <| ar (ro_move s6_11) rfl ?_
      (refine ar (ro_add' up_h ev_c ?_) rfl ?_; · (unfold In64; omega))
      refine ar (ro_assign up_h) rfl <| ae4 (up_m rfl (u2 rfl s1_11)) (up_m rfl (u2 rfl s2_11)) (up_m rfl (u2 rfl s4_11)) up_h ?_; clear s1_11 s25_11 s2_11 s4_11 s6_11 s7_11; intro e_13 s1_13 s2_13 s4_13 s6_13
      refine then_n <| ⟨_, ⟨s6_13, (s1_13.trans s1_4.symm), (s2_13.trans s2_4.symm), (s4_13.trans s4_4.symm), (mo1_9.trans mo1_2.symm), (mo0_9.trans mo0_2.symm), ⟨_, ml_9, by omega⟩, ?_⟩, ?_⟩
      · (exact ⟨by omega, by omega, find_miss p1 (by omega) p3 (by assumption)⟩)
      · ((try dsimp only); omega)
     replace hq_12 := bf' hq_12
     refine aw_skip <| then_n <| aw_seq <| at_ <| ar (ro_eq (ro_ld_ptr y66_ty26 rfl mo0_9 s2_11 (nle rfl)) (by simp only [pS, Value.cells, Nat.reduceAdd, jnE, swE, set_at] <;> rfl)) rfl ?_
     refine al_stm (st_callL ml_9 (evL_cons up_h evL_nil) rfl (copyOwn_ok l hl h.jn0) y66_hcf18) trivial rfl (fun m_14 hm_14 => ?_)
     have mon_5_1_14 := m_push hm_14 ml_9
     have mon_5_14 := m_push_o hm_14 mon_5_9
     have mo1_14 := m_push_o hm_14 mo1_9
     have mo0_14 := m_push_o hm_14 mo0_9
     have ml_14 := m_push_l hm_14 ml_9
     clear hm_14 mon_5_9 mo1_9 mo0_9
     refine al_stm (st_alloc y66_az26 rfl ml_14) trivial rfl (fun m_15 hm_15 => ?_)
     have mon_5_1_1_15 := m_push hm_15 ml_14
     simp only [pS, Value.cells, Nat.reduceAdd, jnE, swE, set_at] at mon_5_1_1_15
     have mon_5_1_15 := m_push_o hm_15 mon_5_1_14
     have mon_5_15 := m_push_o hm_15 mon_5_14
     have mo1_15 := m_push_o hm_15 mo1_14
     have mo0_15 := m_push_o hm_15 mo0_14
     have ml_15 := m_push_l hm_15 ml_14
     clear hm_15 mon_5_1_14 mon_5_14 mo1_14 mo0_14
     refine al_stm (st_storeO up_h (up_m rfl up_h) rfl (oneL_c rfl (oneL_o mon_5_1_15 (oneL_c rfl (oneL_c rfl oneL_nil)))) mon_5_1_1_15 y66_sz26 rfl (nle rfl)) trivial rfl (fun m_16 hm_16 => ?_)
     have mon_5_1_1_16 := m_set hm_16 mon_5_1_1_15
     simp only [pS, Value.cells, Nat.reduceAdd, jnE, swE, set_at] at mon_5_1_1_16
     have mon_5_1_16 := m_set_o hm_16 mon_5_1_15 (by omega)
     have mon_5_16 := m_set_o hm_16 mon_5_15 (by omega)
     have mo1_16 := m_set_o hm_16 mo1_15 (by omega)
     have mo0_16 := m_set_o hm_16 mo0_15 (by omega)
     have ml_16 := m_set_l hm_16 ml_15
     clear hm_16 mon_5_1_1_15 mon_5_1_15 mon_5_15 mo1_15 mo0_15
     refine ae3 (up_n (up_m rfl (u2 rfl s4_11))) (up_n (up_m rfl (u2 rfl s7_11))) (up_n up_h) ?_; clear s1_11 s25_11 s2_11 s4_11 s6_11 s7_11; intro e_17 s4_17 s7_17 s8_17
     refine then_n <| aw_seq <| at_ <| ar (ro_fld_ptr y66_fl26_3 rfl s8_17) rfl <| al_stm (st_store up_h ev_c rfl rfl mon_5_1_1_16 y66_sz24 rfl (nle rfl)) trivial rfl (fun m_18 hm_18 => ?_)
     have mon_5_1_1_18 := m_set hm_18 mon_5_1_1_16
     simp only [pS, Value.cells, Nat.reduceAdd, jnE, swE, set_at] at mon_5_1_1_18
     have mon_5_1_18 := m_set_o hm_18 mon_5_1_16 (by omega)
     have mon_5_18 := m_set_o hm_18 mon_5_16 (by omega)
     have mo1_18 := m_set_o hm_18 mo1_16 (by omega)
     have mo0_18 := m_set_o hm_18 mo0_16 (by omega)
     have ml_18 := m_set_l hm_18 ml_16
     clear hm_18 mon_5_1_1_16 mon_5_1_16 mon_5_16 mo1_16 mo0_16
     refine ae3 (up_n (up_m rfl s4_17)) (up_n (up_m rfl s7_17)) (up_n (up_m rfl s8_17)) ?_; clear s4_17 s7_17 s8_17; intro e_19 s4_19 s7_19 s8_19
     refine then_n <| aw_seq <| aw_seq <| at_ <| ar (ro_assign ev_c) rfl <| ae4 (up_m rfl s4_19) (up_m rfl s7_19) (up_m rfl s8_19) up_h ?_; clear s4_19 s7_19 s8_19; intro e_20 s4_20 s7_20 s8_20 s9_20
     refine then_n <| aw_block <| aw_loop (S := (Int × List Jnt)) (fun s e mem => match s with | ⟨i, xs⟩ => (evA e (.tmp 9) = .v (.int .i64 i)) ∧ (evA e (.tmp 4) = evA e_20 (.tmp 4)) ∧ (evA e (.tmp 7) = evA e_20 (.tmp 7)) ∧ (evA e (.tmp 8) = evA e_20 (.tmp 8)) ∧ (mem[n_5 + 1]? = some (.row 70 4 (xs.map jnE))) ∧ (mem[n_5 + 1 + 1]? = m_18[n_5 + 1 + 1]?) ∧ (mem[n_5]? = m_18[n_5]?) ∧ (mem[1]? = m_18[1]?) ∧ (mem[0]? = m_18[0]?) ∧ (mem.length = n_5 + 1 + 1 + 1) ∧ ((0 ≤ i ∧ i ≤ (l.ss.getD k.toNat default).acr.length ∧ xs = bendN l.js (l.ss.getD k.toNat default).fst (l.ss.getD k.toNat default).acr i.toNat))) (fun s => match s with | ⟨i, xs⟩ => ((l.ss.getD k.toNat default).acr.length - i).toNat) ⟨_, l.js⟩ ⟨s9_20, rfl, rfl, rfl, mon_5_1_18, rfl, rfl, rfl, rfl, ml_18, ?_⟩ ?_
     · (exact ⟨by omega, by omega, rfl⟩)
     · rintro ⟨i, xs⟩ e_21 m_21 ⟨s9_21, k4_21, k7_21, k8_21, mon_5_1_21, mkn_5_1_1_21, mkn_5_21, mk1_21, mk0_21, ml_21, hinv⟩
       have s4_21 := k4_21.trans s4_20
       have s7_21 := k7_21.trans s7_20
       have s8_21 := k8_21.trans s8_20
       have mon_5_1_1_21 := mkn_5_1_1_21.trans mon_5_1_1_18
       have mon_5_21 := mkn_5_21.trans mon_5_18
       have mo1_21 := mk1_21.trans mo1_18
       have mo0_21 := mk0_21.trans mo0_18
       have jln_5_1_21 := m_lt mon_5_1_21 ml_21
       (obtain ⟨i1, i2, i3⟩ := hinv; have hxl : xs.length = l.js.length := (by rw [i3, bendN_len]); have ha := hl.at k.toNat; obtain ⟨w1, w2, w3, w4⟩ := h.swi (i := k.toNat) (by omega))
       refine aw_seq <| aw_seq <| at_ <| ar (ro_move s9_21) rfl <| ar (ro_fld_ptr y66_fl91_2 rfl (up_m rfl s7_21)) rfl <| ar (ro_eq (ro_ld_ptr y66_ty49 rfl mon_5_21 up_h (nle rfl)) (by simp only [pS, Value.cells, Nat.reduceAdd, jnE, swE, set_at] <;> rfl)) rfl ?_
       refine ar (ro_eq (ro_len_row up_h rfl y66_sl49.1) (by simp only [lnS] <;> rfl)) rfl ?_
       refine ar (ro_lss (up_m rfl (u2 rfl up_h)) up_h) rfl <| ae5 (up_m rfl (u4 rfl s4_21)) (up_m rfl (u4 rfl s7_21)) (up_m rfl (u4 rfl s8_21)) (up_m rfl (u4 rfl s9_21)) up_h ?_; clear s4_21 s7_21 s8_21 s9_21; intro e_22 s4_22 s7_22 s8_22 s9_22 s33_22
       refine then_n <| aw_case s33_22 (fun hq_23 => ?_) (fun hq_23 => ?_)
       ·replace hq_23 := bt hq_23
        refine aw_skip <| then_n <| aw_seq <| aw_block <| aw_draw 13 (by kernel_rfl) (by kernel_rfl) (by kernel_rfl) (by kernel_rfl) ?_
        refine dr (ro_fld_ptr y66_fl26_1 rfl s8_22) rfl <| dr (ro_eq (ro_ld_ptr y66_ty22 rfl mon_5_1_1_21 up_h (nle rfl)) (by simp only [pS, Value.cells, Nat.reduceAdd, jnE, swE, set_at] <;> rfl)) rfl ?_
        refine dr (ro_fld_ptr y66_fl91_1 rfl (u2 rfl s7_22)) rfl <| dr (ro_eq (ro_ld_ptr y66_ty3 rfl mon_5_21 up_h (nle rfl)) (by simp only [pS, Value.cells, Nat.reduceAdd, jnE, swE, set_at] <;> rfl)) rfl ?_
        refine dr (ro_move (u4 rfl s9_22)) rfl ?_
        (refine dr (ro_add' (up_m rfl up_h) up_h ?_) rfl ?_; · (unfold In64; omega))
        refine dr (ro_fld_ptr y66_fl91_2 rfl (u2 rfl (u4 rfl s7_22))) rfl <| dr (ro_eq (ro_ld_ptr y66_ty49 rfl mon_5_21 up_h (nle rfl)) (by simp only [pS, Value.cells, Nat.reduceAdd, jnE, swE, set_at] <;> rfl)) rfl ?_
        refine dr (ro_move (u8 rfl s9_22)) rfl <| dr (ro_eq (ro_ix y66_sl49 (up_m rfl up_h) up_h (by omega) (by first | (refine idx_map ?_; first | omega | (simp only [lnS]; omega)) | (refine idx_mapI ?_; first | omega | (simp only [lnS]; omega)) | (refine idx_mapN ?_; first | omega | (simp only [lnS]; omega)) | rfl)) (by simp only [pS, Value.cells, Nat.reduceAdd, jnE, swE, set_at] <;> rfl)) rfl ?_
        refine dr (ro_eq (ro_ld_ref y66_ty3 rfl up_h (nle rfl)) (by simp only [pS, Value.cells, Nat.reduceAdd, jnE, swE, set_at] <;> rfl)) rfl ?_
        refine dr (ro_ix_own y66_sl22 mon_5_1_21 (up_m rfl (u8 rfl up_h)) (up_m rfl (u4 rfl up_h)) (by omega) (by simp only [lnS] <;> omega)) rfl ?_
        refine dr (ro_fld_ptr y66_fl70_0 rfl up_h) rfl <| ds_nil <| al_stm (st_store_el up_h (u2 rfl up_h) rfl rfl rfl mon_5_1_21 (Nat.add_zero _).symm (by first | (refine idx_map ?_; first | omega | (simp only [lnS]; omega)) | (refine idx_mapI ?_; first | omega | (simp only [lnS]; omega)) | (refine idx_mapN ?_; first | omega | (simp only [lnS]; omega)) | rfl) y66_sz3 rfl (nle rfl)) trivial rfl (fun m_24 hm_24 => ?_)
        have mon_5_1_24 := m_set hm_24 mon_5_1_21
        simp only [pS, Value.cells, Nat.reduceAdd, jnE, swE, set_at] at mon_5_1_24
        have mon_5_1_1_24 := m_set_o hm_24 mon_5_1_1_21 (by omega)
        have mon_5_24 := m_set_o hm_24 mon_5_21 (by omega)
        have mo1_24 := m_set_o hm_24 mo1_21 (by omega)
        have mo0_24 := m_set_o hm_24 mo0_21 (by omega)
        have ml_24 := m_set_l hm_24 ml_21
        clear hm_24 mon_5_1_21 mon_5_1_1_21 mon_5_21 mo1_21 mo0_21
        refine ae4 (up_n (up_m rfl (u4 rfl (u8 rfl s4_22)))) (up_n (up_m rfl (u4 rfl (u8 rfl s7_22)))) (up_n (up_m rfl (u4 rfl (u8 rfl s8_22)))) (up_n (up_m rfl (u4 rfl (u8 rfl s9_22)))) ?_; clear s33_22 s4_22 s7_22 s8_22 s9_22; intro e_25 s4_25 s7_25 s8_25 s9_25
        refine block_n <| then_n <| at_ <| ar (ro_move s9_25) rfl ?_
        (refine ar (ro_add' up_h ev_c ?_) rfl ?_; · (unfold In64; omega))
        refine ar (ro_assign up_h) rfl <| ae4 (up_m rfl (u2 rfl s4_25)) (up_m rfl (u2 rfl s7_25)) (up_m rfl (u2 rfl s8_25)) up_h ?_; clear s4_25 s7_25 s8_25 s9_25; intro e_26 s4_26 s7_26 s8_26 s9_26
        refine then_n <| ⟨⟨_, _⟩, ⟨s9_26, (s4_26.trans s4_20.symm), (s7_26.trans s7_20.symm), (s8_26.trans s8_20.symm), mon_5_1_24, (mon_5_1_1_24.trans mon_5_1_1_18.symm), (mon_5_24.trans mon_5_18.symm), (mo1_24.trans mo1_18.symm), (mo0_24.trans mo0_18.symm), ml_24, ?_⟩, ?_⟩
        · (refine ⟨by omega, by omega, ?_⟩; rw [show (i + 1).toNat = i.toNat + 1 by omega]; simp only [bendN]; rw [← i3, show ((l.ss.getD k.toNat default).fst + (i.toNat : Int)) = (l.ss.getD k.toNat default).fst + i by omega])
        · ((try dsimp only); omega)
       replace hq_23 := bf hq_23
       refine aw_exit <| then_x <| then_x <| block_hit <| then_n <| aw_seq <| at_ <| ar (ro_eq (ro_ld_ptr y66_ty26 rfl mon_5_1_1_21 s8_22 (nle rfl)) (by simp only [pS, Value.cells, Nat.reduceAdd, jnE, swE, set_at] <;> rfl)) rfl ?_
       refine al_stm (st_storeO (up_m rfl s4_22) up_h rfl (oneL_c rfl (oneL_o mon_5_1_21 (oneL_c rfl (oneL_c rfl oneL_nil)))) mo1_21 y66_sz26 rfl (nle rfl)) trivial rfl (fun m_27 hm_27 => ?_)
       have mo1_27 := m_set hm_27 mo1_21
       simp only [pS, Value.cells, Nat.reduceAdd, jnE, swE, set_at] at mo1_27
       have mon_5_1_27 := m_set_o hm_27 mon_5_1_21 (by omega)
       have mon_5_1_1_27 := m_set_o hm_27 mon_5_1_1_21 (by omega)
       have mon_5_27 := m_set_o hm_27 mon_5_21 (by omega)
       have mo0_27 := m_set_o hm_27 mo0_21 (by decide)
       have ml_27 := m_set_l hm_27 ml_21
       clear hm_27 mon_5_1_21 mon_5_1_1_21 mon_5_21 mo1_21 mo0_21
       refine ar (ro_assign ev_c) rfl <| ae2 (up_m rfl (up_n (up_m rfl s4_22))) up_h ?_; clear s33_22 s4_22 s7_22 s8_22 s9_22; intro e_28 s4_28 s5_28
       refine then_n <| aw_ret <| block_r <| then_r <| then_r <| block_r <| then_r <| ret2 (.inr rfl) (by kernel_rfl) (resV_cell s4_28 mo1_27 y66_ty26 (nle rfl) (by simp)) (resV_tmp s5_28) (vw_r (vw_agg (vwl_cons (.ro _ rfl) (vwl_cons (.own _ _ _ _ mon_5_1_27) (vwl_cons (.ro _ rfl) (vwl_cons (.nil 3) vwl_nil)))))) (.ro _ rfl) ?_
       clear s4_28 s5_28 mo1_27 mon_5_1_27 mon_5_1_1_27 mon_5_27 mo0_27 ml_27
       (have hm : (l.ss.getD k.toNat default).acr.length = i.toNat := (by omega); have hf : brF l nm = some (l.ss.getD k.toNat default) := find_hit p1 (by omega) p3 (by assumption); unfold rBraA; rw [hf]; show _ = AV.tuple [lnA (braL l (l.ss.getD k.toNat default)), tbA true]; unfold braL; rw [hm, ← i3]; rfl)
    replace hq_7 := bf hq_7
    refine aw_exit <| then_x <| then_x <| block_hit <| then_n <| aw_seq <| at_ <| ar (ro_build evP_nil y66_bz26 y66_bu26 y66_bp26 rfl) rfl ?_
    refine al_stm (st_store (up_m rfl s4_6) up_h rfl rfl mo1_5 y66_sz26 rfl (nle rfl)) trivial rfl (fun m_29 hm_29 => ?_)
    have mo1_29 := m_set hm_29 mo1_5
    simp only [pS, Value.cells, Nat.reduceAdd, jnE, swE, set_at] at mo1_29
    have mo0_29 := m_set_o hm_29 mo0_5 (by decide)
    have ml_29 := m_set_l hm_29 ml_5
    clear hm_29 mo1_5 mo0_5
    refine ar (ro_assign ev_c) rfl <| ae2 (up_m rfl (up_n (up_m rfl s4_6))) up_h ?_; clear s14_6 s1_6 s2_6 s4_6 s6_6; intro e_30 s4_30 s5_30
    refine then_n <| aw_ret <| ret2 (.inr rfl) (by kernel_rfl) (resV_cell s4_30 mo1_29 y66_ty26 (nle rfl) (by simp)) (resV_tmp s5_30) (vw_r (vw_agg (vwl_cons (.ro _ rfl) (vwl_cons (.nil 4) (vwl_cons (.nil 2) (vwl_cons (.nil 3) vwl_nil)))))) (.ro _ rfl) ?_
    clear s4_30 s5_30 mo1_29 mo0_29 ml_29
    (have hf : brF l nm = none := (by unfold brF; rw [List.take_of_length_le (by omega)] at p3; exact p3); unfold rBraA; rw [hf]; rfl)
end Go.Proofs.Ytonjcljnpcmenaa

