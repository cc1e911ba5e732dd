/- Texts of this claim, one behind the other: lemmas for the statement. -/
import Derived.Test.YtjhcfpdgldpicaaM9
import Derived.Test.YtjhcfpdgldpicaaM7
import Derived.Test.YtjhcfpdgldpicaaT0
import Derived.Test.YtjhcfpdgldpicaaM8
set_option linter.unusedSimpArgs false
set_option linter.unusedVariables false
namespace Go.Proofs.Ytjhcfpdgldpicaa
open Go Go.RowKit Go.Proofs
theorem digN_big {m i : Nat} (h : i < (digN m).length) : (1000000000 : Int) ^ i ≤ m := by
 refine Int.not_lt.1 fun hc => ?_
 have h2 : ((m : Nat) : Int) < ((1000000000 ^ i : Nat) : Int) := by rw [Int.natCast_pow]; exact hc
 have := digN_len (Int.ofNat_lt.1 h2)
 omega
theorem AD.top {m n : Nat} {o : List Int} {i : Nat} {w : Int} (h : AD (digN m) (digN n) o i w) (hg : i < (digN m).length ∨ i < (digN n).length ∨ 0 < w) : (1000000000 : Int) ^ i ≤ (m : Int) + n := by
 have hp : (0 : Int) < 1000000000 ^ i := Int.pow_pos (by decide)
 by_cases h1 : i < (digN m).length
 ·have := digN_big h1; omega
 ·by_cases h2 : i < (digN n).length
  ·have := digN_big h2; omega
  ·have hv := h.v
   rw [List.take_of_length_le (by omega), List.take_of_length_le (by omega), digN_val, digN_val] at hv
   have hw := h.w01
   have hn := valD_nn h.gd
   have : w = 1 := by omega
   subst this
   rw [Int.one_mul] at hv
   omega
theorem y55_sl40 : SlIs Try.prog 40 3 1 8 (.int .i64 0) := ⟨by kernel_rfl, by kernel_rfl, by kernel_rfl⟩
theorem y55_ty3 : TyIs Try.prog 3 false 1 := ⟨by kernel_rfl, by kernel_rfl⟩
set_option maxRecDepth 100000 in
set_option maxHeartbeats 4000000 in
theorem bIntsY_ok (a b : List Int) (ha : a.length ≤ 1000000000) (hb : b.length ≤ 1000000000) : FnOk Try.prog 34 [.row 1 (a.map iE), .row 1 (b.map iE)] (fun q => q = tbA (decide (a = b))) := by
 refine fnOk_of (fn := Try.f34) 26 (by kernel_rfl) rfl (by kernel_rfl) (Nat.le_of_ble_eq_true rfl) ?_
 intro e_0 m_0 hA hm_0
 have s0_0 : evA e_0 (.tmp 0) = _ := hA 0 _ rfl
 have s1_0 : evA e_0 (.tmp 1) = _ := hA 1 _ rfl
 have ml_0 : m_0.length = 0 := by rw [hm_0]; rfl
 clear hA hm_0
 refine aw_seq <| at_ <| ar (ro_assign ev_c) rfl <| ae2 (up_m rfl s0_0) (up_m rfl s1_0) ?_; clear s0_0 s1_0; intro e_1 s0_1 s1_1
 refine then_n <| aw_seq <| aw_seq <| at_ <| ar (ro_move s0_1) rfl <| ar (ro_eq (ro_len_row up_h rfl y55_sl40.1) (by simp only [lnS] <;> rfl)) rfl ?_
 refine ar (ro_move (u2 rfl s1_1)) rfl <| ar (ro_eq (ro_len_row up_h rfl y55_sl40.1) (by simp only [lnS] <;> rfl)) rfl ?_
 refine ar (ro_neq (u2 rfl up_h) up_h) rfl <| ae3 (up_m rfl (u4 rfl s0_1)) (up_m rfl (u4 rfl s1_1)) up_h ?_; clear s0_1 s1_1; intro e_2 s0_2 s1_2 s10_2
 refine then_n <| aw_case s10_2 (fun hq_3 => ?_) (fun hq_3 => ?_)
 ·replace hq_3 := bnt hq_3
  refine aw_seq <| at_ <| ar (ro_assign ev_c) rfl <| ae1 up_h ?_; clear s0_2 s10_2 s1_2; intro e_4 s4_4
  refine then_n <| aw_ret <| then_r <| ret1 (.inr rfl) (by kernel_rfl) (resV_tmp s4_4) (.ro _ rfl) ?_
  clear s4_4 ml_0
  (have hne : ¬ a = b := (fun hc => absurd (congrArg List.length hc) (by omega)); rw [decide_eq_false hne])
 replace hq_3 := bnf hq_3
 (have hl : a.length = b.length := (by omega))
 refine aw_skip <| then_n <| aw_seq <| aw_seq <| at_ <| ar (ro_assign ev_c) rfl <| ae3 (up_m rfl s0_2) (up_m rfl s1_2) up_h ?_; clear s0_2 s10_2 s1_2; intro e_5 s0_5 s1_5 s5_5
 refine then_n <| aw_block <| aw_loop (S := Int) (fun i e mem => (evA e (.tmp 5) = .v (.int .i64 i)) ∧ (evA e (.tmp 0) = evA e_5 (.tmp 0)) ∧ (evA e (.tmp 1) = evA e_5 (.tmp 1)) ∧ (mem.length = 0) ∧ ((0 ≤ i ∧ i ≤ a.length ∧ a.length = b.length ∧ ∀ j : Nat, j < i → a.getD j default = b.getD j default))) (fun i => (a.length - i).toNat) _ ⟨s5_5, rfl, rfl, ml_0, ?_⟩ ?_
 ·(exact ⟨by omega, by omega, hl, fun j hj => by omega⟩)
 ·rintro i e_6 m_6 ⟨s5_6, k0_6, k1_6, ml_6, hinv⟩
  have s0_6 := k0_6.trans s0_5
  have s1_6 := k1_6.trans s1_5
  (obtain ⟨p1, p2, p3, p4⟩ := hinv)
  refine aw_seq <| aw_seq <| at_ <| ar (ro_move s5_6) rfl <| ar (ro_move (up_m rfl s0_6)) rfl <| ar (ro_eq (ro_len_row up_h rfl y55_sl40.1) (by simp only [lnS] <;> rfl)) rfl ?_
  refine ar (ro_lss (u2 rfl up_h) up_h) rfl <| ae4 (u4 rfl s0_6) (u4 rfl s1_6) (u4 rfl s5_6) up_h ?_; clear s0_6 s1_6 s5_6; intro e_7 s0_7 s1_7 s5_7 s14_7
  refine then_n <| aw_case s14_7 (fun hq_8 => ?_) (fun hq_8 => ?_)
  ·replace hq_8 := bt hq_8
   refine aw_skip <| then_n <| aw_seq <| aw_block <| aw_seq <| aw_draw 9 (by kernel_rfl) (by kernel_rfl) (by kernel_rfl) (by kernel_rfl) ?_
   refine dr (ro_move s0_7) rfl <| dr (ro_move (up_m rfl s5_7)) rfl <| dr (ro_eq (ro_ix y55_sl40 (up_m rfl up_h) up_h (by omega) (by first | (refine idx_map ?_; first | omega | (simp only [lnS]; omega)) | (refine idx_mapI ?_; first | omega | (simp only [lnS]; omega)) | (refine idx_mapN ?_; first | omega | (simp only [lnS]; omega)) | rfl)) (by simp only [pS, Value.cells, Nat.reduceAdd, iE] <;> rfl)) rfl ?_
   refine dr (ro_eq (ro_ld_ref y55_ty3 rfl up_h (nle rfl)) (by simp only [pS, Value.cells, Nat.reduceAdd, iE] <;> rfl)) rfl ?_
   refine dr (ro_move (u4 rfl s1_7)) rfl <| dr (ro_move (up_m rfl (u4 rfl s5_7))) rfl <| dr (ro_eq (ro_ix y55_sl40 (up_m rfl up_h) up_h (by omega) (by first | (refine idx_map ?_; first | omega | (simp only [lnS]; omega)) | (refine idx_mapI ?_; first | omega | (simp only [lnS]; omega)) | (refine idx_mapN ?_; first | omega | (simp only [lnS]; omega)) | rfl)) (by simp only [pS, Value.cells, Nat.reduceAdd, iE] <;> rfl)) rfl ?_
   refine dr (ro_eq (ro_ld_ref y55_ty3 rfl up_h (nle rfl)) (by simp only [pS, Value.cells, Nat.reduceAdd, iE] <;> rfl)) rfl ?_
   refine dr (ro_neq (u4 rfl up_h) up_h) rfl <| ds_nil <| ae4 (up_m rfl (u8 rfl s0_7)) (up_m rfl (u8 rfl s1_7)) (up_m rfl (u8 rfl s5_7)) up_h ?_; clear s0_7 s14_7 s1_7 s5_7; intro e_9 s0_9 s1_9 s5_9 s25_9
   refine then_n <| aw_case s25_9 (fun hq_10 => ?_) (fun hq_10 => ?_)
   ·replace hq_10 := bnt hq_10
    refine aw_seq <| at_ <| ar (ro_assign ev_c) rfl <| ae1 up_h ?_; clear s0_9 s1_9 s25_9 s5_9; intro e_11 s4_11
    refine then_n <| aw_ret <| block_r <| then_r <| then_r <| block_r <| then_r <| ret1 (.inr rfl) (by kernel_rfl) (resV_tmp s4_11) (.ro _ rfl) ?_
    clear s4_11 ml_6
    (have hne : ¬ a = b := (fun hc => absurd (congrArg (fun l => l.getD i.toNat default) hc) (by assumption)); rw [decide_eq_false hne])
   replace hq_10 := bnf hq_10
   refine aw_skip <| block_n <| then_n <| at_ <| ar (ro_move s5_9) rfl ?_
   (refine ar (ro_add' up_h ev_c ?_) rfl ?_; · (unfold In64; omega))
   refine ar (ro_assign up_h) rfl <| ae3 (up_m rfl (u2 rfl s0_9)) (up_m rfl (u2 rfl s1_9)) up_h ?_; clear s0_9 s1_9 s25_9 s5_9; intro e_12 s0_12 s1_12 s5_12
   refine then_n <| ⟨_, ⟨s5_12, (s0_12.trans s0_5.symm), (s1_12.trans s1_5.symm), ml_6, ?_⟩, ?_⟩
   ·(refine ⟨by omega, by omega, p3, fun q hq => ?_⟩; by_cases hj : (q : Int) = i; (rw [show q = i.toNat by omega]; omega); exact p4 q (by omega))
   ·((try dsimp only); omega)
  replace hq_8 := bf hq_8
  refine aw_exit <| then_x <| then_x <| block_hit <| then_n <| aw_seq <| at_ <| ar (ro_assign ev_c) rfl <| ae1 up_h ?_; clear s0_7 s14_7 s1_7 s5_7; intro e_13 s4_13
  refine then_n <| aw_ret <| ret1 (.inr rfl) (by kernel_rfl) (resV_tmp s4_13) (.ro _ rfl) ?_
  clear s4_13 ml_6
  (rw [decide_eq_true (list_same p3 fun j hj => p4 j (by omega))])
theorem y62_hcf34 : ∀ args w, (callFunc 34 args).run Try.prog w = .ok (.enter 34 args) w := fun _ _ => by kernel_rfl
theorem y62_sl22 : SlIs Try.prog 22 66 4 32 (.agg #[.int .i64 0, .int .i64 0, .int .i64 0, .int .i64 0]) := ⟨by kernel_rfl, by kernel_rfl, by kernel_rfl⟩
theorem y62_sl23 : SlIs Try.prog 23 69 2 16 (.agg #[.int .i64 0, .int .i64 0]) := ⟨by kernel_rfl, by kernel_rfl, by kernel_rfl⟩
theorem y62_sl24 : SlIs Try.prog 24 47 3 48 (.agg #[.string ByteArray.empty, .int .i64 0, .slice none 0 0]) := ⟨by kernel_rfl, by kernel_rfl, by kernel_rfl⟩
theorem y62_gq66 : Try.prog.eqGuardType Try.prog.depth 66 = false := by kernel_rfl
theorem y62_sq66 {a0 b0 : Int} {a1 b1 : Int} {a2 b2 : Int} {a3 b3 : Int} : EqV Try.prog 3 66 (.agg #[.int .i64 a0, .int .i64 a1, .int .i64 a2, .int .i64 a3]) (.agg #[.int .i64 b0, .int .i64 b1, .int .i64 b2, .int .i64 b3]) (decide (a0 = b0) && (decide (a1 = b1) && ((decide (a2 = b2) && (decide (a3 = b3) && true)) && true))) := (eqs_struct [(3, 0), (3, 1), (55, 2)] (by kernel_rfl) (by kernel_rfl) (by kernel_rfl) (by kernel_rfl) (.cons (fun _ => by kernel_rfl) (fun _ => by kernel_rfl) (EqV.up (eqv_int (k := .i64) (k' := .i64) (by kernel_rfl) a0 b0) 1) (.cons (fun _ => by kernel_rfl) (fun _ => by kernel_rfl) (EqV.up (eqv_int (k := .i64) (k' := .i64) (by kernel_rfl) a1 b1) 1) (.cons (x := .agg #[.int .i64 a2, .int .i64 a3]) (y := .agg #[.int .i64 b2, .int .i64 b3]) (fun _ => by kernel_rfl) (fun _ => by kernel_rfl) (eqs_struct [(3, 0), (3, 1)] (by kernel_rfl) (by kernel_rfl) (by kernel_rfl) (by kernel_rfl) (.cons (fun _ => by kernel_rfl) (fun _ => by kernel_rfl) (eqv_int (k := .i64) (k' := .i64) (by kernel_rfl) a2 b2) (.cons (fun _ => by kernel_rfl) (fun _ => by kernel_rfl) (eqv_int (k := .i64) (k' := .i64) (by kernel_rfl) a3 b3) .nil))) .nil))))
theorem y62_gq69 : Try.prog.eqGuardType Try.prog.depth 69 = false := by kernel_rfl
theorem y62_sq69 {a0 b0 : Int} {a1 b1 : Int} : EqV Try.prog 2 69 (.agg #[.int .i64 a0, .int .i64 a1]) (.agg #[.int .i64 b0, .int .i64 b1]) (decide (a0 = b0) && (decide (a1 = b1) && true)) := (eqs_struct [(3, 0), (3, 1)] (by kernel_rfl) (by kernel_rfl) (by kernel_rfl) (by kernel_rfl) (.cons (fun _ => by kernel_rfl) (fun _ => by kernel_rfl) (eqv_int (k := .i64) (k' := .i64) (by kernel_rfl) a0 b0) (.cons (fun _ => by kernel_rfl) (fun _ => by kernel_rfl) (eqv_int (k := .i64) (k' := .i64) (by kernel_rfl) a1 b1) .nil)))
theorem y62_ty22 : TyIs Try.prog 22 false 1 := ⟨by kernel_rfl, by kernel_rfl⟩
theorem y62_ty23 : TyIs Try.prog 23 false 1 := ⟨by kernel_rfl, by kernel_rfl⟩
theorem y62_ty24 : TyIs Try.prog 24 false 1 := ⟨by kernel_rfl, by kernel_rfl⟩
theorem y62_ty3 : TyIs Try.prog 3 false 1 := ⟨by kernel_rfl, by kernel_rfl⟩
theorem y62_ty40 : TyIs Try.prog 40 false 1 := ⟨by kernel_rfl, by kernel_rfl⟩
theorem y62_ty47 : TyIs Try.prog 47 true 3 := ⟨by kernel_rfl, by kernel_rfl⟩
theorem y62_ty66 : TyIs Try.prog 66 true 4 := ⟨by kernel_rfl, by kernel_rfl⟩
theorem y62_ty69 : TyIs Try.prog 69 true 2 := ⟨by kernel_rfl, by kernel_rfl⟩
theorem y62_ty9 : TyIs Try.prog 9 false 1 := ⟨by kernel_rfl, by kernel_rfl⟩
set_option maxRecDepth 100000 in
set_option maxHeartbeats 4000000 in
theorem same_refl (l : Lin) (hl : Sho l) : FnOk Try.prog 10 [lnA l, lnA l] (fun q => q = tbA true) := by
 obtain ⟨h1, h2, h3, h4, h5⟩ := id hl
 refine fnOk_of (fn := Try.f10) 115 (by kernel_rfl) rfl (by kernel_rfl) (Nat.le_of_ble_eq_true rfl) ?_
 intro e_0 m_0 hA hm_0
 have s0_0 : evA e_0 (.tmp 0) = _ := hA 0 _ rfl
 have s1_0 : evA e_0 (.tmp 1) = _ := hA 1 _ rfl
 have ml_0 : m_0.length = 0 := by rw [hm_0]; rfl
 clear hA hm_0
 refine aw_seq <| at_ <| al_stm (st_box s0_0 rfl ml_0) trivial rfl (fun m_1 hm_1 => ?_)
 have mo0_1 := m_push hm_1 ml_0
 have ml_1 := m_push_l hm_1 ml_0
 have ml_1 : _ = 1 := ml_1
 clear hm_1
 refine al_stm (st_box (up_m rfl s1_0) rfl ml_1) trivial rfl (fun m_2 hm_2 => ?_)
 have mo1_2 := m_push hm_2 ml_1
 have mo0_2 := m_push_o hm_2 mo0_1
 have ml_2 := m_push_l hm_2 ml_1
 have ml_2 : _ = 2 := ml_2
 clear hm_2 mo0_1
 refine ar (ro_assign ev_c) rfl <| ae2 (u2 rfl up_h) (up_m rfl up_h) ?_; clear s0_0 s1_0; intro e_3 s2_3 s3_3
 refine then_n <| aw_seq <| aw_seq <| at_ <| ar (ro_fld_ptr qfl26_0 rfl s2_3) rfl <| ar (ro_eq (ro_ld_ptr y62_ty9 rfl mo0_2 up_h (nle rfl)) (by simp only [pS, Value.cells, Nat.reduceAdd, jnE, beE, swE] <;> rfl)) rfl ?_
 refine ar (ro_fld_ptr qfl26_0 rfl (u2 rfl s3_3)) rfl <| ar (ro_eq (ro_ld_ptr y62_ty9 rfl mo1_2 up_h (nle rfl)) (by simp only [pS, Value.cells, Nat.reduceAdd, jnE, beE, swE] <;> rfl)) rfl ?_
 refine ar (ro_sneq (u2 rfl up_h) up_h) rfl <| ar (ro_move up_h) rfl <| al_case up_h (fun hb_4 hq_4 => ?_) (fun hb_4 hq_4 => ?_)
 ·replace hq_4 := bt' hq_4
  refine al_skip' ⟨_, rfl, .inl hb_4⟩ rfl ?_
  refine al_skip' ⟨_, rfl, .inl (up_m rfl hb_4)⟩ rfl ?_
  refine al_skip' ⟨_, rfl, .inl (u2 rfl hb_4)⟩ rfl ?_
  refine al_skip' ⟨_, rfl, .inl (up_m rfl (u2 rfl hb_4))⟩ rfl ?_
  refine al_skip' ⟨_, rfl, .inl (u4 rfl hb_4)⟩ rfl ?_
  refine al_skip' ⟨_, rfl, .inl (up_m rfl (u4 rfl hb_4))⟩ rfl ?_
  refine al_skip' ⟨_, rfl, .inl (u2 rfl (u4 rfl hb_4))⟩ rfl ?_
  refine ar (ro_pickT (up_m rfl (u2 rfl (u4 rfl hb_4))) ev_c) rfl <| ar (ro_move up_h) rfl <| al_skip' ⟨_, rfl, .inl up_h⟩ rfl ?_
  refine al_skip' ⟨_, rfl, .inl (up_m rfl up_h)⟩ rfl ?_
  refine al_skip' ⟨_, rfl, .inl (u2 rfl up_h)⟩ rfl ?_
  refine al_skip' ⟨_, rfl, .inl (up_m rfl (u2 rfl up_h))⟩ rfl ?_
  refine al_skip' ⟨_, rfl, .inl (u4 rfl up_h)⟩ rfl ?_
  refine al_skip' ⟨_, rfl, .inl (up_m rfl (u4 rfl up_h))⟩ rfl ?_
  refine al_skip' ⟨_, rfl, .inl (u2 rfl (u4 rfl up_h))⟩ rfl ?_
  refine ar (ro_pickT (up_m rfl (u2 rfl (u4 rfl up_h))) ev_c) rfl <| ar (ro_move up_h) rfl <| al_skip' ⟨_, rfl, .inl up_h⟩ rfl ?_
  refine al_skip' ⟨_, rfl, .inl (up_m rfl up_h)⟩ rfl ?_
  refine al_skip' ⟨_, rfl, .inl (u2 rfl up_h)⟩ rfl ?_
  refine al_skip' ⟨_, rfl, .inl (up_m rfl (u2 rfl up_h))⟩ rfl ?_
  refine al_skip' ⟨_, rfl, .inl (u4 rfl up_h)⟩ rfl ?_
  refine al_skip' ⟨_, rfl, .inl (up_m rfl (u4 rfl up_h))⟩ rfl ?_
  refine al_skip' ⟨_, rfl, .inl (u2 rfl (u4 rfl up_h))⟩ rfl ?_
  refine ar (ro_pickT (up_m rfl (u2 rfl (u4 rfl up_h))) ev_c) rfl <| ae3 (u16 rfl (u16 rfl s2_3)) (u16 rfl (u16 rfl s3_3)) up_h ?_; clear hb_4 s2_3 s3_3; intro e_5 s2_5 s3_5 s41_5
  refine then_n <| aw_true s41_5 <| aw_seq <| at_ <| ar (ro_assign ev_c) rfl <| ae1 up_h ?_; clear s2_5 s3_5 s41_5; intro e_7 s4_7
  refine then_n <| aw_ret <| then_r <| ret1 (.inr rfl) (by kernel_rfl) (resV_tmp s4_7) (.ro _ rfl) ?_
  clear s4_7 mo1_2 mo0_2 ml_2
  first | rfl | (simp at *; done)
 replace hq_4 := bf' hq_4
 refine al_ro' (ro_fld_ptr qfl26_1 rfl (u2 rfl (u4 rfl s2_3))) ⟨_, rfl, hb_4⟩ rfl ?_
 refine al_ro' (ro_eq (ro_ld_ptr y62_ty22 rfl mo0_2 up_h (nle rfl)) (by simp only [pS, Value.cells, Nat.reduceAdd, jnE, beE, swE] <;> rfl)) ⟨_, rfl, (up_m rfl hb_4)⟩ rfl ?_
 refine al_ro' (ro_eq (ro_len_row up_h rfl y62_sl22.1) (by simp only [lnS] <;> rfl)) ⟨_, rfl, (u2 rfl hb_4)⟩ rfl ?_
 refine al_ro' (ro_fld_ptr qfl26_1 rfl (up_m rfl (u8 rfl s3_3))) ⟨_, rfl, (up_m rfl (u2 rfl hb_4))⟩ rfl ?_
 refine al_ro' (ro_eq (ro_ld_ptr y62_ty22 rfl mo1_2 up_h (nle rfl)) (by simp only [pS, Value.cells, Nat.reduceAdd, jnE, beE, swE] <;> rfl)) ⟨_, rfl, (u4 rfl hb_4)⟩ rfl ?_
 refine al_ro' (ro_eq (ro_len_row up_h rfl y62_sl22.1) (by simp only [lnS] <;> rfl)) ⟨_, rfl, (up_m rfl (u4 rfl hb_4))⟩ rfl ?_
 refine al_ro' (ro_neq (up_m rfl (u2 rfl up_h)) up_h) ⟨_, rfl, (u2 rfl (u4 rfl hb_4))⟩ rfl ?_
 refine ar (ro_pickF (up_m rfl (u2 rfl (u4 rfl hb_4))) up_h) rfl <| ar (ro_move up_h) rfl <| al_case up_h (fun hb_8 hq_8 => ?_) (fun hb_8 hq_8 => ?_)
 ·replace hq_8 := bnt hq_8; exfalso; omega
 replace hq_8 := bnf hq_8
 refine al_ro' (ro_fld_ptr qfl26_2 rfl (up_m rfl (u2 rfl (u4 rfl (u8 rfl s2_3))))) ⟨_, rfl, hb_8⟩ rfl ?_
 refine al_ro' (ro_eq (ro_ld_ptr y62_ty23 rfl mo0_2 up_h (nle rfl)) (by simp only [pS, Value.cells, Nat.reduceAdd, jnE, beE, swE] <;> rfl)) ⟨_, rfl, (up_m rfl hb_8)⟩ rfl ?_
 refine al_ro' (ro_eq (ro_len_row up_h rfl y62_sl23.1) (by simp only [lnS] <;> rfl)) ⟨_, rfl, (u2 rfl hb_8)⟩ rfl ?_
 refine al_ro' (ro_fld_ptr qfl26_2 rfl (u2 rfl (u16 rfl s3_3))) ⟨_, rfl, (up_m rfl (u2 rfl hb_8))⟩ rfl ?_
 refine al_ro' (ro_eq (ro_ld_ptr y62_ty23 rfl mo1_2 up_h (nle rfl)) (by simp only [pS, Value.cells, Nat.reduceAdd, jnE, beE, swE] <;> rfl)) ⟨_, rfl, (u4 rfl hb_8)⟩ rfl ?_
 refine al_ro' (ro_eq (ro_len_row up_h rfl y62_sl23.1) (by simp only [lnS] <;> rfl)) ⟨_, rfl, (up_m rfl (u4 rfl hb_8))⟩ rfl ?_
 refine al_ro' (ro_neq (up_m rfl (u2 rfl up_h)) up_h) ⟨_, rfl, (u2 rfl (u4 rfl hb_8))⟩ rfl ?_
 refine ar (ro_pickF (up_m rfl (u2 rfl (u4 rfl hb_8))) up_h) rfl <| ar (ro_move up_h) rfl <| al_case up_h (fun hb_12 hq_12 => ?_) (fun hb_12 hq_12 => ?_)
 ·replace hq_12 := bnt hq_12; exfalso; omega
 replace hq_12 := bnf hq_12
 refine al_ro' (ro_fld_ptr qfl26_3 rfl (u8 rfl (u16 rfl s2_3))) ⟨_, rfl, hb_12⟩ rfl ?_
 refine al_ro' (ro_eq (ro_ld_ptr y62_ty24 rfl mo0_2 up_h (nle rfl)) (by simp only [pS, Value.cells, Nat.reduceAdd, jnE, beE, swE] <;> rfl)) ⟨_, rfl, (up_m rfl hb_12)⟩ rfl ?_
 refine al_ro' (ro_eq (ro_len_row up_h rfl y62_sl24.1) (by simp only [lnS] <;> rfl)) ⟨_, rfl, (u2 rfl hb_12)⟩ rfl ?_
 refine al_ro' (ro_fld_ptr qfl26_3 rfl (up_m rfl (u2 rfl (u8 rfl (u16 rfl s3_3))))) ⟨_, rfl, (up_m rfl (u2 rfl hb_12))⟩ rfl ?_
 refine al_ro' (ro_eq (ro_ld_ptr y62_ty24 rfl mo1_2 up_h (nle rfl)) (by simp only [pS, Value.cells, Nat.reduceAdd, jnE, beE, swE] <;> rfl)) ⟨_, rfl, (u4 rfl hb_12)⟩ rfl ?_
 refine al_ro' (ro_eq (ro_len_row up_h rfl y62_sl24.1) (by simp only [lnS] <;> rfl)) ⟨_, rfl, (up_m rfl (u4 rfl hb_12))⟩ rfl ?_
 refine al_ro' (ro_neq (up_m rfl (u2 rfl up_h)) up_h) ⟨_, rfl, (u2 rfl (u4 rfl hb_12))⟩ rfl ?_
 refine ar (ro_pickF (up_m rfl (u2 rfl (u4 rfl hb_12))) up_h) rfl <| ae3 (u16 rfl (u16 rfl s2_3)) (u16 rfl (u16 rfl s3_3)) up_h ?_; clear hb_12 hb_4 hb_8 s2_3 s3_3; intro e_16 s2_16 s3_16 s41_16
 refine then_n <| aw_case s41_16 (fun hq_17 => ?_) (fun hq_17 => ?_)
 ·replace hq_17 := bnt hq_17; exfalso; omega
 replace hq_17 := bnf hq_17
 refine aw_skip <| then_n <| aw_seq <| aw_seq <| at_ <| ar (ro_assign ev_c) rfl <| ae3 (up_m rfl s2_16) (up_m rfl s3_16) up_h ?_; clear s2_16 s3_16 s41_16; intro e_19 s2_19 s3_19 s5_19
 refine then_n <| aw_block <| aw_loop (S := Int) (fun i e mem => (evA e (.tmp 5) = .v (.int .i64 i)) ∧ (evA e (.tmp 2) = evA e_19 (.tmp 2)) ∧ (evA e (.tmp 3) = evA e_19 (.tmp 3)) ∧ (mem[1]? = m_2[1]?) ∧ (mem[0]? = m_2[0]?) ∧ (mem.length = 2) ∧ ((0 ≤ i ∧ i ≤ l.js.length))) (fun i => (l.js.length - i).toNat) _ ⟨s5_19, rfl, rfl, rfl, rfl, ml_2, ?_⟩ ?_
 ·(exact ⟨by omega, by omega⟩)
 ·rintro i e_20 m_20 ⟨s5_20, k2_20, k3_20, mk1_20, mk0_20, ml_20, hinv⟩
  have s2_20 := k2_20.trans s2_19
  have s3_20 := k3_20.trans s3_19
  have mo1_20 := mk1_20.trans mo1_2
  have mo0_20 := mk0_20.trans mo0_2
  (obtain ⟨p1, p2⟩ := hinv)
  refine aw_seq <| aw_seq <| at_ <| ar (ro_move s5_20) rfl <| ar (ro_fld_ptr qfl26_1 rfl (up_m rfl s2_20)) rfl <| ar (ro_eq (ro_ld_ptr y62_ty22 rfl mo0_20 up_h (nle rfl)) (by simp only [pS, Value.cells, Nat.reduceAdd, jnE, beE, swE] <;> rfl)) rfl ?_
  refine ar (ro_eq (ro_len_row up_h rfl y62_sl22.1) (by simp only [lnS] <;> rfl)) rfl ?_
  refine ar (ro_lss (up_m rfl (u2 rfl up_h)) up_h) rfl <| ae4 (up_m rfl (u4 rfl s2_20)) (up_m rfl (u4 rfl s3_20)) (up_m rfl (u4 rfl s5_20)) up_h ?_; clear s2_20 s3_20 s5_20; intro e_21 s2_21 s3_21 s5_21 s46_21
  refine then_n <| aw_case s46_21 (fun hq_22 => ?_) (fun hq_22 => ?_)
  ·replace hq_22 := bt hq_22
   refine aw_skip <| then_n <| aw_seq <| aw_block <| aw_seq <| aw_draw 11 (by kernel_rfl) (by kernel_rfl) (by kernel_rfl) (by kernel_rfl) ?_
   refine dr (ro_fld_ptr qfl26_1 rfl s2_21) rfl <| dr (ro_eq (ro_ld_ptr y62_ty22 rfl mo0_20 up_h (nle rfl)) (by simp only [pS, Value.cells, Nat.reduceAdd, jnE, beE, swE] <;> rfl)) rfl ?_
   refine dr (ro_move (u2 rfl s5_21)) rfl <| dr (ro_eq (ro_ix y62_sl22 (up_m rfl up_h) up_h (by omega) (by first | (refine idx_map ?_; first | omega | (simp only [lnS]; omega)) | (refine idx_mapI ?_; first | omega | (simp only [lnS]; omega)) | (refine idx_mapN ?_; first | omega | (simp only [lnS]; omega)) | rfl)) (by simp only [pS, Value.cells, Nat.reduceAdd, jnE, beE, swE] <;> rfl)) rfl ?_
   refine dr (ro_eq (ro_ld_ref y62_ty66 rfl up_h (nle rfl)) (by simp only [pS, Value.cells, Nat.reduceAdd, jnE, beE, swE] <;> rfl)) rfl ?_
   refine dr (ro_fld_ptr qfl26_1 rfl (up_m rfl (u4 rfl s3_21))) rfl <| dr (ro_eq (ro_ld_ptr y62_ty22 rfl mo1_20 up_h (nle rfl)) (by simp only [pS, Value.cells, Nat.reduceAdd, jnE, beE, swE] <;> rfl)) rfl ?_
   refine dr (ro_move (up_m rfl (u2 rfl (u4 rfl s5_21)))) rfl <| dr (ro_eq (ro_ix y62_sl22 (up_m rfl up_h) up_h (by omega) (by first | (refine idx_map ?_; first | omega | (simp only [lnS]; omega)) | (refine idx_mapI ?_; first | omega | (simp only [lnS]; omega)) | (refine idx_mapN ?_; first | omega | (simp only [lnS]; omega)) | rfl)) (by simp only [pS, Value.cells, Nat.reduceAdd, jnE, beE, swE] <;> rfl)) rfl ?_
   refine dr (ro_eq (ro_ld_ref y62_ty66 rfl up_h (nle rfl)) (by simp only [pS, Value.cells, Nat.reduceAdd, jnE, beE, swE] <;> rfl)) rfl ?_
   refine dr (ro_sqneq (up_m rfl (u4 rfl up_h)) up_h rfl rfl y62_gq66 y62_sq66 (by decide)) rfl ?_
   refine ds_nil <| ae4 (up_m rfl (u2 rfl (u8 rfl s2_21))) (up_m rfl (u2 rfl (u8 rfl s3_21))) (up_m rfl (u2 rfl (u8 rfl s5_21))) up_h ?_; clear s2_21 s3_21 s46_21 s5_21; intro e_23 s2_23 s3_23 s5_23 s59_23
   refine then_n <| aw_case s59_23 (fun hq_24 => ?_) (fun hq_24 => ?_)
   ·replace hq_24 := bt' hq_24
    refine aw_seq <| at_ <| ar (ro_assign ev_c) rfl <| ae1 up_h ?_; clear s2_23 s3_23 s59_23 s5_23; intro e_25 s4_25
    refine then_n <| aw_ret <| block_r <| then_r <| then_r <| block_r <| then_r <| ret1 (.inr rfl) (by kernel_rfl) (resV_tmp s4_25) (.ro _ rfl) ?_
    clear s4_25 mo1_20 mo0_20 ml_20
    first | rfl | (simp at *; done)
   replace hq_24 := bf' hq_24
   refine aw_skip <| block_n <| then_n <| at_ <| ar (ro_move s5_23) rfl ?_
   (refine ar (ro_add' up_h ev_c ?_) rfl ?_; · (unfold In64; omega))
   refine ar (ro_assign up_h) rfl <| ae3 (up_m rfl (u2 rfl s2_23)) (up_m rfl (u2 rfl s3_23)) up_h ?_; clear s2_23 s3_23 s59_23 s5_23; intro e_26 s2_26 s3_26 s5_26
   refine then_n <| ⟨_, ⟨s5_26, (s2_26.trans s2_19.symm), (s3_26.trans s3_19.symm), (mo1_20.trans mo1_2.symm), (mo0_20.trans mo0_2.symm), ml_20, ?_⟩, ?_⟩
   ·(exact ⟨by omega, by omega⟩)
   ·((try dsimp only); omega)
  replace hq_22 := bf hq_22
  refine aw_exit <| then_x <| then_x <| block_hit <| then_n <| aw_seq <| aw_seq <| at_ <| ar (ro_assign ev_c) rfl <| ae3 (up_m rfl s2_21) (up_m rfl s3_21) up_h ?_; clear s2_21 s3_21 s46_21 s5_21; intro e_27 s2_27 s3_27 s6_27
  refine then_n <| aw_block <| aw_loop (S := Int) (fun i e mem => (evA e (.tmp 6) = .v (.int .i64 i)) ∧ (evA e (.tmp 2) = evA e_27 (.tmp 2)) ∧ (evA e (.tmp 3) = evA e_27 (.tmp 3)) ∧ (mem[1]? = m_20[1]?) ∧ (mem[0]? = m_20[0]?) ∧ (mem.length = 2) ∧ ((0 ≤ i ∧ i ≤ l.bs.length))) (fun i => (l.bs.length - i).toNat) _ ⟨s6_27, rfl, rfl, rfl, rfl, ml_20, ?_⟩ ?_
  ·(exact ⟨by omega, by omega⟩)
  ·rintro i e_28 m_28 ⟨s6_28, k2_28, k3_28, mk1_28, mk0_28, ml_28, hinv⟩
   have s2_28 := k2_28.trans s2_27
   have s3_28 := k3_28.trans s3_27
   have mo1_28 := mk1_28.trans mo1_20
   have mo0_28 := mk0_28.trans mo0_20
   (obtain ⟨p1, p2⟩ := hinv)
   refine aw_seq <| aw_seq <| at_ <| ar (ro_move s6_28) rfl <| ar (ro_fld_ptr qfl26_2 rfl (up_m rfl s2_28)) rfl <| ar (ro_eq (ro_ld_ptr y62_ty23 rfl mo0_28 up_h (nle rfl)) (by simp only [pS, Value.cells, Nat.reduceAdd, jnE, beE, swE] <;> rfl)) rfl ?_
   refine ar (ro_eq (ro_len_row up_h rfl y62_sl23.1) (by simp only [lnS] <;> rfl)) rfl ?_
   refine ar (ro_lss (up_m rfl (u2 rfl up_h)) up_h) rfl <| ae4 (up_m rfl (u4 rfl s2_28)) (up_m rfl (u4 rfl s3_28)) (up_m rfl (u4 rfl s6_28)) up_h ?_; clear s2_28 s3_28 s6_28; intro e_29 s2_29 s3_29 s6_29 s64_29
   refine then_n <| aw_case s64_29 (fun hq_30 => ?_) (fun hq_30 => ?_)
   ·replace hq_30 := bt hq_30
    refine aw_skip <| then_n <| aw_seq <| aw_block <| aw_seq <| aw_draw 11 (by kernel_rfl) (by kernel_rfl) (by kernel_rfl) (by kernel_rfl) ?_
    refine dr (ro_fld_ptr qfl26_2 rfl s2_29) rfl <| dr (ro_eq (ro_ld_ptr y62_ty23 rfl mo0_28 up_h (nle rfl)) (by simp only [pS, Value.cells, Nat.reduceAdd, jnE, beE, swE] <;> rfl)) rfl ?_
    refine dr (ro_move (u2 rfl s6_29)) rfl <| dr (ro_eq (ro_ix y62_sl23 (up_m rfl up_h) up_h (by omega) (by first | (refine idx_map ?_; first | omega | (simp only [lnS]; omega)) | (refine idx_mapI ?_; first | omega | (simp only [lnS]; omega)) | (refine idx_mapN ?_; first | omega | (simp only [lnS]; omega)) | rfl)) (by simp only [pS, Value.cells, Nat.reduceAdd, jnE, beE, swE] <;> rfl)) rfl ?_
    refine dr (ro_eq (ro_ld_ref y62_ty69 rfl up_h (nle rfl)) (by simp only [pS, Value.cells, Nat.reduceAdd, jnE, beE, swE] <;> rfl)) rfl ?_
    refine dr (ro_fld_ptr qfl26_2 rfl (up_m rfl (u4 rfl s3_29))) rfl <| dr (ro_eq (ro_ld_ptr y62_ty23 rfl mo1_28 up_h (nle rfl)) (by simp only [pS, Value.cells, Nat.reduceAdd, jnE, beE, swE] <;> rfl)) rfl ?_
    refine dr (ro_move (up_m rfl (u2 rfl (u4 rfl s6_29)))) rfl <| dr (ro_eq (ro_ix y62_sl23 (up_m rfl up_h) up_h (by omega) (by first | (refine idx_map ?_; first | omega | (simp only [lnS]; omega)) | (refine idx_mapI ?_; first | omega | (simp only [lnS]; omega)) | (refine idx_mapN ?_; first | omega | (simp only [lnS]; omega)) | rfl)) (by simp only [pS, Value.cells, Nat.reduceAdd, jnE, beE, swE] <;> rfl)) rfl ?_
    refine dr (ro_eq (ro_ld_ref y62_ty69 rfl up_h (nle rfl)) (by simp only [pS, Value.cells, Nat.reduceAdd, jnE, beE, swE] <;> rfl)) rfl ?_
    refine dr (ro_sqneq (up_m rfl (u4 rfl up_h)) up_h rfl rfl y62_gq69 y62_sq69 (by decide)) rfl ?_
    refine ds_nil <| ae4 (up_m rfl (u2 rfl (u8 rfl s2_29))) (up_m rfl (u2 rfl (u8 rfl s3_29))) (up_m rfl (u2 rfl (u8 rfl s6_29))) up_h ?_; clear s2_29 s3_29 s64_29 s6_29; intro e_31 s2_31 s3_31 s6_31 s77_31
    refine then_n <| aw_case s77_31 (fun hq_32 => ?_) (fun hq_32 => ?_)
    ·replace hq_32 := bt' hq_32
     refine aw_seq <| at_ <| ar (ro_assign ev_c) rfl <| ae1 up_h ?_; clear s2_31 s3_31 s6_31 s77_31; intro e_33 s4_33
     refine then_n <| aw_ret <| block_r <| then_r <| then_r <| block_r <| then_r <| ret1 (.inr rfl) (by kernel_rfl) (resV_tmp s4_33) (.ro _ rfl) ?_
     clear s4_33 mo1_28 mo0_28 ml_28
     first | rfl | (simp at *; done)
    replace hq_32 := bf' hq_32
    refine aw_skip <| block_n <| then_n <| at_ <| ar (ro_move s6_31) rfl ?_
    (refine ar (ro_add' up_h ev_c ?_) rfl ?_; · (unfold In64; omega))
    refine ar (ro_assign up_h) rfl <| ae3 (up_m rfl (u2 rfl s2_31)) (up_m rfl (u2 rfl s3_31)) up_h ?_; clear s2_31 s3_31 s6_31 s77_31; intro e_34 s2_34 s3_34 s6_34
    refine then_n <| ⟨_, ⟨s6_34, (s2_34.trans s2_27.symm), (s3_34.trans s3_27.symm), (mo1_28.trans mo1_20.symm), (mo0_28.trans mo0_20.symm), ml_28, ?_⟩, ?_⟩
    ·(exact ⟨by omega, by omega⟩)
    ·((try dsimp only); omega)
   replace hq_30 := bf hq_30
   refine aw_exit <| then_x <| then_x <| block_hit <| then_n <| aw_seq <| aw_seq <| at_ <| ar (ro_assign ev_c) rfl <| ae3 (up_m rfl s2_29) (up_m rfl s3_29) up_h ?_; clear s2_29 s3_29 s64_29 s6_29; intro e_35 s2_35 s3_35 s7_35
   refine then_n <| aw_block <| aw_loop (S := Int) (fun i e mem => (evA e (.tmp 7) = .v (.int .i64 i)) ∧ (evA e (.tmp 2) = evA e_35 (.tmp 2)) ∧ (evA e (.tmp 3) = evA e_35 (.tmp 3)) ∧ (mem[1]? = m_28[1]?) ∧ (mem[0]? = m_28[0]?) ∧ (∃ n, mem.length = n ∧ 2 ≤ n) ∧ ((0 ≤ i ∧ i ≤ l.ss.length))) (fun i => (l.ss.length - i).toNat) _ ⟨s7_35, rfl, rfl, rfl, rfl, ⟨_, ml_28, Nat.le_refl _⟩, ?_⟩ ?_
   ·(exact ⟨by omega, by omega⟩)
   ·rintro i e_36 m_36 ⟨s7_36, k2_36, k3_36, mk1_36, mk0_36, ⟨n_36, ml_36, hn_36⟩, hinv⟩
    have s2_36 := k2_36.trans s2_35
    have s3_36 := k3_36.trans s3_35
    have mo1_36 := mk1_36.trans mo1_28
    have mo0_36 := mk0_36.trans mo0_28
    (obtain ⟨p1, p2⟩ := hinv; have hso := hl.at i.toNat)
    refine aw_seq <| aw_seq <| at_ <| ar (ro_move s7_36) rfl <| ar (ro_fld_ptr qfl26_3 rfl (up_m rfl s2_36)) rfl <| ar (ro_eq (ro_ld_ptr y62_ty24 rfl mo0_36 up_h (nle rfl)) (by simp only [pS, Value.cells, Nat.reduceAdd, jnE, beE, swE] <;> rfl)) rfl ?_
    refine ar (ro_eq (ro_len_row up_h rfl y62_sl24.1) (by simp only [lnS] <;> rfl)) rfl ?_
    refine ar (ro_lss (up_m rfl (u2 rfl up_h)) up_h) rfl <| ae4 (up_m rfl (u4 rfl s2_36)) (up_m rfl (u4 rfl s3_36)) (up_m rfl (u4 rfl s7_36)) up_h ?_; clear s2_36 s3_36 s7_36; intro e_37 s2_37 s3_37 s7_37 s82_37
    refine then_n <| aw_case s82_37 (fun hq_38 => ?_) (fun hq_38 => ?_)
    ·replace hq_38 := bt hq_38
     refine aw_skip <| then_n <| aw_seq <| aw_block <| aw_seq <| aw_drawK 13 2 ml_36 (by kernel_rfl) (by kernel_rfl) (by kernel_rfl) (by kernel_rfl) (fun m_39 hm_39 => ?_)
     have mo1_39 := m_room_o hm_39 mo1_36
     have mo0_39 := m_room_o hm_39 mo0_36
     have mon_36_39 : m_39[n_36]? = _ := m_room_g hm_39 ml_36 0 rfl rfl
     have mon_36_1_39 : m_39[n_36 + 1]? = _ := m_room_g hm_39 ml_36 1 rfl rfl
     have ml_39 : _ = n_36 + 2 := m_room_l (K := 2) hm_39 ml_36
     clear hm_39 mo1_36 mo0_36 ml_36
     refine dh_ro (fun M_ hM_ => (ro_fld_ptr qfl26_3 rfl s2_37)) trivial ?_
     refine dh_ld (0) (fun M_ hM_ => (ro_eq (ro_ld_ptr y62_ty24 rfl (agr hM_ mo0_39 (by simp)) up_h (nle rfl)) (by simp only [pS, Value.cells, Nat.reduceAdd, jnE, beE, swE] <;> rfl))) trivial trivial ?_
     refine dh_ro (fun M_ hM_ => (ro_move (u2 rfl s7_37))) trivial ?_
     refine dh_ro (fun M_ hM_ => (ro_eq (ro_ix y62_sl24 (up_m rfl up_h) up_h (by omega) (by first | (refine idx_map ?_; first | omega | (simp only [lnS]; omega)) | (refine idx_mapI ?_; first | omega | (simp only [lnS]; omega)) | (refine idx_mapN ?_; first | omega | (simp only [lnS]; omega)) | rfl)) (by simp only [pS, Value.cells, Nat.reduceAdd, jnE, beE, swE] <;> rfl))) trivial ?_
     refine dh_ro (fun M_ hM_ => (ro_eq (ro_ld_ref y62_ty47 rfl up_h (nle rfl)) (by simp only [pS, Value.cells, Nat.reduceAdd, jnE, beE, swE] <;> rfl))) trivial ?_
     refine dh_ro (fun M_ hM_ => (ro_fld_ptr qfl26_3 rfl (up_m rfl (u4 rfl s3_37)))) trivial ?_
     refine dh_ld (1) (fun M_ hM_ => (ro_eq (ro_ld_ptr y62_ty24 rfl (agr hM_ mo1_39 (by simp)) up_h (nle rfl)) (by simp only [pS, Value.cells, Nat.reduceAdd, jnE, beE, swE] <;> rfl))) trivial trivial ?_
     refine dh_ro (fun M_ hM_ => (ro_move (up_m rfl (u2 rfl (u4 rfl s7_37))))) trivial ?_
     refine dh_ro (fun M_ hM_ => (ro_eq (ro_ix y62_sl24 (up_m rfl up_h) up_h (by omega) (by first | (refine idx_map ?_; first | omega | (simp only [lnS]; omega)) | (refine idx_mapI ?_; first | omega | (simp only [lnS]; omega)) | (refine idx_mapN ?_; first | omega | (simp only [lnS]; omega)) | rfl)) (by simp only [pS, Value.cells, Nat.reduceAdd, jnE, beE, swE] <;> rfl))) trivial ?_
     refine dh_ro (fun M_ hM_ => (ro_eq (ro_ld_ref y62_ty47 rfl up_h (nle rfl)) (by simp only [pS, Value.cells, Nat.reduceAdd, jnE, beE, swE] <;> rfl))) trivial ?_
     refine dh_nw (n_36) (fun M_ hM_ => (nw_alloc qaz47 rfl)) trivial mon_36_39 rfl trivial ⟨.inl (by simp <;> omega), ⟨.inl (by simp <;> omega), trivial⟩⟩ (fun m_40 hm_40 => ?_)
     have mon_36_40 := m_set hm_40 mon_36_39
     simp only [pS, Value.cells, Nat.reduceAdd, jnE, beE, swE] at mon_36_40
     have mo1_40 := m_set_o hm_40 mo1_39 (by omega)
     have mo0_40 := m_set_o hm_40 mo0_39 (by omega)
     have mon_36_1_40 := m_set_o hm_40 mon_36_1_39 (by omega)
     have ml_40 := m_set_l hm_40 ml_39
     clear hm_40 mo1_39 mo0_39 mon_36_39 mon_36_1_39
     refine dh_nw (n_36 + 1) (fun M_ hM_ => (nw_alloc qaz47 rfl)) trivial mon_36_1_40 rfl ⟨.inl (by simp <;> omega), trivial⟩ ⟨.inl (by simp <;> omega), ⟨.inl (by simp <;> omega), ⟨.inl (by simp <;> omega), trivial⟩⟩⟩ (fun m_41 hm_41 => ?_)
     have mon_36_1_41 := m_set hm_41 mon_36_1_40
     simp only [pS, Value.cells, Nat.reduceAdd, jnE, beE, swE] at mon_36_1_41
     have mon_36_41 := m_set_o hm_41 mon_36_40 (by omega)
     have mo1_41 := m_set_o hm_41 mo1_40 (by omega)
     have mo0_41 := m_set_o hm_41 mo0_40 (by omega)
     have ml_41 := m_set_l hm_41 ml_40
     clear hm_41 mon_36_40 mo1_40 mo0_40 mon_36_1_40
     refine dh_set (n_36) (fun M_ hM_ => (se_store (up_m rfl up_h) (up_m rfl (u2 rfl (u4 rfl up_h))) rfl rfl (agr hM_ mon_36_41 (by simp)) qsz47 rfl (nle rfl))) trivial ⟨.inr (wt_one 12 10 (by kernel_rfl)), ⟨.inl (by simp <;> omega), trivial⟩⟩ ⟨.inl (by simp <;> omega), ⟨.inl (by simp <;> omega), ⟨.inr (wt_one 12 10 (by kernel_rfl)), ⟨.inl (by simp <;> omega), trivial⟩⟩⟩⟩ (fun m_42 hm_42 => ?_)
     have mon_36_42 := m_set hm_42 mon_36_41
     simp only [pS, Value.cells, Nat.reduceAdd, jnE, beE, swE] at mon_36_42
     have mon_36_1_42 := m_set_o hm_42 mon_36_1_41 (by omega)
     have mo1_42 := m_set_o hm_42 mo1_41 (by omega)
     have mo0_42 := m_set_o hm_42 mo0_41 (by omega)
     have ml_42 := m_set_l hm_42 ml_41
     clear hm_42 mon_36_1_41 mon_36_41 mo1_41 mo0_41
     refine dh_nil rfl ?_
     refine al_stm (st_store (up_n up_h) (up_n (u2 rfl up_h)) rfl rfl mon_36_1_42 qsz47 rfl (nle rfl)) trivial rfl (fun m_43 hm_43 => ?_)
     have mon_36_1_43 := m_set hm_43 mon_36_1_42
     simp only [pS, Value.cells, Nat.reduceAdd, jnE, beE, swE] at mon_36_1_43
     have mon_36_43 := m_set_o hm_43 mon_36_42 (by omega)
     have mo1_43 := m_set_o hm_43 mo1_42 (by omega)
     have mo0_43 := m_set_o hm_43 mo0_42 (by omega)
     have ml_43 := m_set_l hm_43 ml_42
     clear hm_43 mon_36_42 mon_36_1_42 mo1_42 mo0_42
     refine ae5 (up_n (up_n (u4 rfl (u8 rfl s2_37)))) (up_n (up_n (u4 rfl (u8 rfl s3_37)))) (up_n (up_n (u4 rfl (u8 rfl s7_37)))) (up_n (up_n (up_m rfl up_h))) (up_n (up_n up_h)) ?_; clear s2_37 s3_37 s7_37 s82_37; intro e_44 s2_44 s3_44 s7_44 s8_44 s9_44
     refine then_n <| aw_seq <| at_ <| ar (ro_fld_ptr qfl47_0 rfl s8_44) rfl <| ar (ro_eq (ro_ld_ptr y62_ty9 rfl mon_36_43 up_h (nle rfl)) (by simp only [pS, Value.cells, Nat.reduceAdd, jnE, beE, swE] <;> rfl)) rfl ?_
     refine ar (ro_fld_ptr qfl47_0 rfl (u2 rfl s9_44)) rfl <| ar (ro_eq (ro_ld_ptr y62_ty9 rfl mon_36_1_43 up_h (nle rfl)) (by simp only [pS, Value.cells, Nat.reduceAdd, jnE, beE, swE] <;> rfl)) rfl ?_
     refine ar (ro_sneq (u2 rfl up_h) up_h) rfl <| ar (ro_move up_h) rfl <| al_case up_h (fun hb_45 hq_45 => ?_) (fun hb_45 hq_45 => ?_)
     ·replace hq_45 := bt' hq_45
      refine al_skip' ⟨_, rfl, .inl hb_45⟩ rfl ?_
      refine al_skip' ⟨_, rfl, .inl (up_m rfl hb_45)⟩ rfl ?_
      refine al_skip' ⟨_, rfl, .inl (u2 rfl hb_45)⟩ rfl ?_
      refine al_skip' ⟨_, rfl, .inl (up_m rfl (u2 rfl hb_45))⟩ rfl ?_
      refine al_skip' ⟨_, rfl, .inl (u4 rfl hb_45)⟩ rfl ?_
      refine ar (ro_pickT (up_m rfl (u4 rfl hb_45)) ev_c) rfl <| ar (ro_move up_h) rfl <| al_skip' ⟨_, rfl, .inl up_h⟩ rfl ?_
      refine al_skip' ⟨_, rfl, .inl (up_m rfl up_h)⟩ rfl ?_
      refine al_skip' ⟨_, rfl, .inl (u2 rfl up_h)⟩ rfl ?_
      refine al_skip' ⟨_, rfl, .inl (up_m rfl (u2 rfl up_h))⟩ rfl ?_
      refine al_skip' ⟨_, rfl, .inl (u4 rfl up_h)⟩ rfl ?_
      refine al_skip' ⟨_, rfl, .inl (up_m rfl (u4 rfl up_h))⟩ rfl ?_
      refine ar (ro_pickT (u2 rfl (u4 rfl up_h)) ev_c) rfl <| ae4 (u4 rfl (u16 rfl s2_44)) (u4 rfl (u16 rfl s3_44)) (u4 rfl (u16 rfl s7_44)) up_h ?_; clear hb_45 s2_44 s3_44 s7_44 s8_44 s9_44; intro e_46 s2_46 s3_46 s7_46 s114_46
      refine then_n <| aw_true s114_46 <| aw_seq <| at_ <| ar (ro_assign ev_c) rfl <| ae1 up_h ?_; clear s114_46 s2_46 s3_46 s7_46; intro e_48 s4_48
      refine then_n <| aw_ret <| block_r <| then_r <| then_r <| block_r <| then_r <| ret1 (.inr rfl) (by kernel_rfl) (resV_tmp s4_48) (.ro _ rfl) ?_
      clear s4_48 mon_36_1_43 mon_36_43 mo1_43 mo0_43 ml_43
      first | rfl | (simp at *; done)
     replace hq_45 := bf' hq_45
     refine al_ro' (ro_fld_ptr qfl47_1 rfl (u2 rfl (u4 rfl s8_44))) ⟨_, rfl, hb_45⟩ rfl ?_
     refine al_ro' (ro_eq (ro_ld_ptr y62_ty3 rfl mon_36_43 up_h (nle rfl)) (by simp only [pS, Value.cells, Nat.reduceAdd, jnE, beE, swE] <;> rfl)) ⟨_, rfl, (up_m rfl hb_45)⟩ rfl ?_
     refine al_ro' (ro_fld_ptr qfl47_1 rfl (u8 rfl s9_44)) ⟨_, rfl, (u2 rfl hb_45)⟩ rfl ?_
     refine al_ro' (ro_eq (ro_ld_ptr y62_ty3 rfl mon_36_1_43 up_h (nle rfl)) (by simp only [pS, Value.cells, Nat.reduceAdd, jnE, beE, swE] <;> rfl)) ⟨_, rfl, (up_m rfl (u2 rfl hb_45))⟩ rfl ?_
     refine al_ro' (ro_neq (u2 rfl up_h) up_h) ⟨_, rfl, (u4 rfl hb_45)⟩ rfl ?_
     refine ar (ro_pickF (up_m rfl (u4 rfl hb_45)) up_h) rfl <| ar (ro_move up_h) rfl <| al_case up_h (fun hb_49 hq_49 => ?_) (fun hb_49 hq_49 => ?_)
     ·replace hq_49 := bnt hq_49; exfalso; omega
     replace hq_49 := bnf hq_49
     refine al_ro' (ro_fld_ptr qfl47_2 rfl (up_m rfl (u4 rfl (u8 rfl s8_44)))) ⟨_, rfl, hb_49⟩ rfl ?_
     refine al_ro' (ro_eq (ro_ld_ptr y62_ty40 rfl mon_36_43 up_h (nle rfl)) (by simp only [pS, Value.cells, Nat.reduceAdd, jnE, beE, swE] <;> rfl)) ⟨_, rfl, (up_m rfl hb_49)⟩ rfl ?_
     refine al_ro' (ro_fld_ptr qfl47_2 rfl (up_m rfl (u2 rfl (u4 rfl (u8 rfl s9_44))))) ⟨_, rfl, (u2 rfl hb_49)⟩ rfl ?_
     refine al_ro' (ro_eq (ro_ld_ptr y62_ty40 rfl mon_36_1_43 up_h (nle rfl)) (by simp only [pS, Value.cells, Nat.reduceAdd, jnE, beE, swE] <;> rfl)) ⟨_, rfl, (up_m rfl (u2 rfl hb_49))⟩ rfl ?_
     refine al_ro' (ro_call (evL_cons (u2 rfl up_h) (evL_cons up_h evL_nil)) rfl ((bIntsY_ok _ _ (by omega) (by omega)).mono (fun q h => show q = tbA true from h.trans (by simp))) y62_hcf34) ⟨_, rfl, (u4 rfl hb_49)⟩ rfl ?_
     refine al_ro' (ro_not up_h) ⟨_, rfl, (up_m rfl (u4 rfl hb_49))⟩ rfl ?_
     refine ar (ro_pickF (u2 rfl (u4 rfl hb_49)) up_h) rfl <| ae4 (u4 rfl (u16 rfl s2_44)) (u4 rfl (u16 rfl s3_44)) (u4 rfl (u16 rfl s7_44)) up_h ?_; clear hb_45 hb_49 s2_44 s3_44 s7_44 s8_44 s9_44; intro e_53 s2_53 s3_53 s7_53 s114_53
     refine then_n <| aw_case s114_53 (fun hq_54 => ?_) (fun hq_54 => ?_)
     ·replace hq_54 := bt' hq_54; cases hq_54
     replace hq_54 := bf' hq_54
     refine aw_skip <| block_n <| then_n <| at_ <| ar (ro_move s7_53) rfl ?_
     (refine ar (ro_add' up_h ev_c ?_) rfl ?_; · (unfold In64; omega))
     refine ar (ro_assign up_h) rfl <| ae3 (up_m rfl (u2 rfl s2_53)) (up_m rfl (u2 rfl s3_53)) up_h ?_; clear s114_53 s2_53 s3_53 s7_53; intro e_56 s2_56 s3_56 s7_56
     refine then_n <| ⟨_, ⟨s7_56, (s2_56.trans s2_35.symm), (s3_56.trans s3_35.symm), (mo1_43.trans mo1_28.symm), (mo0_43.trans mo0_28.symm), ⟨_, ml_43, by omega⟩, ?_⟩, ?_⟩
     ·(exact ⟨by omega, by omega⟩)
     ·((try dsimp only); omega)
    replace hq_38 := bf hq_38
    refine aw_exit <| then_x <| then_x <| block_hit <| then_n <| aw_seq <| at_ <| ar (ro_assign ev_c) rfl <| ae1 up_h ?_; clear s2_37 s3_37 s7_37 s82_37; intro e_57 s4_57
    refine then_n <| aw_ret <| ret1 (.inr rfl) (by kernel_rfl) (resV_tmp s4_57) (.ro _ rfl) ?_
    clear s4_57 mo1_36 mo0_36 ml_36
    first | rfl | (simp at *; done)
end Go.Proofs.Ytjhcfpdgldpicaa
