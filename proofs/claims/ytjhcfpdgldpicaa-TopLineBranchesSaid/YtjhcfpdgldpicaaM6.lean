/- Texts of this claim, one behind the other: lemmas for the statement. -/
import Derived.Test.YtjhcfpdgldpicaaT0
import Derived.Test.YtjhcfpdgldpicaaM5
import Derived.Test.YtjhcfpdgldpicaaM3
set_option linter.unusedSimpArgs false
set_option linter.unusedVariables false
namespace Go.Proofs.Ytjhcfpdgldpicaa
open Go Go.RowKit Go.Proofs
theorem y10_hcf55 : ∀ args w, (callFunc 55 args).run Try.prog w = .ok (.enter 55 args) w := fun _ _ => by kernel_rfl
theorem y10_sl22 : SlIs Try.prog 22 66 4 32 (.agg #[.int .i64 0, .int .i64 0, .int .i64 0, .int .i64 0]) := ⟨by kernel_rfl, by kernel_rfl, by kernel_rfl⟩
theorem y10_sl23 : SlIs Try.prog 23 69 2 16 (.agg #[.int .i64 0, .int .i64 0]) := ⟨by kernel_rfl, by kernel_rfl, by kernel_rfl⟩
theorem y10_sl24 : SlIs Try.prog 24 47 3 48 (.agg #[.string ByteArray.empty, .int .i64 0, .slice none 0 0]) := ⟨by kernel_rfl, by kernel_rfl, by kernel_rfl⟩
theorem y10_ty22 : TyIs Try.prog 22 false 1 := ⟨by kernel_rfl, by kernel_rfl⟩
theorem y10_ty23 : TyIs Try.prog 23 false 1 := ⟨by kernel_rfl, by kernel_rfl⟩
theorem y10_ty24 : TyIs Try.prog 24 false 1 := ⟨by kernel_rfl, by kernel_rfl⟩
theorem y10_ty26 : TyIs Try.prog 26 true 4 := ⟨by kernel_rfl, by kernel_rfl⟩
theorem y10_ty3 : TyIs Try.prog 3 false 1 := ⟨by kernel_rfl, by kernel_rfl⟩
theorem y10_ty66 : TyIs Try.prog 66 true 4 := ⟨by kernel_rfl, by kernel_rfl⟩
theorem y10_ty75 : TyIs Try.prog 75 true 2 := ⟨by kernel_rfl, by kernel_rfl⟩
theorem y10_ty9 : TyIs Try.prog 9 false 1 := ⟨by kernel_rfl, by kernel_rfl⟩
theorem lisM_hit {k : Int} {f : Nat → Int} {n i : Nat} {z : (Int × Int) × Int} (hn : ∀ j, j < i → f j = 0) (hi : f i ≠ 0) (h : i < n) : lisM k f n z = ((k, (i : Int)), f i) := by
 unfold lisM; rw [firN_some hn hi h]
theorem lisM_miss {k : Int} {f : Nat → Int} {n : Nat} {z : (Int × Int) × Int} (hn : ∀ j, j < n → f j = 0) : lisM k f n z = z := by
 unfold lisM; rw [firN_none hn]
theorem linM_in {l : Lin} (h1 : isNameB l.nam = true) (h2 : ¬ (l.bs.length = 0 ∨ l.js.length ≠ l.bs.length + 1)) (h3 : ¬ 40 < l.bs.length) : linM l = lisM 1 (fun i => jntE (l.js.getD i default)) l.js.length
 (lisM 2 (fun i => beaE (l.bs.getD i default)) l.bs.length
  (if 4 < l.ss.length then ((0, 0), 8) else lisM 3 (swiE l) l.ss.length ((0, 0), 0))) := by
 unfold linM; rw [h1, if_neg h2, if_neg h3]; rfl
set_option maxRecDepth 100000 in
set_option maxHeartbeats 4000000 in
theorem rCheckLine_ok (l : Lin) (hl : Sho l) : FnOk Try.prog 33 [lnA l] (fun q => q = .tuple [.agg [mA (linM l).1.1, mA (linM l).1.2], mA (linM l).2]) := by
 obtain ⟨h1, h2, h3, h4, h5⟩ := id hl
 refine fnOk_of (fn := Try.f33) 129 (by kernel_rfl) rfl (by kernel_rfl) (Nat.le_of_ble_eq_true rfl) ?_
 intro e_0 m_0 hA hm_0
 have s0_0 : evA e_0 (.tmp 0) = _ := hA 0 _ rfl
 have ml_0 : m_0.length = 0 := by rw [hm_0]; rfl
 clear hA hm_0
 refine aw_seq <| at_ <| al_stm (st_box s0_0 rfl ml_0) trivial rfl (fun m_1 hm_1 => ?_)
 have mo0_1 := m_push hm_1 ml_0
 have ml_1 := m_push_l hm_1 ml_0
 have ml_1 : _ = 1 := ml_1
 clear hm_1
 refine al_stm (st_alloc qaz75 rfl ml_1) trivial rfl (fun m_2 hm_2 => ?_)
 have mo1_2 := m_push hm_2 ml_1
 simp only [pS, Value.cells, Nat.reduceAdd, jnE] at mo1_2
 have mo0_2 := m_push_o hm_2 mo0_1
 have ml_2 := m_push_l hm_2 ml_1
 have ml_2 : _ = 2 := ml_2
 clear hm_2 mo0_1
 refine ar (ro_assign ev_c) rfl <| ae2 (u2 rfl up_h) (up_m rfl up_h) ?_; clear s0_0; intro e_3 s1_3 s2_3
 refine then_n <| aw_seq <| aw_seq <| at_ <| ar (ro_fld_ptr qfl26_0 rfl s1_3) rfl <| ar (ro_eq (ro_ld_ptr y10_ty9 rfl mo0_2 up_h (nle rfl)) (by simp only [pS, Value.cells, Nat.reduceAdd, jnE] <;> rfl)) rfl ?_
 refine ar (ro_call (evL_cons up_h evL_nil) rfl (bIsName_ok _ (by omega)) qhcf53) rfl ?_
 refine ar (ro_not up_h) rfl <| ae3 (u4 rfl s1_3) (u4 rfl s2_3) up_h ?_; clear s1_3 s2_3; intro e_4 s1_4 s2_4 s12_4
 refine then_n <| aw_case s12_4 (fun hq_5 => ?_) (fun hq_5 => ?_)
 ·replace hq_5 := bt' hq_5
  refine aw_seq <| at_ <| ar (ro_build evP_nil qbz75 qbu75 qbp75 rfl) rfl ?_
  refine al_stm (st_store (up_m rfl s2_4) up_h rfl rfl mo1_2 qsz75 rfl (nle rfl)) trivial rfl (fun m_6 hm_6 => ?_)
  have mo1_6 := m_set hm_6 mo1_2
  simp only [pS, Value.cells, Nat.reduceAdd, jnE] at mo1_6
  have mo0_6 := m_set_o hm_6 mo0_2 (by decide)
  have ml_6 := m_set_l hm_6 ml_2
  clear hm_6 mo1_2 mo0_2
  refine ar (ro_assign ev_c) rfl <| ae2 (up_m rfl (up_n (up_m rfl s2_4))) up_h ?_; clear s12_4 s1_4 s2_4; intro e_7 s2_7 s3_7
  refine then_n <| aw_ret <| then_r <| ret2 (.inr rfl) (by kernel_rfl) (resV_cell s2_7 mo1_6 y10_ty75 (nle rfl) (by simp)) (resV_tmp s3_7) (vw_r (.ro _ rfl)) (.ro _ rfl) ?_
  clear s2_7 s3_7 mo1_6 mo0_6 ml_6
  (have e : isNameB l.nam = false := (by assumption); rw [show linM l = ((0, 0), 4) by unfold linM; rw [e]; rfl]; rfl)
 replace hq_5 := bf' hq_5
 refine aw_skip <| then_n <| aw_seq <| aw_seq <| aw_cut (fun e mem => (evA e (.tmp 27) = .v (.bool (decide (l.bs.length = 0 ∨ l.js.length ≠ l.bs.length + 1)))) ∧ (evA e (.tmp 1) = evA e_4 (.tmp 1)) ∧ (evA e (.tmp 2) = evA e_4 (.tmp 2)) ∧ m_2 = mem) ?_ ?_
 ·
  refine at_ <| ar (ro_fld_ptr qfl26_2 rfl s1_4) rfl <| ar (ro_eq (ro_ld_ptr y10_ty23 rfl mo0_2 up_h (nle rfl)) (by simp only [pS, Value.cells, Nat.reduceAdd, jnE] <;> rfl)) rfl ?_
  refine ar (ro_eq (ro_len_row up_h rfl y10_sl23.1) (by simp only [lnS] <;> rfl)) rfl ?_
  refine ar (ro_eql up_h ev_c) rfl ?_
  refine ar (ro_move up_h) rfl <| al_case up_h (fun hb_9 hq_9 => ?_) (fun hb_9 hq_9 => ?_)
  ·replace hq_9 := bt hq_9
   refine al_skip' ⟨_, rfl, .inl hb_9⟩ rfl ?_
   refine al_skip' ⟨_, rfl, .inl (up_m rfl hb_9)⟩ rfl ?_
   refine al_skip' ⟨_, rfl, .inl (u2 rfl hb_9)⟩ rfl ?_
   refine al_skip' ⟨_, rfl, .inl (up_m rfl (u2 rfl hb_9))⟩ rfl ?_
   refine al_skip' ⟨_, rfl, .inl (u4 rfl hb_9)⟩ rfl ?_
   refine al_skip' ⟨_, rfl, .inl (up_m rfl (u4 rfl hb_9))⟩ rfl ?_
   refine al_skip' ⟨_, rfl, .inl (u2 rfl (u4 rfl hb_9))⟩ rfl ?_
   refine al_skip' ⟨_, rfl, .inl (up_m rfl (u2 rfl (u4 rfl hb_9)))⟩ rfl ?_
   refine ar (ro_pickT (u8 rfl hb_9) ev_c) rfl <| ae3 (u2 rfl (u4 rfl (u8 rfl s1_4))) (u2 rfl (u4 rfl (u8 rfl s2_4))) up_h ?_; intro e_10 s1_10 s2_10 s27_10
   refine then_n ⟨(s27_10).trans (by (refine avb ?_; simp only [decide_eq_true_eq, Bool.false_eq_true, true_iff, false_iff, iff_true, iff_false, Bool.not_eq_true', decide_eq_false_iff_not]; omega)), (s1_10).trans (s1_4).symm, (s2_10).trans (s2_4).symm, rfl⟩
  replace hq_9 := bf hq_9
  refine al_ro' (ro_fld_ptr qfl26_1 rfl (up_m rfl (u4 rfl s1_4))) ⟨_, rfl, hb_9⟩ rfl ?_
  refine al_ro' (ro_eq (ro_ld_ptr y10_ty22 rfl mo0_2 up_h (nle rfl)) (by simp only [pS, Value.cells, Nat.reduceAdd, jnE] <;> rfl)) ⟨_, rfl, (up_m rfl hb_9)⟩ rfl ?_
  refine al_ro' (ro_eq (ro_len_row up_h rfl y10_sl22.1) (by simp only [lnS] <;> rfl)) ⟨_, rfl, (u2 rfl hb_9)⟩ rfl ?_
  refine al_ro' (ro_fld_ptr qfl26_2 rfl (u8 rfl s1_4)) ⟨_, rfl, (up_m rfl (u2 rfl hb_9))⟩ rfl ?_
  refine al_ro' (ro_eq (ro_ld_ptr y10_ty23 rfl mo0_2 up_h (nle rfl)) (by simp only [pS, Value.cells, Nat.reduceAdd, jnE] <;> rfl)) ⟨_, rfl, (u4 rfl hb_9)⟩ rfl ?_
  refine al_ro' (ro_eq (ro_len_row up_h rfl y10_sl23.1) (by simp only [lnS] <;> rfl)) ⟨_, rfl, (up_m rfl (u4 rfl hb_9))⟩ rfl ?_
  (refine al_ro' (ro_add' up_h ev_c ?_) ⟨_, rfl, (u2 rfl (u4 rfl hb_9))⟩ rfl ?_; · (unfold In64; omega))
  refine al_ro' (ro_neq (u4 rfl up_h) up_h) ⟨_, rfl, (up_m rfl (u2 rfl (u4 rfl hb_9)))⟩ rfl ?_
  refine ar (ro_pickF (u8 rfl hb_9) up_h) rfl <| ae3 (u2 rfl (u4 rfl (u8 rfl s1_4))) (u2 rfl (u4 rfl (u8 rfl s2_4))) up_h ?_; intro e_11 s1_11 s2_11 s27_11
  refine then_n ⟨(s27_11).trans (by (refine avb ?_; simp only [decide_eq_true_eq, Bool.false_eq_true, true_iff, false_iff, iff_true, iff_false, Bool.not_eq_true', decide_eq_false_iff_not]; omega)), (s1_11).trans (s1_4).symm, (s2_11).trans (s2_4).symm, rfl⟩
 ·rintro e_8 _ ⟨s27_8, k1_8, k2_8, rfl⟩
  have s1_8 := k1_8.trans s1_4
  have s2_8 := k2_8.trans s2_4
  refine aw_case s27_8 (fun hq_12 => ?_) (fun hq_12 => ?_)
  ·replace hq_12 := bt hq_12
   refine aw_seq <| at_ <| ar (ro_build evP_nil qbz75 qbu75 qbp75 rfl) rfl ?_
   refine al_stm (st_store (up_m rfl s2_8) up_h rfl rfl mo1_2 qsz75 rfl (nle rfl)) trivial rfl (fun m_13 hm_13 => ?_)
   have mo1_13 := m_set hm_13 mo1_2
   simp only [pS, Value.cells, Nat.reduceAdd, jnE] at mo1_13
   have mo0_13 := m_set_o hm_13 mo0_2 (by decide)
   have ml_13 := m_set_l hm_13 ml_2
   clear hm_13 mo1_2 mo0_2
   refine ar (ro_assign ev_c) rfl <| ae2 (up_m rfl (up_n (up_m rfl s2_8))) up_h ?_; clear s1_8 s27_8 s2_8; intro e_14 s2_14 s3_14
   refine then_n <| aw_ret <| then_r <| ret2 (.inr rfl) (by kernel_rfl) (resV_cell s2_14 mo1_13 y10_ty75 (nle rfl) (by simp)) (resV_tmp s3_14) (vw_r (.ro _ rfl)) (.ro _ rfl) ?_
   clear s2_14 s3_14 mo1_13 mo0_13 ml_13
   (have e : isNameB l.nam = true := (by assumption); have hs : l.bs.length = 0 ∨ l.js.length ≠ l.bs.length + 1 := (by first | assumption | simp_all); rw [show linM l = ((0, 0), 10) by unfold linM; simp only [e, Bool.not_true, Bool.false_eq_true, if_false, if_pos hs]]; rfl)
  replace hq_12 := bf hq_12
  refine aw_skip <| then_n <| aw_seq <| aw_seq <| at_ <| ar (ro_fld_ptr qfl26_2 rfl s1_8) rfl <| ar (ro_eq (ro_ld_ptr y10_ty23 rfl mo0_2 up_h (nle rfl)) (by simp only [pS, Value.cells, Nat.reduceAdd, jnE] <;> rfl)) rfl ?_
  refine ar (ro_eq (ro_len_row up_h rfl y10_sl23.1) (by simp only [lnS] <;> rfl)) rfl ?_
  refine ar (ro_gtr up_h ev_c) rfl <| ae3 (u4 rfl s1_8) (u4 rfl s2_8) up_h ?_; clear s1_8 s27_8 s2_8; intro e_15 s1_15 s2_15 s32_15
  refine then_n <| aw_case s32_15 (fun hq_16 => ?_) (fun hq_16 => ?_)
  ·replace hq_16 := bt hq_16
   refine aw_seq <| at_ <| ar (ro_build evP_nil qbz75 qbu75 qbp75 rfl) rfl ?_
   refine al_stm (st_store (up_m rfl s2_15) up_h rfl rfl mo1_2 qsz75 rfl (nle rfl)) trivial rfl (fun m_17 hm_17 => ?_)
   have mo1_17 := m_set hm_17 mo1_2
   simp only [pS, Value.cells, Nat.reduceAdd, jnE] at mo1_17
   have mo0_17 := m_set_o hm_17 mo0_2 (by decide)
   have ml_17 := m_set_l hm_17 ml_2
   clear hm_17 mo1_2 mo0_2
   refine ar (ro_assign ev_c) rfl <| ae2 (up_m rfl (up_n (up_m rfl s2_15))) up_h ?_; clear s1_15 s2_15 s32_15; intro e_18 s2_18 s3_18
   refine then_n <| aw_ret <| then_r <| ret2 (.inr rfl) (by kernel_rfl) (resV_cell s2_18 mo1_17 y10_ty75 (nle rfl) (by simp)) (resV_tmp s3_18) (vw_r (.ro _ rfl)) (.ro _ rfl) ?_
   clear s2_18 s3_18 mo1_17 mo0_17 ml_17
   (have e : isNameB l.nam = true := (by assumption); have hs : ¬ (l.bs.length = 0 ∨ l.js.length ≠ l.bs.length + 1) := (by first | assumption | omega); have hg : 40 < l.bs.length := (by omega); rw [show linM l = ((0, 0), 8) by unfold linM; simp only [e, Bool.not_true, Bool.false_eq_true, if_false, if_neg hs, if_pos hg]]; rfl)
  replace hq_16 := bf hq_16
  (have hin := linM_in (l := l) (by assumption) (by first | assumption | omega) (by omega))
  refine aw_skip <| then_n <| aw_seq <| aw_seq <| at_ <| ar (ro_assign ev_c) rfl <| ae3 (up_m rfl s1_15) (up_m rfl s2_15) up_h ?_; clear s1_15 s2_15 s32_15; intro e_19 s1_19 s2_19 s4_19
  refine then_n <| aw_block <| aw_loop (S := Int) (fun k e mem => (evA e (.tmp 4) = .v (.int .i64 k)) ∧ (evA e (.tmp 1) = evA e_19 (.tmp 1)) ∧ (evA e (.tmp 2) = evA e_19 (.tmp 2)) ∧ (mem[1]? = m_2[1]?) ∧ (mem[0]? = m_2[0]?) ∧ (∃ n, mem.length = n ∧ 2 ≤ n) ∧ ((0 ≤ k ∧ k ≤ l.js.length ∧ ∀ j : Nat, j < k.toNat → jntE (l.js.getD j default) = 0))) (fun k => (l.js.length - k).toNat) _ ⟨s4_19, rfl, rfl, rfl, rfl, ⟨_, ml_2, Nat.le_refl _⟩, ?_⟩ ?_
  ·(exact ⟨by omega, by omega, fun j h => absurd h (by omega)⟩)
  ·rintro k e_20 m_20 ⟨s4_20, k1_20, k2_20, mk1_20, mk0_20, ⟨n_20, ml_20, hn_20⟩, hinv⟩
   have s1_20 := k1_20.trans s1_19
   have s2_20 := k2_20.trans s2_19
   have mo1_20 := mk1_20.trans mo1_2
   have mo0_20 := mk0_20.trans mo0_2
   (obtain ⟨p1, p2, p3⟩ := hinv)
   refine aw_seq <| aw_seq <| at_ <| ar (ro_move s4_20) rfl <| ar (ro_fld_ptr qfl26_1 rfl (up_m rfl s1_20)) rfl <| ar (ro_eq (ro_ld_ptr y10_ty22 rfl mo0_20 up_h (nle rfl)) (by simp only [pS, Value.cells, Nat.reduceAdd, jnE] <;> rfl)) rfl ?_
   refine ar (ro_eq (ro_len_row up_h rfl y10_sl22.1) (by simp only [lnS] <;> rfl)) rfl ?_
   refine ar (ro_lss (up_m rfl (u2 rfl up_h)) up_h) rfl <| ae4 (up_m rfl (u4 rfl s1_20)) (up_m rfl (u4 rfl s2_20)) (up_m rfl (u4 rfl s4_20)) up_h ?_; clear s1_20 s2_20 s4_20; intro e_21 s1_21 s2_21 s4_21 s38_21
   refine then_n <| aw_case s38_21 (fun hq_22 => ?_) (fun hq_22 => ?_)
   ·replace hq_22 := bt hq_22
    refine aw_skip <| then_n <| aw_seq <| aw_block <| aw_seq <| at_ <| ar (ro_fld_ptr qfl26_1 rfl s1_21) rfl <| ar (ro_eq (ro_ld_ptr y10_ty22 rfl mo0_20 up_h (nle rfl)) (by simp only [pS, Value.cells, Nat.reduceAdd, jnE] <;> rfl)) rfl ?_
    refine ar (ro_move (u2 rfl s4_21)) rfl <| ar (ro_eq (ro_ix y10_sl22 (up_m rfl up_h) up_h (by omega) (by first | (refine idx_map ?_; first | omega | (simp only [lnS]; omega)) | (refine idx_mapI ?_; first | omega | (simp only [lnS]; omega)) | (refine idx_mapN ?_; first | omega | (simp only [lnS]; omega)) | rfl)) (by simp only [pS, Value.cells, Nat.reduceAdd, jnE] <;> rfl)) rfl ?_
    refine ar (ro_eq (ro_ld_ref y10_ty66 rfl up_h (nle rfl)) (by simp only [pS, Value.cells, Nat.reduceAdd, jnE] <;> rfl)) rfl ?_
    refine al_stm (st_alloc qaz66 rfl ml_20) trivial rfl (fun m_23 hm_23 => ?_)
    have mon_20_23 := m_push hm_23 ml_20
    simp only [pS, Value.cells, Nat.reduceAdd, jnE] at mon_20_23
    have mo1_23 := m_push_o hm_23 mo1_20
    have mo0_23 := m_push_o hm_23 mo0_20
    have ml_23 := m_push_l hm_23 ml_20
    clear hm_23 mo1_20 mo0_20
    refine al_stm (st_store up_h (up_m rfl up_h) rfl rfl mon_20_23 qsz66 rfl (nle rfl)) trivial rfl (fun m_24 hm_24 => ?_)
    have mon_20_24 := m_set hm_24 mon_20_23
    simp only [pS, Value.cells, Nat.reduceAdd, jnE] at mon_20_24
    have mo1_24 := m_set_o hm_24 mo1_23 (by omega)
    have mo0_24 := m_set_o hm_24 mo0_23 (by omega)
    have ml_24 := m_set_l hm_24 ml_23
    clear hm_24 mon_20_23 mo1_23 mo0_23
    refine ae4 (up_n (u2 rfl (u4 rfl s1_21))) (up_n (u2 rfl (u4 rfl s2_21))) (up_n (u2 rfl (u4 rfl s4_21))) (up_n up_h) ?_; clear s1_21 s2_21 s38_21 s4_21; intro e_25 s1_25 s2_25 s4_25 s5_25
    refine then_n <| aw_seq <| aw_seq <| aw_cut (fun e mem => (evA e (.tmp 69) = .v (.bool (!jntB (l.js.getD k.toNat default)))) ∧ (evA e (.tmp 1) = evA e_25 (.tmp 1)) ∧ (evA e (.tmp 2) = evA e_25 (.tmp 2)) ∧ (evA e (.tmp 4) = evA e_25 (.tmp 4)) ∧ (evA e (.tmp 5) = evA e_25 (.tmp 5)) ∧ m_24 = mem) ?_ ?_
    ·
     refine at_ <| ar (ro_fld_ptr qfl66_0 rfl s5_25) rfl <| ar (ro_eq (ro_ld_ptr y10_ty3 rfl mon_20_24 up_h (nle rfl)) (by simp only [pS, Value.cells, Nat.reduceAdd, jnE] <;> rfl)) rfl ?_
     refine ar (ro_call (evL_cons up_h (evL_cons ev_c evL_nil)) rfl (size_ok _ _ (by decide)) qhcf54) rfl ?_
     refine ar (ro_not up_h) rfl <| ar (ro_move up_h) rfl <| al_case up_h (fun hb_27 hq_27 => ?_) (fun hb_27 hq_27 => ?_)
     ·replace hq_27 := bt' hq_27
      refine al_skip' ⟨_, rfl, .inl hb_27⟩ rfl ?_
      refine al_skip' ⟨_, rfl, .inl (up_m rfl hb_27)⟩ rfl ?_
      refine al_skip' ⟨_, rfl, .inl (u2 rfl hb_27)⟩ rfl ?_
      refine al_skip' ⟨_, rfl, .inl (up_m rfl (u2 rfl hb_27))⟩ rfl ?_
      refine ar (ro_pickT (u4 rfl hb_27) ev_c) rfl <| ar (ro_move up_h) rfl <| al_skip' ⟨_, rfl, .inl up_h⟩ rfl ?_
      refine al_skip' ⟨_, rfl, .inl (up_m rfl up_h)⟩ rfl ?_
      refine al_skip' ⟨_, rfl, .inl (u2 rfl up_h)⟩ rfl ?_
      refine al_skip' ⟨_, rfl, .inl (up_m rfl (u2 rfl up_h))⟩ rfl ?_
      refine al_skip' ⟨_, rfl, .inl (u4 rfl up_h)⟩ rfl ?_
      refine ar (ro_pickT (up_m rfl (u4 rfl up_h)) ev_c) rfl <| ar (ro_move up_h) rfl <| al_skip' ⟨_, rfl, .inl up_h⟩ rfl ?_
      refine al_skip' ⟨_, rfl, .inl (up_m rfl up_h)⟩ rfl ?_
      refine al_skip' ⟨_, rfl, .inl (u2 rfl up_h)⟩ rfl ?_
      refine al_skip' ⟨_, rfl, .inl (up_m rfl (u2 rfl up_h))⟩ rfl ?_
      refine al_skip' ⟨_, rfl, .inl (u4 rfl up_h)⟩ rfl ?_
      refine ar (ro_pickT (up_m rfl (u4 rfl up_h)) ev_c) rfl <| ae5 (u8 rfl (u16 rfl s1_25)) (u8 rfl (u16 rfl s2_25)) (u8 rfl (u16 rfl s4_25)) (u8 rfl (u16 rfl s5_25)) up_h ?_; intro e_28 s1_28 s2_28 s4_28 s5_28 s69_28
      refine then_n ⟨(s69_28).trans (by (refine avb ?_; unfold jntB; simp_all)), (s1_28).trans (s1_25).symm, (s2_28).trans (s2_25).symm, (s4_28).trans (s4_25).symm, (s5_28).trans (s5_25).symm, rfl⟩
     replace hq_27 := bf' hq_27
     refine al_ro' (ro_fld_ptr qfl66_1 rfl (up_m rfl (u4 rfl s5_25))) ⟨_, rfl, hb_27⟩ rfl ?_
     refine al_ro' (ro_eq (ro_ld_ptr y10_ty3 rfl mon_20_24 up_h (nle rfl)) (by simp only [pS, Value.cells, Nat.reduceAdd, jnE] <;> rfl)) ⟨_, rfl, (up_m rfl hb_27)⟩ rfl ?_
     refine al_ro' (ro_call (evL_cons up_h (evL_cons ev_c evL_nil)) rfl (size_ok _ _ (by decide)) qhcf54) ⟨_, rfl, (u2 rfl hb_27)⟩ rfl ?_
     refine al_ro' (ro_not up_h) ⟨_, rfl, (up_m rfl (u2 rfl hb_27))⟩ rfl ?_
     refine ar (ro_pickF (u4 rfl hb_27) up_h) rfl <| ar (ro_move up_h) rfl <| al_case up_h (fun hb_29 hq_29 => ?_) (fun hb_29 hq_29 => ?_)
     ·replace hq_29 := bt' hq_29
      refine al_skip' ⟨_, rfl, .inl hb_29⟩ rfl ?_
      refine al_skip' ⟨_, rfl, .inl (up_m rfl hb_29)⟩ rfl ?_
      refine al_skip' ⟨_, rfl, .inl (u2 rfl hb_29)⟩ rfl ?_
      refine al_skip' ⟨_, rfl, .inl (up_m rfl (u2 rfl hb_29))⟩ rfl ?_
      refine al_skip' ⟨_, rfl, .inl (u4 rfl hb_29)⟩ rfl ?_
      refine ar (ro_pickT (up_m rfl (u4 rfl hb_29)) ev_c) rfl <| ar (ro_move up_h) rfl <| al_skip' ⟨_, rfl, .inl up_h⟩ rfl ?_
      refine al_skip' ⟨_, rfl, .inl (up_m rfl up_h)⟩ rfl ?_
      refine al_skip' ⟨_, rfl, .inl (u2 rfl up_h)⟩ rfl ?_
      refine al_skip' ⟨_, rfl, .inl (up_m rfl (u2 rfl up_h))⟩ rfl ?_
      refine al_skip' ⟨_, rfl, .inl (u4 rfl up_h)⟩ rfl ?_
      refine ar (ro_pickT (up_m rfl (u4 rfl up_h)) ev_c) rfl <| ae5 (u8 rfl (u16 rfl s1_25)) (u8 rfl (u16 rfl s2_25)) (u8 rfl (u16 rfl s4_25)) (u8 rfl (u16 rfl s5_25)) up_h ?_; intro e_30 s1_30 s2_30 s4_30 s5_30 s69_30
      refine then_n ⟨(s69_30).trans (by (refine avb ?_; unfold jntB; simp_all)), (s1_30).trans (s1_25).symm, (s2_30).trans (s2_25).symm, (s4_30).trans (s4_25).symm, (s5_30).trans (s5_25).symm, rfl⟩
     replace hq_29 := bf' hq_29
     refine al_ro' (ro_fld_ptr qfl66_2 rfl (up_m rfl (u2 rfl (u8 rfl s5_25)))) ⟨_, rfl, hb_29⟩ rfl ?_
     refine al_ro' (ro_fld_ptr qfl55_0 rfl up_h) ⟨_, rfl, (up_m rfl hb_29)⟩ rfl ?_
     refine al_ro' (ro_eq (ro_ld_ptr y10_ty3 rfl mon_20_24 up_h (nle rfl)) (by simp only [pS, Value.cells, Nat.reduceAdd, jnE] <;> rfl)) ⟨_, rfl, (u2 rfl hb_29)⟩ rfl ?_
     refine al_ro' (ro_call (evL_cons up_h (evL_cons ev_c evL_nil)) rfl (size_ok _ _ (by decide)) qhcf54) ⟨_, rfl, (up_m rfl (u2 rfl hb_29))⟩ rfl ?_
     refine al_ro' (ro_not up_h) ⟨_, rfl, (u4 rfl hb_29)⟩ rfl ?_
     refine ar (ro_pickF (up_m rfl (u4 rfl hb_29)) up_h) rfl <| ar (ro_move up_h) rfl <| al_case up_h (fun hb_31 hq_31 => ?_) (fun hb_31 hq_31 => ?_)
     ·replace hq_31 := bt' hq_31
      refine al_skip' ⟨_, rfl, .inl hb_31⟩ rfl ?_
      refine al_skip' ⟨_, rfl, .inl (up_m rfl hb_31)⟩ rfl ?_
      refine al_skip' ⟨_, rfl, .inl (u2 rfl hb_31)⟩ rfl ?_
      refine al_skip' ⟨_, rfl, .inl (up_m rfl (u2 rfl hb_31))⟩ rfl ?_
      refine al_skip' ⟨_, rfl, .inl (u4 rfl hb_31)⟩ rfl ?_
      refine ar (ro_pickT (up_m rfl (u4 rfl hb_31)) ev_c) rfl <| ae5 (u8 rfl (u16 rfl s1_25)) (u8 rfl (u16 rfl s2_25)) (u8 rfl (u16 rfl s4_25)) (u8 rfl (u16 rfl s5_25)) up_h ?_; intro e_32 s1_32 s2_32 s4_32 s5_32 s69_32
      refine then_n ⟨(s69_32).trans (by (refine avb ?_; unfold jntB; simp_all)), (s1_32).trans (s1_25).symm, (s2_32).trans (s2_25).symm, (s4_32).trans (s4_25).symm, (s5_32).trans (s5_25).symm, rfl⟩
     replace hq_31 := bf' hq_31
     refine al_ro' (ro_fld_ptr qfl66_2 rfl (u2 rfl (u16 rfl s5_25))) ⟨_, rfl, hb_31⟩ rfl ?_
     refine al_ro' (ro_fld_ptr qfl55_1 rfl up_h) ⟨_, rfl, (up_m rfl hb_31)⟩ rfl ?_
     refine al_ro' (ro_eq (ro_ld_ptr y10_ty3 rfl mon_20_24 up_h (nle rfl)) (by simp only [pS, Value.cells, Nat.reduceAdd, jnE] <;> rfl)) ⟨_, rfl, (u2 rfl hb_31)⟩ rfl ?_
     refine al_ro' (ro_call (evL_cons up_h (evL_cons ev_c evL_nil)) rfl (size_ok _ _ (by decide)) qhcf54) ⟨_, rfl, (up_m rfl (u2 rfl hb_31))⟩ rfl ?_
     refine al_ro' (ro_not up_h) ⟨_, rfl, (u4 rfl hb_31)⟩ rfl ?_
     refine ar (ro_pickF (up_m rfl (u4 rfl hb_31)) up_h) rfl <| ae5 (u8 rfl (u16 rfl s1_25)) (u8 rfl (u16 rfl s2_25)) (u8 rfl (u16 rfl s4_25)) (u8 rfl (u16 rfl s5_25)) up_h ?_; intro e_33 s1_33 s2_33 s4_33 s5_33 s69_33
     refine then_n ⟨(s69_33).trans (by (refine avb ?_; unfold jntB; simp_all)), (s1_33).trans (s1_25).symm, (s2_33).trans (s2_25).symm, (s4_33).trans (s4_25).symm, (s5_33).trans (s5_25).symm, rfl⟩
    ·rintro e_26 _ ⟨s69_26, k1_26, k2_26, k4_26, k5_26, rfl⟩
     have s1_26 := k1_26.trans s1_25
     have s2_26 := k2_26.trans s2_25
     have s4_26 := k4_26.trans s4_25
     have s5_26 := k5_26.trans s5_25
     refine aw_case s69_26 (fun hq_34 => ?_) (fun hq_34 => ?_)
     ·replace hq_34 := bt' hq_34
      refine aw_seq <| at_ <| ar (ro_move s4_26) rfl <| ar (ro_build (evP_cons ev_c (evP_cons up_h evP_nil)) qbz75 qbu75 qbp75 rfl) rfl ?_
      refine al_stm (st_store (u2 rfl s2_26) up_h rfl rfl mo1_24 qsz75 rfl (nle rfl)) trivial rfl (fun m_35 hm_35 => ?_)
      have mo1_35 := m_set hm_35 mo1_24
      simp only [pS, Value.cells, Nat.reduceAdd, jnE] at mo1_35
      have mon_20_35 := m_set_o hm_35 mon_20_24 (by omega)
      have mo0_35 := m_set_o hm_35 mo0_24 (by decide)
      have ml_35 := m_set_l hm_35 ml_24
      clear hm_35 mon_20_24 mo1_24 mo0_24
      refine ar (ro_assign ev_c) rfl <| ae2 (up_m rfl (up_n (u2 rfl s2_26))) up_h ?_; clear s1_26 s2_26 s4_26 s5_26 s69_26; intro e_36 s2_36 s3_36
      refine then_n <| aw_ret <| then_r <| block_r <| then_r <| then_r <| block_r <| then_r <| ret2 (.inr rfl) (by kernel_rfl) (resV_cell s2_36 mo1_35 y10_ty75 (nle rfl) (by simp)) (resV_tmp s3_36) (vw_r (.ro _ rfl)) (.ro _ rfl) ?_
      clear s2_36 s3_36 mo1_35 mon_20_35 mo0_35 ml_35
      (have e : jntE (l.js.getD k.toNat default) = 2 := (by unfold jntE; rw [‹jntB _ = false›]; rfl); rw [hin, lisM_hit (i := k.toNat) p3 (by rw [e]; decide) (by omega), e]; (first | (simp only [Int.toNat_of_nonneg p1]; done) | (simp only [Int.toNat_of_nonneg p1]; rfl)))
     replace hq_34 := bf' hq_34
     refine aw_skip <| then_n <| aw_seq <| at_ <| ar (ro_fld_ptr qfl66_2 rfl s5_26) rfl <| ar (ro_fld_ptr qfl55_0 rfl up_h) rfl <| ar (ro_eq (ro_ld_ptr y10_ty3 rfl mon_20_24 up_h (nle rfl)) (by simp only [pS, Value.cells, Nat.reduceAdd, jnE] <;> rfl)) rfl ?_
     refine ar (ro_fld_ptr qfl66_2 rfl (up_m rfl (u2 rfl s5_26))) rfl <| ar (ro_fld_ptr qfl55_1 rfl up_h) rfl <| ar (ro_eq (ro_ld_ptr y10_ty3 rfl mon_20_24 up_h (nle rfl)) (by simp only [pS, Value.cells, Nat.reduceAdd, jnE] <;> rfl)) rfl ?_
     refine ar (ro_gtr (up_m rfl (u2 rfl up_h)) up_h) rfl <| ae4 (up_m rfl (u2 rfl (u4 rfl s1_26))) (up_m rfl (u2 rfl (u4 rfl s2_26))) (up_m rfl (u2 rfl (u4 rfl s4_26))) up_h ?_; clear s1_26 s2_26 s4_26 s5_26 s69_26; intro e_37 s1_37 s2_37 s4_37 s78_37
     refine then_n <| aw_case s78_37 (fun hq_38 => ?_) (fun hq_38 => ?_)
     ·replace hq_38 := bt hq_38
      refine aw_seq <| at_ <| ar (ro_move s4_37) rfl <| ar (ro_build (evP_cons ev_c (evP_cons up_h evP_nil)) qbz75 qbu75 qbp75 rfl) rfl ?_
      refine al_stm (st_store (u2 rfl s2_37) up_h rfl rfl mo1_24 qsz75 rfl (nle rfl)) trivial rfl (fun m_39 hm_39 => ?_)
      have mo1_39 := m_set hm_39 mo1_24
      simp only [pS, Value.cells, Nat.reduceAdd, jnE] at mo1_39
      have mon_20_39 := m_set_o hm_39 mon_20_24 (by omega)
      have mo0_39 := m_set_o hm_39 mo0_24 (by decide)
      have ml_39 := m_set_l hm_39 ml_24
      clear hm_39 mon_20_24 mo1_24 mo0_24
      refine ar (ro_assign ev_c) rfl <| ae2 (up_m rfl (up_n (u2 rfl s2_37))) up_h ?_; clear s1_37 s2_37 s4_37 s78_37; intro e_40 s2_40 s3_40
      refine then_n <| aw_ret <| block_r <| then_r <| then_r <| block_r <| then_r <| ret2 (.inr rfl) (by kernel_rfl) (resV_cell s2_40 mo1_39 y10_ty75 (nle rfl) (by simp)) (resV_tmp s3_40) (vw_r (.ro _ rfl)) (.ro _ rfl) ?_
      clear s2_40 s3_40 mo1_39 mon_20_39 mo0_39 ml_39
      (have e : jntE (l.js.getD k.toNat default) = 9 := (by unfold jntE; rw [‹jntB _ = true›, if_pos rfl, if_neg (by omega)]); rw [hin, lisM_hit (i := k.toNat) p3 (by rw [e]; decide) (by omega), e]; (first | (simp only [Int.toNat_of_nonneg p1]; done) | (simp only [Int.toNat_of_nonneg p1]; rfl)))
     replace hq_38 := bf hq_38
     refine aw_skip <| block_n <| then_n <| at_ <| ar (ro_move s4_37) rfl ?_
     (refine ar (ro_add' up_h ev_c ?_) rfl ?_; · (unfold In64; omega))
     refine ar (ro_assign up_h) rfl <| ae3 (up_m rfl (u2 rfl s1_37)) (up_m rfl (u2 rfl s2_37)) up_h ?_; clear s1_37 s2_37 s4_37 s78_37; intro e_41 s1_41 s2_41 s4_41
     refine then_n <| ⟨_, ⟨s4_41, (s1_41.trans s1_19.symm), (s2_41.trans s2_19.symm), (mo1_24.trans mo1_2.symm), (mo0_24.trans mo0_2.symm), ⟨_, ml_24, by omega⟩, ?_⟩, ?_⟩
     ·(refine ⟨by omega, by omega, fun j hj => ?_⟩; by_cases hji : j < k.toNat; (exact p3 j hji); (rw [show j = k.toNat by omega]; unfold jntE; rw [‹jntB _ = true›, if_pos rfl, if_pos (by omega)]))
     ·((try dsimp only); omega)
   replace hq_22 := bf hq_22
   refine aw_exit <| then_x <| then_x <| block_hit <| then_n <| aw_seq <| aw_seq <| at_ <| ar (ro_assign ev_c) rfl <| ae3 (up_m rfl s1_21) (up_m rfl s2_21) up_h ?_; clear s1_21 s2_21 s38_21 s4_21; intro e_42 s1_42 s2_42 s6_42
   refine then_n <| aw_block <| aw_loop (S := Int) (fun k2 e mem => (evA e (.tmp 6) = .v (.int .i64 k2)) ∧ (evA e (.tmp 1) = evA e_42 (.tmp 1)) ∧ (evA e (.tmp 2) = evA e_42 (.tmp 2)) ∧ (mem[1]? = m_20[1]?) ∧ (mem[0]? = m_20[0]?) ∧ (mem.length = n_20) ∧ ((0 ≤ k2 ∧ k2 ≤ l.bs.length ∧ ∀ j : Nat, j < k2.toNat → beaE (l.bs.getD j default) = 0))) (fun k2 => (l.bs.length - k2).toNat) _ ⟨s6_42, rfl, rfl, rfl, rfl, ml_20, ?_⟩ ?_
   ·(exact ⟨by omega, by omega, fun j h => absurd h (by omega)⟩)
   ·rintro k2 e_43 m_43 ⟨s6_43, k1_43, k2_43, mk1_43, mk0_43, ml_43, hinv⟩
    have s1_43 := k1_43.trans s1_42
    have s2_43 := k2_43.trans s2_42
    have mo1_43 := mk1_43.trans mo1_20
    have mo0_43 := mk0_43.trans mo0_20
    (obtain ⟨q1, q2, q3⟩ := hinv)
    refine aw_seq <| aw_seq <| at_ <| ar (ro_move s6_43) rfl <| ar (ro_fld_ptr qfl26_2 rfl (up_m rfl s1_43)) rfl <| ar (ro_eq (ro_ld_ptr y10_ty23 rfl mo0_43 up_h (nle rfl)) (by simp only [pS, Value.cells, Nat.reduceAdd, jnE] <;> rfl)) rfl ?_
    refine ar (ro_eq (ro_len_row up_h rfl y10_sl23.1) (by simp only [lnS] <;> rfl)) rfl ?_
    refine ar (ro_lss (up_m rfl (u2 rfl up_h)) up_h) rfl <| ae4 (up_m rfl (u4 rfl s1_43)) (up_m rfl (u4 rfl s2_43)) (up_m rfl (u4 rfl s6_43)) up_h ?_; clear s1_43 s2_43 s6_43; intro e_44 s1_44 s2_44 s6_44 s85_44
    refine then_n <| aw_case s85_44 (fun hq_45 => ?_) (fun hq_45 => ?_)
    ·replace hq_45 := bt hq_45
     refine aw_skip <| then_n <| aw_seq <| aw_block <| aw_seq <| aw_cut (fun e mem => (evA e (.tmp 105) = .v (.bool (!beaB (l.bs.getD k2.toNat default)))) ∧ (evA e (.tmp 1) = evA e_44 (.tmp 1)) ∧ (evA e (.tmp 2) = evA e_44 (.tmp 2)) ∧ (evA e (.tmp 6) = evA e_44 (.tmp 6)) ∧ m_43 = mem) ?_ ?_
     ·
      refine at_ <| ar (ro_fld_ptr qfl26_2 rfl s1_44) rfl <| ar (ro_eq (ro_ld_ptr y10_ty23 rfl mo0_43 up_h (nle rfl)) (by simp only [pS, Value.cells, Nat.reduceAdd, jnE] <;> rfl)) rfl ?_
      refine ar (ro_move (u2 rfl s6_44)) rfl <| ar (ro_eq (ro_ix y10_sl23 (up_m rfl up_h) up_h (by omega) (by first | (refine idx_map ?_; first | omega | (simp only [lnS]; omega)) | (refine idx_mapI ?_; first | omega | (simp only [lnS]; omega)) | (refine idx_mapN ?_; first | omega | (simp only [lnS]; omega)) | rfl)) (by rfl)) rfl ?_
      refine ar (ro_eq (ro_fld_ref qfl69_0 rfl up_h) (by simp only [pS, Value.cells, Nat.reduceAdd, jnE] <;> rfl)) rfl ?_
      refine ar (ro_eq (ro_ld_ref y10_ty3 rfl up_h (nle rfl)) (by simp only [pS, Value.cells, Nat.reduceAdd, jnE] <;> rfl)) rfl ?_
      refine ar (ro_call (evL_cons up_h (evL_cons ev_c (evL_cons ev_c evL_nil))) rfl (bWithin_ok _ _ _) qhcf16) rfl <| ar (ro_not up_h) rfl <| ar (ro_move up_h) rfl <| al_case up_h (fun hb_47 hq_47 => ?_) (fun hb_47 hq_47 => ?_)
      ·replace hq_47 := bt' hq_47
       refine al_skip' ⟨_, rfl, .inl hb_47⟩ rfl ?_
       refine al_skip' ⟨_, rfl, .inl (up_m rfl hb_47)⟩ rfl ?_
       refine al_skip' ⟨_, rfl, .inl (u2 rfl hb_47)⟩ rfl ?_
       refine al_skip' ⟨_, rfl, .inl (up_m rfl (u2 rfl hb_47))⟩ rfl ?_
       refine al_skip' ⟨_, rfl, .inl (u4 rfl hb_47)⟩ rfl ?_
       refine al_skip' ⟨_, rfl, .inl (up_m rfl (u4 rfl hb_47))⟩ rfl ?_
       refine al_skip' ⟨_, rfl, .inl (u2 rfl (u4 rfl hb_47))⟩ rfl ?_
       refine al_skip' ⟨_, rfl, .inl (up_m rfl (u2 rfl (u4 rfl hb_47)))⟩ rfl ?_
       refine ar (ro_pickT (u8 rfl hb_47) ev_c) rfl <| ae4 (u2 rfl (u16 rfl s1_44)) (u2 rfl (u16 rfl s2_44)) (u2 rfl (u16 rfl s6_44)) up_h ?_; intro e_48 s1_48 s2_48 s6_48 s105_48
       refine then_n ⟨(s105_48).trans (by (refine avb ?_; unfold beaB; simp_all)), (s1_48).trans (s1_44).symm, (s2_48).trans (s2_44).symm, (s6_48).trans (s6_44).symm, rfl⟩
      replace hq_47 := bf' hq_47
      refine al_ro' (ro_fld_ptr qfl26_2 rfl (up_m rfl (u8 rfl s1_44))) ⟨_, rfl, hb_47⟩ rfl ?_
      refine al_ro' (ro_eq (ro_ld_ptr y10_ty23 rfl mo0_43 up_h (nle rfl)) (by simp only [pS, Value.cells, Nat.reduceAdd, jnE] <;> rfl)) ⟨_, rfl, (up_m rfl hb_47)⟩ rfl ?_
      refine al_ro' (ro_move (up_m rfl (u2 rfl (u8 rfl s6_44)))) ⟨_, rfl, (u2 rfl hb_47)⟩ rfl ?_
      refine al_ro' (ro_eq (ro_ix y10_sl23 (up_m rfl up_h) up_h (by omega) (by first | (refine idx_map ?_; first | omega | (simp only [lnS]; omega)) | (refine idx_mapI ?_; first | omega | (simp only [lnS]; omega)) | (refine idx_mapN ?_; first | omega | (simp only [lnS]; omega)) | rfl)) (by rfl)) ⟨_, rfl, (up_m rfl (u2 rfl hb_47))⟩ rfl ?_
      refine al_ro' (ro_eq (ro_fld_ref qfl69_1 rfl up_h) (by rfl)) ⟨_, rfl, (u4 rfl hb_47)⟩ rfl ?_
      refine al_ro' (ro_eq (ro_ld_ref y10_ty3 rfl up_h (nle rfl)) (by simp only [pS, Value.cells, Nat.reduceAdd, jnE] <;> rfl)) ⟨_, rfl, (up_m rfl (u4 rfl hb_47))⟩ rfl ?_
      refine al_ro' (ro_call (evL_cons up_h (evL_cons ev_c evL_nil)) rfl (size_ok _ _ (by decide)) qhcf54) ⟨_, rfl, (u2 rfl (u4 rfl hb_47))⟩ rfl ?_
      refine al_ro' (ro_not up_h) ⟨_, rfl, (up_m rfl (u2 rfl (u4 rfl hb_47)))⟩ rfl ?_
      refine ar (ro_pickF (u8 rfl hb_47) up_h) rfl <| ae4 (u2 rfl (u16 rfl s1_44)) (u2 rfl (u16 rfl s2_44)) (u2 rfl (u16 rfl s6_44)) up_h ?_; intro e_49 s1_49 s2_49 s6_49 s105_49
      refine then_n ⟨(s105_49).trans (by (refine avb ?_; unfold beaB; simp_all)), (s1_49).trans (s1_44).symm, (s2_49).trans (s2_44).symm, (s6_49).trans (s6_44).symm, rfl⟩
     ·rintro e_46 _ ⟨s105_46, k1_46, k2_46, k6_46, rfl⟩
      have s1_46 := k1_46.trans s1_44
      have s2_46 := k2_46.trans s2_44
      have s6_46 := k6_46.trans s6_44
      refine aw_case s105_46 (fun hq_50 => ?_) (fun hq_50 => ?_)
      ·replace hq_50 := bt' hq_50
       refine aw_seq <| at_ <| ar (ro_move s6_46) rfl <| ar (ro_build (evP_cons ev_c (evP_cons up_h evP_nil)) qbz75 qbu75 qbp75 rfl) rfl ?_
       refine al_stm (st_store (u2 rfl s2_46) up_h rfl rfl mo1_43 qsz75 rfl (nle rfl)) trivial rfl (fun m_51 hm_51 => ?_)
       have mo1_51 := m_set hm_51 mo1_43
       simp only [pS, Value.cells, Nat.reduceAdd, jnE] at mo1_51
       have mo0_51 := m_set_o hm_51 mo0_43 (by decide)
       have ml_51 := m_set_l hm_51 ml_43
       clear hm_51 mo1_43 mo0_43
       refine ar (ro_assign ev_c) rfl <| ae2 (up_m rfl (up_n (u2 rfl s2_46))) up_h ?_; clear s105_46 s1_46 s2_46 s6_46; intro e_52 s2_52 s3_52
       refine then_n <| aw_ret <| block_r <| then_r <| then_r <| block_r <| then_r <| ret2 (.inr rfl) (by kernel_rfl) (resV_cell s2_52 mo1_51 y10_ty75 (nle rfl) (by simp)) (resV_tmp s3_52) (vw_r (.ro _ rfl)) (.ro _ rfl) ?_
       clear s2_52 s3_52 mo1_51 mo0_51 ml_51
       (have e : beaE (l.bs.getD k2.toNat default) = 2 := (by unfold beaE; rw [‹beaB _ = false›]; rfl); rw [hin, lisM_miss (fun j hj => p3 j (by omega)), lisM_hit (i := k2.toNat) q3 (by rw [e]; decide) (by omega), e]; (first | (simp only [Int.toNat_of_nonneg q1]; done) | (simp only [Int.toNat_of_nonneg q1]; rfl)))
      replace hq_50 := bf' hq_50
      refine aw_skip <| block_n <| then_n <| at_ <| ar (ro_move s6_46) rfl ?_
      (refine ar (ro_add' up_h ev_c ?_) rfl ?_; · (unfold In64; omega))
      refine ar (ro_assign up_h) rfl <| ae3 (up_m rfl (u2 rfl s1_46)) (up_m rfl (u2 rfl s2_46)) up_h ?_; clear s105_46 s1_46 s2_46 s6_46; intro e_53 s1_53 s2_53 s6_53
      refine then_n <| ⟨_, ⟨s6_53, (s1_53.trans s1_42.symm), (s2_53.trans s2_42.symm), (mo1_43.trans mo1_20.symm), (mo0_43.trans mo0_20.symm), ml_43, ?_⟩, ?_⟩
      ·(refine ⟨by omega, by omega, fun j hj => ?_⟩; by_cases hji : j < k2.toNat; (exact q3 j hji); (rw [show j = k2.toNat by omega]; unfold beaE; rw [‹beaB _ = true›, if_pos rfl]))
      ·((try dsimp only); omega)
    replace hq_45 := bf hq_45
    refine aw_exit <| then_x <| then_x <| block_hit <| then_n <| aw_seq <| aw_seq <| at_ <| ar (ro_fld_ptr qfl26_3 rfl s1_44) rfl <| ar (ro_eq (ro_ld_ptr y10_ty24 rfl mo0_43 up_h (nle rfl)) (by simp only [pS, Value.cells, Nat.reduceAdd, jnE] <;> rfl)) rfl ?_
    refine ar (ro_eq (ro_len_row up_h rfl y10_sl24.1) (by simp only [lnS] <;> rfl)) rfl ?_
    refine ar (ro_gtr up_h ev_c) rfl <| ae3 (u4 rfl s1_44) (u4 rfl s2_44) up_h ?_; clear s1_44 s2_44 s6_44 s85_44; intro e_54 s1_54 s2_54 s111_54
    refine then_n <| aw_case s111_54 (fun hq_55 => ?_) (fun hq_55 => ?_)
    ·replace hq_55 := bt hq_55
     refine aw_seq <| at_ <| ar (ro_build evP_nil qbz75 qbu75 qbp75 rfl) rfl ?_
     refine al_stm (st_store (up_m rfl s2_54) up_h rfl rfl mo1_43 qsz75 rfl (nle rfl)) trivial rfl (fun m_56 hm_56 => ?_)
     have mo1_56 := m_set hm_56 mo1_43
     simp only [pS, Value.cells, Nat.reduceAdd, jnE] at mo1_56
     have mo0_56 := m_set_o hm_56 mo0_43 (by decide)
     have ml_56 := m_set_l hm_56 ml_43
     clear hm_56 mo1_43 mo0_43
     refine ar (ro_assign ev_c) rfl <| ae2 (up_m rfl (up_n (up_m rfl s2_54))) up_h ?_; clear s111_54 s1_54 s2_54; intro e_57 s2_57 s3_57
     refine then_n <| aw_ret <| then_r <| ret2 (.inr rfl) (by kernel_rfl) (resV_cell s2_57 mo1_56 y10_ty75 (nle rfl) (by simp)) (resV_tmp s3_57) (vw_r (.ro _ rfl)) (.ro _ rfl) ?_
     clear s2_57 s3_57 mo1_56 mo0_56 ml_56
     (rw [hin, lisM_miss (fun j hj => p3 j (by omega)), lisM_miss (fun j hj => q3 j (by omega)), if_pos (by omega)]; rfl)
    replace hq_55 := bf hq_55
    refine aw_skip <| then_n <| aw_seq <| aw_seq <| at_ <| ar (ro_assign ev_c) rfl <| ae3 (up_m rfl s1_54) (up_m rfl s2_54) up_h ?_; clear s111_54 s1_54 s2_54; intro e_58 s1_58 s2_58 s7_58
    refine then_n <| aw_block <| aw_loop (S := Int) (fun k3 e mem => (evA e (.tmp 7) = .v (.int .i64 k3)) ∧ (evA e (.tmp 1) = evA e_58 (.tmp 1)) ∧ (evA e (.tmp 2) = evA e_58 (.tmp 2)) ∧ (mem[1]? = m_43[1]?) ∧ (mem[0]? = m_43[0]?) ∧ (mem.length = n_20) ∧ ((0 ≤ k3 ∧ k3 ≤ l.ss.length ∧ ∀ j : Nat, j < k3.toNat → swiE l j = 0))) (fun k3 => (l.ss.length - k3).toNat) _ ⟨s7_58, rfl, rfl, rfl, rfl, ml_43, ?_⟩ ?_
    ·(exact ⟨by omega, by omega, fun j h => absurd h (by omega)⟩)
    ·rintro k3 e_59 m_59 ⟨s7_59, k1_59, k2_59, mk1_59, mk0_59, ml_59, hinv⟩
     have s1_59 := k1_59.trans s1_58
     have s2_59 := k2_59.trans s2_58
     have mo1_59 := mk1_59.trans mo1_43
     have mo0_59 := mk0_59.trans mo0_43
     (obtain ⟨r1, r2, r3⟩ := hinv)
     refine aw_seq <| aw_seq <| at_ <| ar (ro_move s7_59) rfl <| ar (ro_fld_ptr qfl26_3 rfl (up_m rfl s1_59)) rfl <| ar (ro_eq (ro_ld_ptr y10_ty24 rfl mo0_59 up_h (nle rfl)) (by simp only [pS, Value.cells, Nat.reduceAdd, jnE] <;> rfl)) rfl ?_
     refine ar (ro_eq (ro_len_row up_h rfl y10_sl24.1) (by simp only [lnS] <;> rfl)) rfl ?_
     refine ar (ro_lss (up_m rfl (u2 rfl up_h)) up_h) rfl <| ae4 (up_m rfl (u4 rfl s1_59)) (up_m rfl (u4 rfl s2_59)) (up_m rfl (u4 rfl s7_59)) up_h ?_; clear s1_59 s2_59 s7_59; intro e_60 s1_60 s2_60 s7_60 s117_60
     refine then_n <| aw_case s117_60 (fun hq_61 => ?_) (fun hq_61 => ?_)
     ·replace hq_61 := bt hq_61
      refine aw_skip <| then_n <| aw_seq <| aw_block <| aw_seq <| at_ <| ar (ro_eq (ro_ld_ptr y10_ty26 rfl mo0_59 s1_60 (nle rfl)) (by simp only [pS, Value.cells, Nat.reduceAdd, jnE] <;> rfl)) rfl ?_
      refine ar (ro_move (up_m rfl s7_60)) rfl <| ar (ro_call (evL_cons (up_m rfl up_h) (evL_cons up_h evL_nil)) rfl (rSwitch_ok l hl k3 ⟨by omega, by omega⟩) y10_hcf55) rfl ?_
      refine ar (ro_assign up_h) rfl <| ae4 (u4 rfl s1_60) (u4 rfl s2_60) (u4 rfl s7_60) up_h ?_; clear s117_60 s1_60 s2_60 s7_60; intro e_62 s1_62 s2_62 s7_62 s8_62
      refine then_n <| aw_seq <| at_ <| ar (ro_move s8_62) rfl <| ar (ro_neq up_h ev_c) rfl <| ae5 (u2 rfl s1_62) (u2 rfl s2_62) (u2 rfl s7_62) (u2 rfl s8_62) up_h ?_; clear s1_62 s2_62 s7_62 s8_62; intro e_63 s1_63 s2_63 s7_63 s8_63 s124_63
      refine then_n <| aw_case s124_63 (fun hq_64 => ?_) (fun hq_64 => ?_)
      ·replace hq_64 := bnt hq_64
       refine aw_seq <| at_ <| ar (ro_move s7_63) rfl <| ar (ro_build (evP_cons ev_c (evP_cons up_h evP_nil)) qbz75 qbu75 qbp75 rfl) rfl ?_
       refine ar (ro_move (u2 rfl s8_63)) rfl <| al_stm (st_store (up_m rfl (u2 rfl s2_63)) (up_m rfl up_h) rfl rfl mo1_59 qsz75 rfl (nle rfl)) trivial rfl (fun m_65 hm_65 => ?_)
       have mo1_65 := m_set hm_65 mo1_59
       simp only [pS, Value.cells, Nat.reduceAdd, jnE] at mo1_65
       have mo0_65 := m_set_o hm_65 mo0_59 (by decide)
       have ml_65 := m_set_l hm_65 ml_59
       clear hm_65 mo1_59 mo0_59
       refine ar (ro_assign (up_n up_h)) rfl <| ae2 (up_m rfl (up_n (up_m rfl (u2 rfl s2_63)))) up_h ?_; clear s124_63 s1_63 s2_63 s7_63 s8_63; intro e_66 s2_66 s3_66
       refine then_n <| aw_ret <| block_r <| then_r <| then_r <| block_r <| then_r <| ret2 (.inr rfl) (by kernel_rfl) (resV_cell s2_66 mo1_65 y10_ty75 (nle rfl) (by simp)) (resV_tmp s3_66) (vw_r (.ro _ rfl)) (.ro _ rfl) ?_
       clear s2_66 s3_66 mo1_65 mo0_65 ml_65
       (rw [hin, lisM_miss (fun j hj => p3 j (by omega)), lisM_miss (fun j hj => q3 j (by omega)), if_neg (by omega), lisM_hit (i := k3.toNat) r3 (by assumption) (by omega)]; (first | (simp only [Int.toNat_of_nonneg r1]; done) | (simp only [Int.toNat_of_nonneg r1]; rfl)))
      replace hq_64 := bnf hq_64
      refine aw_skip <| block_n <| then_n <| at_ <| ar (ro_move s7_63) rfl ?_
      (refine ar (ro_add' up_h ev_c ?_) rfl ?_; · (unfold In64; omega))
      refine ar (ro_assign up_h) rfl <| ae3 (up_m rfl (u2 rfl s1_63)) (up_m rfl (u2 rfl s2_63)) up_h ?_; clear s124_63 s1_63 s2_63 s7_63 s8_63; intro e_67 s1_67 s2_67 s7_67
      refine then_n <| ⟨_, ⟨s7_67, (s1_67.trans s1_58.symm), (s2_67.trans s2_58.symm), (mo1_59.trans mo1_43.symm), (mo0_59.trans mo0_43.symm), ml_59, ?_⟩, ?_⟩
      ·(refine ⟨by omega, by omega, fun j hj => ?_⟩; by_cases hji : j < k3.toNat; (exact r3 j hji); (rw [show j = k3.toNat by omega]; assumption))
      ·((try dsimp only); omega)
     replace hq_61 := bf hq_61
     refine aw_exit <| then_x <| then_x <| block_hit <| then_n <| aw_seq <| at_ <| ar (ro_build evP_nil qbz75 qbu75 qbp75 rfl) rfl ?_
     refine al_stm (st_store (up_m rfl s2_60) up_h rfl rfl mo1_59 qsz75 rfl (nle rfl)) trivial rfl (fun m_68 hm_68 => ?_)
     have mo1_68 := m_set hm_68 mo1_59
     simp only [pS, Value.cells, Nat.reduceAdd, jnE] at mo1_68
     have mo0_68 := m_set_o hm_68 mo0_59 (by decide)
     have ml_68 := m_set_l hm_68 ml_59
     clear hm_68 mo1_59 mo0_59
     refine ar (ro_assign ev_c) rfl <| ae2 (up_m rfl (up_n (up_m rfl s2_60))) up_h ?_; clear s117_60 s1_60 s2_60 s7_60; intro e_69 s2_69 s3_69
     refine then_n <| aw_ret <| ret2 (.inr rfl) (by kernel_rfl) (resV_cell s2_69 mo1_68 y10_ty75 (nle rfl) (by simp)) (resV_tmp s3_69) (vw_r (.ro _ rfl)) (.ro _ rfl) ?_
     clear s2_69 s3_69 mo1_68 mo0_68 ml_68
     (rw [hin, lisM_miss (fun j hj => p3 j (by omega)), lisM_miss (fun j hj => q3 j (by omega)), if_neg (by omega), lisM_miss (fun j hj => r3 j (by omega))]; rfl)
theorem y11_hcf33 : ∀ args w, (callFunc 33 args).run Try.prog w = .ok (.enter 33 args) w := fun _ _ => by kernel_rfl
theorem y11_sl23 : SlIs Try.prog 23 69 2 16 (.agg #[.int .i64 0, .int .i64 0]) := ⟨by kernel_rfl, by kernel_rfl, by kernel_rfl⟩
theorem y11_ty23 : TyIs Try.prog 23 false 1 := ⟨by kernel_rfl, by kernel_rfl⟩
theorem y11_ty26 : TyIs Try.prog 26 true 4 := ⟨by kernel_rfl, by kernel_rfl⟩
theorem y11_ty3 : TyIs Try.prog 3 false 1 := ⟨by kernel_rfl, by kernel_rfl⟩
def fewB (n most limit : Int) : Bool := decide (n ≤ most ∨ (limit < n ∧ n ≤ limit + 3))
set_option maxRecDepth 100000 in
set_option maxHeartbeats 1000000 in
theorem few_ok (n most limit : Int) (hl : 0 ≤ limit ∧ limit ≤ 1000) : FnOk Try.prog 26 [mA n, mA most, mA limit] (fun q => q = tbA (fewB n most limit)) := by
 refine fnOk_of (fn := Try.f26) 21 (by kernel_rfl) rfl (by kernel_rfl) (Nat.le_of_ble_eq_true rfl) ?_
 intro e_0 m_0 hA hm_0
 have s0_0 : evA e_0 (.tmp 0) = _ := hA 0 _ rfl
 have s1_0 : evA e_0 (.tmp 1) = _ := hA 1 _ rfl
 have s2_0 : evA e_0 (.tmp 2) = _ := hA 2 _ rfl
 have ml_0 : m_0.length = 0 := by rw [hm_0]; rfl
 clear hA hm_0
 refine aw_seq <| at_ <| ar (ro_assign ev_c) rfl <| ae3 (up_m rfl s0_0) (up_m rfl s1_0) (up_m rfl s2_0) ?_; clear s0_0 s1_0 s2_0; intro e_1 s0_1 s1_1 s2_1
 refine then_n <| aw_seq <| at_ <| ar (ro_move s0_1) rfl <| ar (ro_move (up_m rfl s1_1)) rfl <| ar (ro_leq (up_m rfl up_h) up_h) rfl <| ar (ro_move up_h) rfl <| al_case up_h (fun hb_2 hq_2 => ?_) (fun hb_2 hq_2 => ?_)
 ·replace hq_2 := bt hq_2
  refine al_skip' ⟨_, rfl, .inl hb_2⟩ rfl ?_
  refine al_skip' ⟨_, rfl, .inl (up_m rfl hb_2)⟩ rfl ?_
  refine al_skip' ⟨_, rfl, .inl (u2 rfl hb_2)⟩ rfl ?_
  refine al_skip' ⟨_, rfl, .inl (up_m rfl (u2 rfl hb_2))⟩ rfl ?_
  refine al_skip' ⟨_, rfl, .inr up_h⟩ rfl ?_
  refine al_skip' ⟨_, rfl, .inr (up_m rfl up_h)⟩ rfl ?_
  refine al_skip' ⟨_, rfl, .inr (u2 rfl up_h)⟩ rfl ?_
  refine al_skip' ⟨_, rfl, .inr (up_m rfl (u2 rfl up_h))⟩ rfl ?_
  refine al_skip' ⟨_, rfl, .inl (u8 rfl hb_2)⟩ rfl ?_
  refine ar (ro_pickT (up_m rfl (u8 rfl hb_2)) ev_c) rfl <| ar (ro_assign up_h) rfl <| ae1 up_h ?_; clear hb_2 s0_1 s1_1 s2_1; intro e_3 s6_3
  refine then_n <| aw_ret <| ret1 (.inr rfl) (by kernel_rfl) (resV_tmp s6_3) (.ro _ rfl) ?_
  clear s6_3 ml_0
  (refine avb ?_; simp only [fewB, decide_eq_true_eq, Bool.false_eq_true, true_iff, false_iff]; omega)
 replace hq_2 := bf hq_2
 refine al_ro' (ro_move (u4 rfl s0_1)) ⟨_, rfl, hb_2⟩ rfl ?_
 refine al_ro' (ro_move (up_m rfl (u4 rfl s2_1))) ⟨_, rfl, (up_m rfl hb_2)⟩ rfl ?_
 refine al_ro' (ro_gtr (up_m rfl up_h) up_h) ⟨_, rfl, (u2 rfl hb_2)⟩ rfl ?_
 refine al_ro' (ro_move up_h) ⟨_, rfl, (up_m rfl (u2 rfl hb_2))⟩ rfl ?_
 refine al_case up_h (fun hb_4 hq_4 => ?_) (fun hb_4 hq_4 => ?_)
 ·replace hq_4 := bt hq_4
  refine al_ro' (ro_move (u8 rfl s0_1)) ⟨_, rfl, hb_4⟩ rfl ?_
  refine al_ro' (ro_move (up_m rfl (u8 rfl s2_1))) ⟨_, rfl, (up_m rfl hb_4)⟩ rfl ?_
  (refine al_ro' (ro_add' up_h ev_c ?_) ⟨_, rfl, (u2 rfl hb_4)⟩ rfl ?_; · (unfold In64; omega))
  refine al_ro' (ro_leq (u2 rfl up_h) up_h) ⟨_, rfl, (up_m rfl (u2 rfl hb_4))⟩ rfl ?_
  refine al_ro' (ro_pickT (u4 rfl hb_4) up_h) ⟨_, rfl, (u8 rfl hb_2)⟩ rfl ?_
  refine ar (ro_pickF (up_m rfl (u8 rfl hb_2)) up_h) rfl <| ar (ro_assign up_h) rfl <| ae1 up_h ?_; clear hb_2 hb_4 s0_1 s1_1 s2_1; intro e_5 s6_5
  refine then_n <| aw_ret <| ret1 (.inr rfl) (by kernel_rfl) (resV_tmp s6_5) (.ro _ rfl) ?_
  clear s6_5 ml_0
  (refine avb ?_; simp only [fewB, decide_eq_true_eq, Bool.false_eq_true, true_iff, false_iff]; omega)
 replace hq_4 := bf hq_4
 refine al_skip' ⟨_, rfl, .inl hb_4⟩ rfl ?_
 refine al_skip' ⟨_, rfl, .inl (up_m rfl hb_4)⟩ rfl ?_
 refine al_skip' ⟨_, rfl, .inl (u2 rfl hb_4)⟩ rfl ?_
 refine al_skip' ⟨_, rfl, .inl (up_m rfl (u2 rfl hb_4))⟩ rfl ?_
 refine al_ro' (ro_pickF (u4 rfl hb_4) ev_c) ⟨_, rfl, (u8 rfl hb_2)⟩ rfl ?_
 refine ar (ro_pickF (up_m rfl (u8 rfl hb_2)) up_h) rfl <| ar (ro_assign up_h) rfl <| ae1 up_h ?_; clear hb_2 hb_4 s0_1 s1_1 s2_1; intro e_6 s6_6
 refine then_n <| aw_ret <| ret1 (.inr rfl) (by kernel_rfl) (resV_tmp s6_6) (.ro _ rfl) ?_
 clear s6_6 ml_0
 (refine avb ?_; simp only [fewB, decide_eq_true_eq, Bool.false_eq_true, true_iff, false_iff]; omega)
set_option maxRecDepth 100000 in
set_option maxHeartbeats 1000000 in
theorem lineErr_ok (l : Lin) (hl : Sho l) : FnOk Try.prog 9 [lnA l] (fun q => q = mA (linM l).2) := by
 refine fnOk_of (fn := Try.f9) 11 (by kernel_rfl) rfl (by kernel_rfl) (Nat.le_of_ble_eq_true rfl) ?_
 intro e_0 m_0 hA hm_0
 have s0_0 : evA e_0 (.tmp 0) = _ := hA 0 _ rfl
 have ml_0 : m_0.length = 0 := by rw [hm_0]; rfl
 clear hA hm_0
 refine aw_seq <| at_ <| al_stm (st_box s0_0 rfl ml_0) trivial rfl (fun m_1 hm_1 => ?_)
 have mo0_1 := m_push hm_1 ml_0
 have ml_1 := m_push_l hm_1 ml_0
 have ml_1 : _ = 1 := ml_1
 clear hm_1
 refine ar (ro_assign ev_c) rfl <| ae1 (up_m rfl up_h) ?_; clear s0_0; intro e_2 s1_2
 refine then_n <| aw_seq <| at_ <| ar (ro_eq (ro_ld_ptr y11_ty26 rfl mo0_1 s1_2 (nle rfl)) (by simp only [pS, Value.cells, Nat.reduceAdd] <;> rfl)) rfl ?_
 refine ar (ro_call (evL_cons up_h evL_nil) rfl (rCheckLine_ok l hl) y11_hcf33) rfl <| ar (ro_move up_h) rfl <| ar (ro_extract up_h rfl) rfl <| ar (ro_extract (up_m rfl up_h) rfl) rfl <| al_stm (st_alloc qaz75 rfl ml_1) trivial rfl (fun m_3 hm_3 => ?_)
 have mo1_3 := m_push hm_3 ml_1
 simp only [pS, Value.cells, Nat.reduceAdd] at mo1_3
 have mo0_3 := m_push_o hm_3 mo0_1
 have ml_3 := m_push_l hm_3 ml_1
 have ml_3 : _ = 2 := ml_3
 clear hm_3 mo0_1
 refine al_stm (st_store up_h (u2 rfl up_h) rfl rfl mo1_3 qsz75 rfl (nle rfl)) trivial rfl (fun m_4 hm_4 => ?_)
 have mo1_4 := m_set hm_4 mo1_3
 simp only [pS, Value.cells, Nat.reduceAdd] at mo1_4
 have mo0_4 := m_set_o hm_4 mo0_3 (by decide)
 have ml_4 := m_set_l hm_4 ml_3
 clear hm_4 mo1_3 mo0_3
 refine ar (ro_assign (up_n (up_m rfl up_h))) rfl <| ae1 up_h ?_; clear s1_2; intro e_5 s4_5
 refine then_n <| aw_seq <| at_ <| ar (ro_move s4_5) rfl <| ar (ro_assign up_h) rfl <| ae1 up_h ?_; clear s4_5; intro e_6 s2_6
 refine then_n <| aw_ret <| ret1 (.inr rfl) (by kernel_rfl) (resV_tmp s2_6) (.ro _ rfl) ?_
 clear s2_6 mo1_4 mo0_4 ml_4
 rfl
def misE (n lo hi : Int) : Int := if withinB n lo hi then 0 else 6
def plaP (bs : List Bea) : Nat → Int
 | 0 => 0
 | n + 1 => plaP bs n + (bs.getD n default).len
theorem plaP_bd {bs : List Bea} (h : ∀ j : Nat, j < bs.length → 0 ≤ (bs.getD j default).len ∧ (bs.getD j default).len ≤ 30000) : ∀ {n : Nat}, n ≤ bs.length → 0 ≤ plaP bs n ∧ plaP bs n ≤ 30000 * n
 | 0, _ => by simp [plaP]
 | n + 1, hn => by
  have h1 := plaP_bd h (n := n) (by omega)
  have h2 := h n (by omega)
  simp only [plaP]; omega
set_option maxRecDepth 100000 in
set_option maxHeartbeats 4000000 in
theorem rPlaceOf_ok (l : Lin) (hb : l.bs.length ≤ 1000) (h : ∀ j : Nat, j < l.bs.length → 0 ≤ (l.bs.getD j default).len ∧ (l.bs.getD j default).len ≤ 30000) (n : Int) (hn : 0 ≤ n ∧ n ≤ l.bs.length) : FnOk Try.prog 20 [lnA l, mA n] (fun q => q = mA (plaP l.bs n.toNat)) := by
 refine fnOk_of (fn := Try.f20) 21 (by kernel_rfl) rfl (by kernel_rfl) (Nat.le_of_ble_eq_true rfl) ?_
 intro e_0 m_0 hA hm_0
 have s0_0 : evA e_0 (.tmp 0) = _ := hA 0 _ rfl
 have s1_0 : evA e_0 (.tmp 1) = _ := hA 1 _ rfl
 have ml_0 : m_0.length = 0 := by rw [hm_0]; rfl
 clear hA hm_0
 refine aw_seq <| at_ <| al_stm (st_box s0_0 rfl ml_0) trivial rfl (fun m_1 hm_1 => ?_)
 have mo0_1 := m_push hm_1 ml_0
 have ml_1 := m_push_l hm_1 ml_0
 have ml_1 : _ = 1 := ml_1
 clear hm_1
 refine ar (ro_assign ev_c) rfl <| ae2 (u2 rfl s1_0) (up_m rfl up_h) ?_; clear s0_0 s1_0; intro e_2 s1_2 s2_2
 refine then_n <| aw_seq <| at_ <| ar (ro_assign ev_c) rfl <| ae3 (up_m rfl s1_2) (up_m rfl s2_2) up_h ?_; clear s1_2 s2_2; intro e_3 s1_3 s2_3 s5_3
 refine then_n <| aw_seq <| aw_seq <| at_ <| ar (ro_assign ev_c) rfl <| ae4 (up_m rfl s1_3) (up_m rfl s2_3) (up_m rfl s5_3) up_h ?_; clear s1_3 s2_3 s5_3; intro e_4 s1_4 s2_4 s5_4 s6_4
 refine then_n <| aw_block <| aw_loop (S := (Int × Int)) (fun s e mem => match s with | ⟨k, sm⟩ => (evA e (.tmp 6) = .v (.int .i64 k)) ∧ (evA e (.tmp 5) = .v (.int .i64 sm)) ∧ (evA e (.tmp 1) = evA e_4 (.tmp 1)) ∧ (evA e (.tmp 2) = evA e_4 (.tmp 2)) ∧ (mem[0]? = m_1[0]?) ∧ (mem.length = 1) ∧ ((0 ≤ k ∧ k ≤ n ∧ sm = plaP l.bs k.toNat))) (fun s => match s with | ⟨k, sm⟩ => (n - k).toNat) ⟨_, 0⟩ ⟨s6_4, s5_4, rfl, rfl, rfl, ml_1, ?_⟩ ?_
 ·(exact ⟨by omega, by omega, rfl⟩)
 ·rintro ⟨k, sm⟩ e_5 m_5 ⟨s6_5, s5_5, k1_5, k2_5, mk0_5, ml_5, hinv⟩
  have s1_5 := k1_5.trans s1_4
  have s2_5 := k2_5.trans s2_4
  have mo0_5 := mk0_5.trans mo0_1
  (obtain ⟨p1, p2, p3⟩ := hinv; have hp := plaP_bd h (n := k.toNat) (by omega))
  refine aw_seq <| aw_seq <| at_ <| ar (ro_move s6_5) rfl <| ar (ro_move (up_m rfl s1_5)) rfl <| ar (ro_lss (up_m rfl up_h) up_h) rfl <| ae5 (up_m rfl (u2 rfl s1_5)) (up_m rfl (u2 rfl s2_5)) (up_m rfl (u2 rfl s5_5)) (up_m rfl (u2 rfl s6_5)) up_h ?_; clear s1_5 s2_5 s5_5 s6_5; intro e_6 s1_6 s2_6 s5_6 s6_6 s9_6
  refine then_n <| aw_case s9_6 (fun hq_7 => ?_) (fun hq_7 => ?_)
  ·replace hq_7 := bt hq_7
   (have hk := h k.toNat (by omega))
   refine aw_skip <| then_n <| aw_seq <| aw_block <| at_ <| ar (ro_move s5_6) rfl <| ar (ro_fld_ptr qfl26_2 rfl (up_m rfl s2_6)) rfl <| ar (ro_eq (ro_ld_ptr y11_ty23 rfl mo0_5 up_h (nle rfl)) (by simp only [pS, Value.cells, Nat.reduceAdd, beE] <;> rfl)) rfl ?_
   refine ar (ro_move (up_m rfl (u2 rfl s6_6))) rfl <| ar (ro_eq (ro_ix y11_sl23 (up_m rfl up_h) up_h (by omega) (by first | (refine idx_map ?_; first | omega | (simp only [lnS]; omega)) | (refine idx_mapI ?_; first | omega | (simp only [lnS]; omega)) | (refine idx_mapN ?_; first | omega | (simp only [lnS]; omega)) | rfl)) (by simp only [pS, Value.cells, Nat.reduceAdd, beE] <;> rfl)) rfl ?_
   refine ar (ro_eq (ro_fld_ref qfl69_0 rfl up_h) (by simp only [pS, Value.cells, Nat.reduceAdd, beE] <;> rfl)) rfl ?_
   refine ar (ro_eq (ro_ld_ref y11_ty3 rfl up_h (nle rfl)) (by simp only [pS, Value.cells, Nat.reduceAdd, beE] <;> rfl)) rfl ?_
   (refine ar (ro_add' (u2 rfl (u4 rfl up_h)) up_h ?_) rfl ?_; · (unfold In64; omega))
   refine ar (ro_assign up_h) rfl <| ae4 (up_m rfl (u8 rfl s1_6)) (up_m rfl (u8 rfl s2_6)) up_h (up_m rfl (u8 rfl s6_6)) ?_; clear s1_6 s2_6 s5_6 s6_6 s9_6; intro e_8 s1_8 s2_8 s5_8 s6_8
   refine block_n <| then_n <| at_ <| ar (ro_move s6_8) rfl ?_
   (refine ar (ro_add' up_h ev_c ?_) rfl ?_; · (unfold In64; omega))
   refine ar (ro_assign up_h) rfl <| ae4 (up_m rfl (u2 rfl s1_8)) (up_m rfl (u2 rfl s2_8)) (up_m rfl (u2 rfl s5_8)) up_h ?_; clear s1_8 s2_8 s5_8 s6_8; intro e_9 s1_9 s2_9 s5_9 s6_9
   refine then_n <| ⟨⟨_, _⟩, ⟨s6_9, s5_9, (s1_9.trans s1_4.symm), (s2_9.trans s2_4.symm), (mo0_5.trans mo0_1.symm), ml_5, ?_⟩, ?_⟩
   ·(refine ⟨by omega, by omega, ?_⟩; rw [show (k + 1).toNat = k.toNat + 1 by omega, plaP, p3])
   ·((try dsimp only); omega)
  replace hq_7 := bf hq_7
  refine aw_exit <| then_x <| then_x <| block_hit <| then_n <| aw_seq <| at_ <| ar (ro_move s5_6) rfl <| ar (ro_assign up_h) rfl <| ae1 up_h ?_; clear s1_6 s2_6 s5_6 s6_6 s9_6; intro e_10 s4_10
  refine then_n <| aw_ret <| ret1 (.inr rfl) (by kernel_rfl) (resV_tmp s4_10) (.ro _ rfl) ?_
  clear s4_10 mo0_5 ml_5
  (rw [p3, show k.toNat = n.toNat by omega])
set_option maxRecDepth 100000 in
set_option maxHeartbeats 1000000 in
theorem rLengthOf_ok (l : Lin) (hb : l.bs.length ≤ 1000) (h : ∀ j : Nat, j < l.bs.length → 0 ≤ (l.bs.getD j default).len ∧ (l.bs.getD j default).len ≤ 30000) : FnOk Try.prog 40 [lnA l] (fun q => q = mA (plaP l.bs l.bs.length)) := by
 refine fnOk_of (fn := Try.f40) 8 (by kernel_rfl) rfl (by kernel_rfl) (Nat.le_of_ble_eq_true rfl) ?_
 intro e_0 m_0 hA hm_0
 have s0_0 : evA e_0 (.tmp 0) = _ := hA 0 _ rfl
 have ml_0 : m_0.length = 0 := by rw [hm_0]; rfl
 clear hA hm_0
 refine aw_seq <| at_ <| al_stm (st_box s0_0 rfl ml_0) trivial rfl (fun m_1 hm_1 => ?_)
 have mo0_1 := m_push hm_1 ml_0
 have ml_1 := m_push_l hm_1 ml_0
 have ml_1 : _ = 1 := ml_1
 clear hm_1
 refine ar (ro_assign ev_c) rfl <| ae1 (up_m rfl up_h) ?_; clear s0_0; intro e_2 s1_2
 refine then_n <| aw_seq <| at_ <| ar (ro_eq (ro_ld_ptr y11_ty26 rfl mo0_1 s1_2 (nle rfl)) (by simp only [pS, Value.cells, Nat.reduceAdd] <;> rfl)) rfl ?_
 refine ar (ro_fld_ptr qfl26_2 rfl (up_m rfl s1_2)) rfl <| ar (ro_eq (ro_ld_ptr y11_ty23 rfl mo0_1 up_h (nle rfl)) (by simp only [pS, Value.cells, Nat.reduceAdd] <;> rfl)) rfl ?_
 refine ar (ro_eq (ro_len_row up_h rfl y11_sl23.1) (by simp only [lnS] <;> rfl)) rfl ?_
 refine ar (ro_call (evL_cons (up_m rfl (u2 rfl up_h)) (evL_cons up_h evL_nil)) rfl (rPlaceOf_ok l hb h _ ⟨by omega, by omega⟩) qhcf20) rfl ?_
 refine ar (ro_assign up_h) rfl <| ae1 up_h ?_; clear s1_2; intro e_3 s2_3
 refine then_n <| aw_ret <| ret1 (.inr rfl) (by kernel_rfl) (resV_tmp s2_3) (.ro _ rfl) ?_
 clear s2_3 mo0_1 ml_1
 rfl
theorem y12_hcf26 : ∀ args w, (callFunc 26 args).run Try.prog w = .ok (.enter 26 args) w := fun _ _ => by kernel_rfl
theorem y12_sl22 : SlIs Try.prog 22 66 4 32 (.agg #[.int .i64 0, .int .i64 0, .int .i64 0, .int .i64 0]) := ⟨by kernel_rfl, by kernel_rfl, by kernel_rfl⟩
theorem y12_sl23 : SlIs Try.prog 23 69 2 16 (.agg #[.int .i64 0, .int .i64 0]) := ⟨by kernel_rfl, by kernel_rfl, by kernel_rfl⟩
theorem y12_sl24 : SlIs Try.prog 24 47 3 48 (.agg #[.string ByteArray.empty, .int .i64 0, .slice none 0 0]) := ⟨by kernel_rfl, by kernel_rfl, by kernel_rfl⟩
theorem y12_sl40 : SlIs Try.prog 40 3 1 8 (.int .i64 0) := ⟨by kernel_rfl, by kernel_rfl, by kernel_rfl⟩
theorem y12_ty22 : TyIs Try.prog 22 false 1 := ⟨by kernel_rfl, by kernel_rfl⟩
theorem y12_ty23 : TyIs Try.prog 23 false 1 := ⟨by kernel_rfl, by kernel_rfl⟩
theorem y12_ty24 : TyIs Try.prog 24 false 1 := ⟨by kernel_rfl, by kernel_rfl⟩
theorem y12_ty40 : TyIs Try.prog 40 false 1 := ⟨by kernel_rfl, by kernel_rfl⟩
theorem y12_ty9 : TyIs Try.prog 9 false 1 := ⟨by kernel_rfl, by kernel_rfl⟩
def swF (s : Swi) : Bool := decide (s.nam.size ≤ 20 ∧ s.acr.length ≤ 6)
def few0 (l : Lin) : Bool := decide (l.nam.size ≤ 20 ∧ (l.bs.length ≤ 8 ∨ (40 < l.bs.length ∧ l.bs.length ≤ 43)) ∧ (l.js.length ≤ 9 ∨ (41 < l.js.length ∧ l.js.length ≤ 44)) ∧ l.ss.length ≤ 6)
def fewL (l : Lin) : Bool := few0 l && l.ss.all swF
theorem all_hit {α : Type} [Inhabited α] {p : α → Bool} {l : List α} {j : Nat} (hj : j < l.length) (h : p (l.getD j default) = false) : l.all p = false := by
 rw [List.all_eq_false]
 exact ⟨l[j], List.getElem_mem hj, by rw [List.getD_eq_getElem?_getD, List.getElem?_eq_getElem hj] at h; simpa using h⟩
theorem all_miss {α : Type} [Inhabited α] {p : α → Bool} {l : List α} (h : ∀ j : Nat, j < l.length → p (l.getD j default) = true) : l.all p = true := by
 rw [List.all_eq_true]
 intro x hx
 obtain ⟨j, hj, rfl⟩ := List.getElem_of_mem hx
 have := h j hj
 rwa [List.getD_eq_getElem?_getD, List.getElem?_eq_getElem hj] at this
theorem fewL_sho {l : Lin} (h : fewL l = true) : Sho l := by
 simp only [fewL, few0, Bool.and_eq_true, decide_eq_true_eq, List.all_eq_true, swF] at h
 obtain ⟨⟨a, b, c, d⟩, e⟩ := h
 exact ⟨by omega, by omega, by omega, by omega, fun s hs => by have := e s hs; omega⟩
set_option maxRecDepth 100000 in
set_option maxHeartbeats 4000000 in
theorem fewL_ok (l : Lin) : FnOk Try.prog 6 [lnA l] (fun q => q = tbA (fewL l)) := by
 refine fnOk_of (fn := Try.f6) 53 (by kernel_rfl) rfl (by kernel_rfl) (Nat.le_of_ble_eq_true rfl) ?_
 intro e_0 m_0 hA hm_0
 have s0_0 : evA e_0 (.tmp 0) = _ := hA 0 _ rfl
 have ml_0 : m_0.length = 0 := by rw [hm_0]; rfl
 clear hA hm_0
 refine aw_seq <| at_ <| al_stm (st_box s0_0 rfl ml_0) trivial rfl (fun m_1 hm_1 => ?_)
 have mo0_1 := m_push hm_1 ml_0
 have ml_1 := m_push_l hm_1 ml_0
 have ml_1 : _ = 1 := ml_1
 clear hm_1
 refine ar (ro_assign ev_c) rfl <| ae1 (up_m rfl up_h) ?_; clear s0_0; intro e_2 s1_2
 refine then_n <| aw_seq <| aw_seq <| aw_cut (fun e mem => (evA e (.tmp 27) = .v (.bool (!few0 l))) ∧ (evA e (.tmp 1) = evA e_2 (.tmp 1)) ∧ m_1 = mem) ?_ ?_
 ·
  refine at_ <| ar (ro_fld_ptr qfl26_0 rfl s1_2) rfl <| ar (ro_eq (ro_ld_ptr y12_ty9 rfl mo0_1 up_h (nle rfl)) (by simp only [pS, Value.cells, Nat.reduceAdd, swE] <;> rfl)) rfl ?_
  refine ar (ro_len_str up_h rfl qun9) rfl <| ar (ro_gtr up_h ev_c) rfl <| ar (ro_move up_h) rfl <| al_case up_h (fun hb_4 hq_4 => ?_) (fun hb_4 hq_4 => ?_)
  ·replace hq_4 := bt hq_4
   refine al_skip' ⟨_, rfl, .inl hb_4⟩ rfl ?_
   refine al_skip' ⟨_, rfl, .inl (up_m rfl hb_4)⟩ rfl ?_
   refine al_skip' ⟨_, rfl, .inl (u2 rfl hb_4)⟩ rfl ?_
   refine al_skip' ⟨_, rfl, .inl (up_m rfl (u2 rfl hb_4))⟩ rfl ?_
   refine al_skip' ⟨_, rfl, .inl (u4 rfl hb_4)⟩ rfl ?_
   refine ar (ro_pickT (up_m rfl (u4 rfl hb_4)) ev_c) rfl <| ar (ro_move up_h) rfl <| al_skip' ⟨_, rfl, .inl up_h⟩ rfl ?_
   refine al_skip' ⟨_, rfl, .inl (up_m rfl up_h)⟩ rfl ?_
   refine al_skip' ⟨_, rfl, .inl (u2 rfl up_h)⟩ rfl ?_
   refine al_skip' ⟨_, rfl, .inl (up_m rfl (u2 rfl up_h))⟩ rfl ?_
   refine al_skip' ⟨_, rfl, .inl (u4 rfl up_h)⟩ rfl ?_
   refine ar (ro_pickT (up_m rfl (u4 rfl up_h)) ev_c) rfl <| ar (ro_move up_h) rfl <| al_skip' ⟨_, rfl, .inl up_h⟩ rfl ?_
   refine al_skip' ⟨_, rfl, .inl (up_m rfl up_h)⟩ rfl ?_
   refine al_skip' ⟨_, rfl, .inl (u2 rfl up_h)⟩ rfl ?_
   refine al_skip' ⟨_, rfl, .inl (up_m rfl (u2 rfl up_h))⟩ rfl ?_
   refine ar (ro_pickT (u4 rfl up_h) ev_c) rfl <| ae2 (u8 rfl (u16 rfl s1_2)) up_h ?_; intro e_5 s1_5 s27_5
   refine then_n ⟨(s27_5).trans (by (refine avb ?_; simp only [few0, fewB, Bool.not_eq_true', decide_eq_false_iff_not, decide_eq_true_eq, Bool.false_eq_true, true_iff, false_iff, iff_true, iff_false] at *; omega)), (s1_5).trans (s1_2).symm, rfl⟩
  replace hq_4 := bf hq_4
  refine al_ro' (ro_fld_ptr qfl26_2 rfl (up_m rfl (u4 rfl s1_2))) ⟨_, rfl, hb_4⟩ rfl ?_
  refine al_ro' (ro_eq (ro_ld_ptr y12_ty23 rfl mo0_1 up_h (nle rfl)) (by simp only [pS, Value.cells, Nat.reduceAdd, swE] <;> rfl)) ⟨_, rfl, (up_m rfl hb_4)⟩ rfl ?_
  refine al_ro' (ro_eq (ro_len_row up_h rfl y12_sl23.1) (by simp only [lnS] <;> rfl)) ⟨_, rfl, (u2 rfl hb_4)⟩ rfl ?_
  refine al_ro' (ro_call (evL_cons up_h (evL_cons ev_c (evL_cons ev_c evL_nil))) rfl (few_ok _ _ _ (by decide)) y12_hcf26) ⟨_, rfl, (up_m rfl (u2 rfl hb_4))⟩ rfl ?_
  refine al_ro' (ro_not up_h) ⟨_, rfl, (u4 rfl hb_4)⟩ rfl ?_
  refine ar (ro_pickF (up_m rfl (u4 rfl hb_4)) up_h) rfl <| ar (ro_move up_h) rfl <| al_case up_h (fun hb_6 hq_6 => ?_) (fun hb_6 hq_6 => ?_)
  ·replace hq_6 := bnt hq_6
   refine al_skip' ⟨_, rfl, .inl hb_6⟩ rfl ?_
   refine al_skip' ⟨_, rfl, .inl (up_m rfl hb_6)⟩ rfl ?_
   refine al_skip' ⟨_, rfl, .inl (u2 rfl hb_6)⟩ rfl ?_
   refine al_skip' ⟨_, rfl, .inl (up_m rfl (u2 rfl hb_6))⟩ rfl ?_
   refine al_skip' ⟨_, rfl, .inl (u4 rfl hb_6)⟩ rfl ?_
   refine ar (ro_pickT (up_m rfl (u4 rfl hb_6)) ev_c) rfl <| ar (ro_move up_h) rfl <| al_skip' ⟨_, rfl, .inl up_h⟩ rfl ?_
   refine al_skip' ⟨_, rfl, .inl (up_m rfl up_h)⟩ rfl ?_
   refine al_skip' ⟨_, rfl, .inl (u2 rfl up_h)⟩ rfl ?_
   refine al_skip' ⟨_, rfl, .inl (up_m rfl (u2 rfl up_h))⟩ rfl ?_
   refine ar (ro_pickT (u4 rfl up_h) ev_c) rfl <| ae2 (u8 rfl (u16 rfl s1_2)) up_h ?_; intro e_7 s1_7 s27_7
   refine then_n ⟨(s27_7).trans (by (refine avb ?_; simp only [few0, fewB, Bool.not_eq_true', decide_eq_false_iff_not, decide_eq_true_eq, Bool.false_eq_true, true_iff, false_iff, iff_true, iff_false] at *; omega)), (s1_7).trans (s1_2).symm, rfl⟩
  replace hq_6 := bnf hq_6
  refine al_ro' (ro_fld_ptr qfl26_1 rfl (u4 rfl (u8 rfl s1_2))) ⟨_, rfl, hb_6⟩ rfl ?_
  refine al_ro' (ro_eq (ro_ld_ptr y12_ty22 rfl mo0_1 up_h (nle rfl)) (by simp only [pS, Value.cells, Nat.reduceAdd, swE] <;> rfl)) ⟨_, rfl, (up_m rfl hb_6)⟩ rfl ?_
  refine al_ro' (ro_eq (ro_len_row up_h rfl y12_sl22.1) (by simp only [lnS] <;> rfl)) ⟨_, rfl, (u2 rfl hb_6)⟩ rfl ?_
  refine al_ro' (ro_call (evL_cons up_h (evL_cons ev_c (evL_cons ev_c evL_nil))) rfl (few_ok _ _ _ (by decide)) y12_hcf26) ⟨_, rfl, (up_m rfl (u2 rfl hb_6))⟩ rfl ?_
  refine al_ro' (ro_not up_h) ⟨_, rfl, (u4 rfl hb_6)⟩ rfl ?_
  refine ar (ro_pickF (up_m rfl (u4 rfl hb_6)) up_h) rfl <| ar (ro_move up_h) rfl <| al_case up_h (fun hb_8 hq_8 => ?_) (fun hb_8 hq_8 => ?_)
  ·replace hq_8 := bnt hq_8
   refine al_skip' ⟨_, rfl, .inl hb_8⟩ rfl ?_
   refine al_skip' ⟨_, rfl, .inl (up_m rfl hb_8)⟩ rfl ?_
   refine al_skip' ⟨_, rfl, .inl (u2 rfl hb_8)⟩ rfl ?_
   refine al_skip' ⟨_, rfl, .inl (up_m rfl (u2 rfl hb_8))⟩ rfl ?_
   refine ar (ro_pickT (u4 rfl hb_8) ev_c) rfl <| ae2 (u8 rfl (u16 rfl s1_2)) up_h ?_; intro e_9 s1_9 s27_9
   refine then_n ⟨(s27_9).trans (by (refine avb ?_; simp only [few0, fewB, Bool.not_eq_true', decide_eq_false_iff_not, decide_eq_true_eq, Bool.false_eq_true, true_iff, false_iff, iff_true, iff_false] at *; omega)), (s1_9).trans (s1_2).symm, rfl⟩
  replace hq_8 := bnf hq_8
  refine al_ro' (ro_fld_ptr qfl26_3 rfl (up_m rfl (u2 rfl (u16 rfl s1_2)))) ⟨_, rfl, hb_8⟩ rfl ?_
  refine al_ro' (ro_eq (ro_ld_ptr y12_ty24 rfl mo0_1 up_h (nle rfl)) (by simp only [pS, Value.cells, Nat.reduceAdd, swE] <;> rfl)) ⟨_, rfl, (up_m rfl hb_8)⟩ rfl ?_
  refine al_ro' (ro_eq (ro_len_row up_h rfl y12_sl24.1) (by simp only [lnS] <;> rfl)) ⟨_, rfl, (u2 rfl hb_8)⟩ rfl ?_
  refine al_ro' (ro_gtr up_h ev_c) ⟨_, rfl, (up_m rfl (u2 rfl hb_8))⟩ rfl ?_
  refine ar (ro_pickF (u4 rfl hb_8) up_h) rfl <| ae2 (u8 rfl (u16 rfl s1_2)) up_h ?_; intro e_10 s1_10 s27_10
  refine then_n ⟨(s27_10).trans (by (refine avb ?_; simp only [few0, fewB, Bool.not_eq_true', decide_eq_false_iff_not, decide_eq_true_eq, Bool.false_eq_true, true_iff, false_iff, iff_true, iff_false] at *; omega)), (s1_10).trans (s1_2).symm, rfl⟩
 ·rintro e_3 _ ⟨s27_3, k1_3, rfl⟩
  have s1_3 := k1_3.trans s1_2
  refine aw_case s27_3 (fun hq_11 => ?_) (fun hq_11 => ?_)
  ·replace hq_11 := bnt hq_11
   refine aw_seq <| at_ <| ar (ro_assign ev_c) rfl <| ae1 up_h ?_; clear s1_3 s27_3; intro e_12 s2_12
   refine then_n <| aw_ret <| then_r <| ret1 (.inr rfl) (by kernel_rfl) (resV_tmp s2_12) (.ro _ rfl) ?_
   clear s2_12 mo0_1 ml_1
   (have e : few0 l = false := (by unfold few0; rw [decide_eq_false_iff_not]; first | assumption | omega); rw [fewL, e]; rfl)
  replace hq_11 := bnf hq_11
  (have hf0 : few0 l = true := (by unfold few0; rw [decide_eq_true_eq]; first | assumption | omega); have hss : l.ss.length ≤ 6 := (by simp only [few0, decide_eq_true_eq] at hf0; exact hf0.2.2.2))
  refine aw_skip <| then_n <| aw_seq <| aw_seq <| at_ <| ar (ro_assign ev_c) rfl <| ae2 (up_m rfl s1_3) up_h ?_; clear s1_3 s27_3; intro e_13 s1_13 s3_13
  refine then_n <| aw_block <| aw_loop (S := Int) (fun k e mem => (evA e (.tmp 3) = .v (.int .i64 k)) ∧ (evA e (.tmp 1) = evA e_13 (.tmp 1)) ∧ (mem[0]? = m_1[0]?) ∧ (mem.length = 1) ∧ ((0 ≤ k ∧ k ≤ l.ss.length ∧ ∀ j : Nat, j < k.toNat → swF (l.ss.getD j default) = true))) (fun k => (l.ss.length - k).toNat) _ ⟨s3_13, rfl, rfl, ml_1, ?_⟩ ?_
  ·(exact ⟨by omega, by omega, fun j h => absurd h (by omega)⟩)
  ·rintro k e_14 m_14 ⟨s3_14, k1_14, mk0_14, ml_14, hinv⟩
   have s1_14 := k1_14.trans s1_13
   have mo0_14 := mk0_14.trans mo0_1
   (obtain ⟨p1, p2, p3⟩ := hinv)
   refine aw_seq <| aw_seq <| at_ <| ar (ro_move s3_14) rfl <| ar (ro_fld_ptr qfl26_3 rfl (up_m rfl s1_14)) rfl <| ar (ro_eq (ro_ld_ptr y12_ty24 rfl mo0_14 up_h (nle rfl)) (by simp only [pS, Value.cells, Nat.reduceAdd, swE] <;> rfl)) rfl ?_
   refine ar (ro_eq (ro_len_row up_h rfl y12_sl24.1) (by simp only [lnS] <;> rfl)) rfl ?_
   refine ar (ro_lss (up_m rfl (u2 rfl up_h)) up_h) rfl <| ae3 (up_m rfl (u4 rfl s1_14)) (up_m rfl (u4 rfl s3_14)) up_h ?_; clear s1_14 s3_14; intro e_15 s1_15 s3_15 s32_15
   refine then_n <| aw_case s32_15 (fun hq_16 => ?_) (fun hq_16 => ?_)
   ·replace hq_16 := bt hq_16
    refine aw_skip <| then_n <| aw_seq <| aw_block <| aw_seq <| aw_cut (fun e mem => (evA e (.tmp 52) = .v (.bool (!swF (l.ss.getD k.toNat default)))) ∧ (evA e (.tmp 1) = evA e_15 (.tmp 1)) ∧ (evA e (.tmp 3) = evA e_15 (.tmp 3)) ∧ m_14 = mem) ?_ ?_
    ·
     refine at_ <| ar (ro_fld_ptr qfl26_3 rfl s1_15) rfl <| ar (ro_eq (ro_ld_ptr y12_ty24 rfl mo0_14 up_h (nle rfl)) (by simp only [pS, Value.cells, Nat.reduceAdd, swE] <;> rfl)) rfl ?_
     refine ar (ro_move (u2 rfl s3_15)) rfl <| ar (ro_eq (ro_ix y12_sl24 (up_m rfl up_h) up_h (by omega) (by first | (refine idx_map ?_; first | omega | (simp only [lnS]; omega)) | (refine idx_mapI ?_; first | omega | (simp only [lnS]; omega)) | (refine idx_mapN ?_; first | omega | (simp only [lnS]; omega)) | rfl)) (by simp only [pS, Value.cells, Nat.reduceAdd, swE] <;> rfl)) rfl ?_
     refine ar (ro_eq (ro_fld_ref qfl47_0 rfl up_h) (by simp only [pS, Value.cells, Nat.reduceAdd, swE] <;> rfl)) rfl ?_
     refine ar (ro_eq (ro_ld_ref y12_ty9 rfl up_h (nle rfl)) (by simp only [pS, Value.cells, Nat.reduceAdd, swE] <;> rfl)) rfl ?_
     refine ar (ro_len_str up_h rfl qun9) rfl <| ar (ro_gtr up_h ev_c) rfl <| ar (ro_move up_h) rfl <| al_case up_h (fun hb_18 hq_18 => ?_) (fun hb_18 hq_18 => ?_)
     ·replace hq_18 := bt hq_18
      refine al_skip' ⟨_, rfl, .inl hb_18⟩ rfl ?_
      refine al_skip' ⟨_, rfl, .inl (up_m rfl hb_18)⟩ rfl ?_
      refine al_skip' ⟨_, rfl, .inl (u2 rfl hb_18)⟩ rfl ?_
      refine al_skip' ⟨_, rfl, .inl (up_m rfl (u2 rfl hb_18))⟩ rfl ?_
      refine al_skip' ⟨_, rfl, .inl (u4 rfl hb_18)⟩ rfl ?_
      refine al_skip' ⟨_, rfl, .inl (up_m rfl (u4 rfl hb_18))⟩ rfl ?_
      refine al_skip' ⟨_, rfl, .inl (u2 rfl (u4 rfl hb_18))⟩ rfl ?_
      refine al_skip' ⟨_, rfl, .inl (up_m rfl (u2 rfl (u4 rfl hb_18)))⟩ rfl ?_
      refine ar (ro_pickT (u8 rfl hb_18) ev_c) rfl <| ae3 (u2 rfl (u16 rfl s1_15)) (u2 rfl (u16 rfl s3_15)) up_h ?_; intro e_19 s1_19 s3_19 s52_19
      refine then_n ⟨(s52_19).trans (by (refine avb ?_; simp only [swF, Bool.not_eq_true', decide_eq_false_iff_not, decide_eq_true_eq, Bool.false_eq_true, true_iff, false_iff]; omega)), (s1_19).trans (s1_15).symm, (s3_19).trans (s3_15).symm, rfl⟩
     replace hq_18 := bf hq_18
     refine al_ro' (ro_fld_ptr qfl26_3 rfl (up_m rfl (u8 rfl s1_15))) ⟨_, rfl, hb_18⟩ rfl ?_
     refine al_ro' (ro_eq (ro_ld_ptr y12_ty24 rfl mo0_14 up_h (nle rfl)) (by simp only [pS, Value.cells, Nat.reduceAdd, swE] <;> rfl)) ⟨_, rfl, (up_m rfl hb_18)⟩ rfl ?_
     refine al_ro' (ro_move (up_m rfl (u2 rfl (u8 rfl s3_15)))) ⟨_, rfl, (u2 rfl hb_18)⟩ rfl ?_
     refine al_ro' (ro_eq (ro_ix y12_sl24 (up_m rfl up_h) up_h (by omega) (by first | (refine idx_map ?_; first | omega | (simp only [lnS]; omega)) | (refine idx_mapI ?_; first | omega | (simp only [lnS]; omega)) | (refine idx_mapN ?_; first | omega | (simp only [lnS]; omega)) | rfl)) (by simp only [pS, Value.cells, Nat.reduceAdd, swE] <;> rfl)) ⟨_, rfl, (up_m rfl (u2 rfl hb_18))⟩ rfl ?_
     refine al_ro' (ro_eq (ro_fld_ref qfl47_2 rfl up_h) (by simp only [pS, Value.cells, Nat.reduceAdd, swE] <;> rfl)) ⟨_, rfl, (u4 rfl hb_18)⟩ rfl ?_
     refine al_ro' (ro_eq (ro_ld_ref y12_ty40 rfl up_h (nle rfl)) (by simp only [pS, Value.cells, Nat.reduceAdd, swE] <;> rfl)) ⟨_, rfl, (up_m rfl (u4 rfl hb_18))⟩ rfl ?_
     refine al_ro' (ro_eq (ro_len_row up_h rfl y12_sl40.1) (by simp only [lnS] <;> rfl)) ⟨_, rfl, (u2 rfl (u4 rfl hb_18))⟩ rfl ?_
     refine al_ro' (ro_gtr up_h ev_c) ⟨_, rfl, (up_m rfl (u2 rfl (u4 rfl hb_18)))⟩ rfl ?_
     refine ar (ro_pickF (u8 rfl hb_18) up_h) rfl <| ae3 (u2 rfl (u16 rfl s1_15)) (u2 rfl (u16 rfl s3_15)) up_h ?_; intro e_20 s1_20 s3_20 s52_20
     refine then_n ⟨(s52_20).trans (by (refine avb ?_; simp only [swF, Bool.not_eq_true', decide_eq_false_iff_not, decide_eq_true_eq, Bool.false_eq_true, true_iff, false_iff]; omega)), (s1_20).trans (s1_15).symm, (s3_20).trans (s3_15).symm, rfl⟩
    ·rintro e_17 _ ⟨s52_17, k1_17, k3_17, rfl⟩
     have s1_17 := k1_17.trans s1_15
     have s3_17 := k3_17.trans s3_15
     refine aw_case s52_17 (fun hq_21 => ?_) (fun hq_21 => ?_)
     ·replace hq_21 := bnt hq_21
      refine aw_seq <| at_ <| ar (ro_assign ev_c) rfl <| ae1 up_h ?_; clear s1_17 s3_17 s52_17; intro e_22 s2_22
      refine then_n <| aw_ret <| block_r <| then_r <| then_r <| block_r <| then_r <| ret1 (.inr rfl) (by kernel_rfl) (resV_tmp s2_22) (.ro _ rfl) ?_
      clear s2_22 mo0_14 ml_14
      (rw [fewL, hf0, all_hit (j := k.toNat) (by omega) (by first | assumption | (unfold swF; rw [decide_eq_false_iff_not]; first | assumption | omega))]; rfl)
     replace hq_21 := bnf hq_21
     refine aw_skip <| block_n <| then_n <| at_ <| ar (ro_move s3_17) rfl ?_
     (refine ar (ro_add' up_h ev_c ?_) rfl ?_; · (unfold In64; omega))
     refine ar (ro_assign up_h) rfl <| ae2 (up_m rfl (u2 rfl s1_17)) up_h ?_; clear s1_17 s3_17 s52_17; intro e_23 s1_23 s3_23
     refine then_n <| ⟨_, ⟨s3_23, (s1_23.trans s1_13.symm), (mo0_14.trans mo0_1.symm), ml_14, ?_⟩, ?_⟩
     ·(refine ⟨by omega, by omega, fun j hj => ?_⟩; by_cases hji : j < k.toNat; (exact p3 j hji); (rw [show j = k.toNat by omega]; first | assumption | (unfold swF; rw [decide_eq_true_eq]; first | assumption | omega)))
     ·((try dsimp only); omega)
   replace hq_16 := bf hq_16
   refine aw_exit <| then_x <| then_x <| block_hit <| then_n <| aw_seq <| at_ <| ar (ro_assign ev_c) rfl <| ae1 up_h ?_; clear s1_15 s32_15 s3_15; intro e_24 s2_24
   refine then_n <| aw_ret <| ret1 (.inr rfl) (by kernel_rfl) (resV_tmp s2_24) (.ro _ rfl) ?_
   clear s2_24 mo0_14 ml_14
   (rw [fewL, hf0, all_miss (fun j hj => p3 j (by omega))]; rfl)
theorem y13_hcf32 : ∀ args w, (callFunc 32 args).run Try.prog w = .ok (.enter 32 args) w := fun _ _ => by kernel_rfl
theorem y13_sl22 : SlIs Try.prog 22 66 4 32 (.agg #[.int .i64 0, .int .i64 0, .int .i64 0, .int .i64 0]) := ⟨by kernel_rfl, by kernel_rfl, by kernel_rfl⟩
theorem y13_sl23 : SlIs Try.prog 23 69 2 16 (.agg #[.int .i64 0, .int .i64 0]) := ⟨by kernel_rfl, by kernel_rfl, by kernel_rfl⟩
theorem y13_sl24 : SlIs Try.prog 24 47 3 48 (.agg #[.string ByteArray.empty, .int .i64 0, .slice none 0 0]) := ⟨by kernel_rfl, by kernel_rfl, by kernel_rfl⟩
theorem y13_sl40 : SlIs Try.prog 40 3 1 8 (.int .i64 0) := ⟨by kernel_rfl, by kernel_rfl, by kernel_rfl⟩
theorem y13_sz22 : (Try.prog.info? 22).map (·.size) = some 1 := by kernel_rfl
theorem y13_sz23 : (Try.prog.info? 23).map (·.size) = some 1 := by kernel_rfl
theorem y13_ty22 : TyIs Try.prog 22 false 1 := ⟨by kernel_rfl, by kernel_rfl⟩
theorem y13_ty23 : TyIs Try.prog 23 false 1 := ⟨by kernel_rfl, by kernel_rfl⟩
theorem y13_ty24 : TyIs Try.prog 24 false 1 := ⟨by kernel_rfl, by kernel_rfl⟩
theorem y13_ty26 : TyIs Try.prog 26 true 4 := ⟨by kernel_rfl, by kernel_rfl⟩
theorem y13_ty40 : TyIs Try.prog 40 false 1 := ⟨by kernel_rfl, by kernel_rfl⟩
theorem y13_ty47 : TyIs Try.prog 47 true 3 := ⟨by kernel_rfl, by kernel_rfl⟩
theorem one_swE (a : ByteArray) (b : Int) (c : List Int) : [[AV.v (.string a), AV.v (.int .i64 b), AV.row 1 (c.map iE)]] = [(⟨a, b, c⟩ : Swi)].map swE := rfl
theorem take_suc {l : List Swi} {i : Int} (h0 : 0 ≤ i) (h : i < l.length) : l.take (i + 1).toNat = l.take i.toNat ++ [l.getD i.toNat default] := by
 rw [show (i + 1).toNat = i.toNat + 1 by omega, List.take_add_one, List.getElem?_eq_getElem (by omega : i.toNat < l.length), List.getD_eq_getElem?_getD, List.getElem?_eq_getElem (by omega : i.toNat < l.length)]
 rfl
set_option maxRecDepth 100000 in
set_option maxHeartbeats 1000000 in
theorem yCopyInts_ok (xs : List Int) (hc : xs.length ≤ 1000000) : FnOk Try.prog 32 [.row 1 (xs.map iE)] (fun q => q = .row 1 (xs.map iE)) := by
 refine fnOk_of (fn := Try.f32) 6 (by kernel_rfl) rfl (by kernel_rfl) (Nat.le_of_ble_eq_true rfl) ?_
 intro e_0 m_0 hA hm_0
 have s0_0 : evA e_0 (.tmp 0) = _ := hA 0 _ rfl
 have ml_0 : m_0.length = 0 := by rw [hm_0]; rfl
 clear hA hm_0
 refine aw_seq <| at_ <| ar (ro_assign ev_c) rfl <| ae1 (up_m rfl s0_0) ?_; clear s0_0; intro e_1 s0_1
 refine then_n <| aw_seq <| at_ <| ar (ro_lit0 y13_sl40) rfl <| ar (ro_move (up_m rfl s0_1)) rfl <| ar (ro_ape y13_sl40 rfl (up_m rfl up_h) up_h (by simp only [lnS] <;> omega)) rfl ?_
 refine ar (ro_assign up_h) rfl <| ae1 up_h ?_; clear s0_1; intro e_2 s2_2
 refine then_n <| aw_ret <| ret1 (.inr rfl) (by kernel_rfl) (resV_tmp s2_2) (.ro _ rfl) ?_
 clear s2_2 ml_0
 rfl
set_option maxRecDepth 100000 in
set_option maxHeartbeats 4000000 in
theorem yCopy_ok (l : Lin) (hl : Sho l) : FnOk Try.prog 8 [lnA l] (fun q => q = lnA l) := by
 obtain ⟨h1, h2, h3, h4, h5⟩ := id hl
 refine fnOk_of (fn := Try.f8) 39 (by kernel_rfl) rfl (by kernel_rfl) (Nat.le_of_ble_eq_true rfl) ?_
 intro e_0 m_0 hA hm_0
 have s0_0 : evA e_0 (.tmp 0) = _ := hA 0 _ rfl
 have ml_0 : m_0.length = 0 := by rw [hm_0]; rfl
 clear hA hm_0
 refine aw_seq <| at_ <| al_stm (st_box s0_0 rfl ml_0) trivial rfl (fun m_1 hm_1 => ?_)
 have mo0_1 := m_push hm_1 ml_0
 have ml_1 := m_push_l hm_1 ml_0
 have ml_1 : _ = 1 := ml_1
 clear hm_1
 refine al_stm (st_alloc qaz26 rfl ml_1) trivial rfl (fun m_2 hm_2 => ?_)
 have mo1_2 := m_push hm_2 ml_1
 simp only [pS, Value.cells, Nat.reduceAdd, swE, one_swE, app_m] at mo1_2
 have mo0_2 := m_push_o hm_2 mo0_1
 have ml_2 := m_push_l hm_2 ml_1
 have ml_2 : _ = 2 := ml_2
 clear hm_2 mo0_1
 refine ae2 (up_m rfl up_h) up_h ?_; clear s0_0; intro e_3 s1_3 s2_3
 refine then_n <| aw_seq <| at_ <| ar (ro_lit0 y13_sl22) rfl <| ar (ro_fld_ptr qfl26_1 rfl (up_m rfl s1_3)) rfl <| ar (ro_eq (ro_ld_ptr y13_ty22 rfl mo0_2 up_h (nle rfl)) (by simp only [pS, Value.cells, Nat.reduceAdd, swE, one_swE, app_m] <;> rfl)) rfl ?_
 refine ar (ro_ape y13_sl22 rfl (u2 rfl up_h) up_h (by simp only [lnS] <;> omega)) rfl ?_
 refine ar (ro_fld_ptr qfl26_1 rfl (u4 rfl s1_3)) rfl <| al_stm (st_store up_h (up_m rfl up_h) rfl rfl mo0_2 y13_sz22 rfl (nle rfl)) trivial rfl (fun m_4 hm_4 => ?_)
 have mo0_4 := m_set hm_4 mo0_2
 simp only [pS, Value.cells, Nat.reduceAdd, swE, one_swE, app_m] at mo0_4
 have mo1_4 := m_set_o hm_4 mo1_2 (by decide)
 have ml_4 := m_set_l hm_4 ml_2
 clear hm_4 mo1_2 mo0_2
 refine ae2 (up_n (up_m rfl (u4 rfl s1_3))) (up_n (up_m rfl (u4 rfl s2_3))) ?_; clear s1_3 s2_3; intro e_5 s1_5 s2_5
 refine then_n <| aw_seq <| at_ <| ar (ro_lit0 y13_sl23) rfl <| ar (ro_fld_ptr qfl26_2 rfl (up_m rfl s1_5)) rfl <| ar (ro_eq (ro_ld_ptr y13_ty23 rfl mo0_4 up_h (nle rfl)) (by simp only [pS, Value.cells, Nat.reduceAdd, swE, one_swE, app_m] <;> rfl)) rfl ?_
 refine ar (ro_ape y13_sl23 rfl (u2 rfl up_h) up_h (by simp only [lnS] <;> omega)) rfl ?_
 refine ar (ro_fld_ptr qfl26_2 rfl (u4 rfl s1_5)) rfl <| al_stm (st_store up_h (up_m rfl up_h) rfl rfl mo0_4 y13_sz23 rfl (nle rfl)) trivial rfl (fun m_6 hm_6 => ?_)
 have mo0_6 := m_set hm_6 mo0_4
 simp only [pS, Value.cells, Nat.reduceAdd, swE, one_swE, app_m] at mo0_6
 have mo1_6 := m_set_o hm_6 mo1_4 (by decide)
 have ml_6 := m_set_l hm_6 ml_4
 clear hm_6 mo0_4 mo1_4
 refine ae2 (up_n (up_m rfl (u4 rfl s1_5))) (up_n (up_m rfl (u4 rfl s2_5))) ?_; clear s1_5 s2_5; intro e_7 s1_7 s2_7
 refine then_n <| aw_seq <| at_ <| ar (ro_assign ev_c) rfl <| ae3 (up_m rfl s1_7) (up_m rfl s2_7) up_h ?_; clear s1_7 s2_7; intro e_8 s1_8 s2_8 s3_8
 refine then_n <| aw_seq <| aw_seq <| at_ <| ar (ro_assign ev_c) rfl <| ae4 (up_m rfl s1_8) (up_m rfl s2_8) (up_m rfl s3_8) up_h ?_; clear s1_8 s2_8 s3_8; intro e_9 s1_9 s2_9 s3_9 s4_9
 refine then_n <| aw_block <| aw_adopt 47 3 s3_9 ml_6 (fun m_10 e_10 hm_10 he_10 => ?_)
 have mo2_10 := m_push hm_10 ml_6
 have mo0_10 := m_push_o hm_10 mo0_6
 have mo1_10 := m_push_o hm_10 mo1_6
 have ml_10 := m_push_l hm_10 ml_6
 have ml_10 : _ = 3 := ml_10
 have s1_10 : evA e_10 (.tmp 1) = _ := (congrArg (fun q => evA q (.tmp 1)) he_10).trans (up_m rfl s1_9)
 have s2_10 : evA e_10 (.tmp 2) = _ := (congrArg (fun q => evA q (.tmp 2)) he_10).trans (up_m rfl s2_9)
 have s3_10 : evA e_10 (.tmp 3) = _ := (congrArg (fun q => evA q (.tmp 3)) he_10).trans up_h
 have s4_10 : evA e_10 (.tmp 4) = _ := (congrArg (fun q => evA q (.tmp 4)) he_10).trans (up_m rfl s4_9)
 clear hm_10 he_10
 refine aw_loop (S := (Int × List Swi)) (fun s e mem => match s with | ⟨k, xs⟩ => (evA e (.tmp 4) = .v (.int .i64 k)) ∧ (evA e (.tmp 1) = evA e_10 (.tmp 1)) ∧ (evA e (.tmp 2) = evA e_10 (.tmp 2)) ∧ (mem[0]? = m_10[0]?) ∧ (mem[1]? = m_10[1]?) ∧ (∃ j, evA e (.tmp 3) = .own j ∧ mem[j]? = some (.row 47 3 (xs.map swE)) ∧ j ≠ 0 ∧ j ≠ 1) ∧ (∃ n, mem.length = n ∧ 3 ≤ n) ∧ ((0 ≤ k ∧ k ≤ l.ss.length ∧ xs = l.ss.take k.toNat))) (fun s => match s with | ⟨k, xs⟩ => (l.ss.length - k).toNat) ⟨_, []⟩ ⟨s4_10, rfl, rfl, rfl, rfl, ⟨_, s3_10, mo2_10, (by decide), (by decide)⟩, ⟨_, ml_10, Nat.le_refl _⟩, ?_⟩ ?_
 ·(exact ⟨by omega, by omega, rfl⟩)
 ·rintro ⟨k, xs⟩ e_11 m_11 ⟨s4_11, k1_11, k2_11, mk0_11, mk1_11, ⟨j3_11, s3_11, mo_j3_11, nj3_0_11, nj3_1_11⟩, ⟨n_11, ml_11, hn_11⟩, hinv⟩
  have s1_11 := k1_11.trans s1_10
  have s2_11 := k2_11.trans s2_10
  have mo0_11 := mk0_11.trans mo0_10
  have mo1_11 := mk1_11.trans mo1_10
  have jl3_11 := m_lt mo_j3_11 ml_11
  (obtain ⟨p1, p2, p3⟩ := hinv; have hso := hl.at k.toNat; have hxl : xs.length ≤ 1000000 := (by rw [p3, List.length_take]; omega))
  refine aw_seq <| aw_seq <| at_ <| ar (ro_move s4_11) rfl <| ar (ro_fld_ptr qfl26_3 rfl (up_m rfl s1_11)) rfl <| ar (ro_eq (ro_ld_ptr y13_ty24 rfl mo0_11 up_h (nle rfl)) (by simp only [pS, Value.cells, Nat.reduceAdd, swE, one_swE, app_m] <;> rfl)) rfl ?_
  refine ar (ro_eq (ro_len_row up_h rfl y13_sl24.1) (by simp only [lnS] <;> rfl)) rfl ?_
  refine ar (ro_lss (up_m rfl (u2 rfl up_h)) up_h) rfl <| ae5 (up_m rfl (u4 rfl s1_11)) (up_m rfl (u4 rfl s2_11)) (up_m rfl (u4 rfl s3_11)) (up_m rfl (u4 rfl s4_11)) up_h ?_; clear s1_11 s2_11 s3_11 s4_11; intro e_12 s1_12 s2_12 s3_12 s4_12 s20_12
  refine then_n <| aw_case s20_12 (fun hq_13 => ?_) (fun hq_13 => ?_)
  ·replace hq_13 := bt hq_13
   refine aw_skip <| then_n <| aw_seq <| aw_block <| aw_seq <| at_ <| ar (ro_fld_ptr qfl26_3 rfl s1_12) rfl <| ar (ro_eq (ro_ld_ptr y13_ty24 rfl mo0_11 up_h (nle rfl)) (by simp only [pS, Value.cells, Nat.reduceAdd, swE, one_swE, app_m] <;> rfl)) rfl ?_
   refine ar (ro_move (u2 rfl s4_12)) rfl <| ar (ro_eq (ro_ix y13_sl24 (up_m rfl up_h) up_h (by omega) (by first | (refine idx_map ?_; first | omega | (simp only [lnS]; omega)) | (refine idx_mapI ?_; first | omega | (simp only [lnS]; omega)) | (refine idx_mapN ?_; first | omega | (simp only [lnS]; omega)) | rfl)) (by simp only [pS, Value.cells, Nat.reduceAdd, swE, one_swE, app_m] <;> rfl)) rfl ?_
   refine ar (ro_eq (ro_ld_ref y13_ty47 rfl up_h (nle rfl)) (by simp only [pS, Value.cells, Nat.reduceAdd, swE, one_swE, app_m] <;> rfl)) rfl ?_
   refine al_stm (st_alloc qaz47 rfl ml_11) trivial rfl (fun m_14 hm_14 => ?_)
   have mon_11_14 := m_push hm_14 ml_11
   simp only [pS, Value.cells, Nat.reduceAdd, swE, one_swE, app_m] at mon_11_14
   have mo0_14 := m_push_o hm_14 mo0_11
   have mo1_14 := m_push_o hm_14 mo1_11
   have moj3_11_14 := m_push_o hm_14 mo_j3_11
   have ml_14 := m_push_l hm_14 ml_11
   clear hm_14 mo0_11 mo1_11 mo_j3_11
   refine al_stm (st_store up_h (up_m rfl up_h) rfl rfl mon_11_14 qsz47 rfl (nle rfl)) trivial rfl (fun m_15 hm_15 => ?_)
   have mon_11_15 := m_set hm_15 mon_11_14
   simp only [pS, Value.cells, Nat.reduceAdd, swE, one_swE, app_m] at mon_11_15
   have mo0_15 := m_set_o hm_15 mo0_14 (by omega)
   have mo1_15 := m_set_o hm_15 mo1_14 (by omega)
   have moj3_11_15 := m_set_o hm_15 moj3_11_14 (by omega)
   have ml_15 := m_set_l hm_15 ml_14
   clear hm_15 mon_11_14 mo0_14 mo1_14 moj3_11_14
   refine ae5 (up_n (u2 rfl (u4 rfl s1_12))) (up_n (u2 rfl (u4 rfl s2_12))) (up_n (u2 rfl (u4 rfl s3_12))) (up_n (u2 rfl (u4 rfl s4_12))) (up_n up_h) ?_; clear s1_12 s20_12 s2_12 s3_12 s4_12; intro e_16 s1_16 s2_16 s3_16 s4_16 s5_16
   refine then_n <| aw_seq <| at_ <| ar (ro_fld_ptr qfl47_2 rfl s5_16) rfl <| ar (ro_eq (ro_ld_ptr y13_ty40 rfl mon_11_15 up_h (nle rfl)) (by simp only [pS, Value.cells, Nat.reduceAdd, swE, one_swE, app_m] <;> rfl)) rfl ?_
   refine ar (ro_call (evL_cons up_h evL_nil) rfl (yCopyInts_ok _ (by omega)) y13_hcf32) rfl ?_
   refine ar (ro_fld_ptr qfl47_2 rfl (up_m rfl (u2 rfl s5_16))) rfl <| al_stm (st_store up_h (up_m rfl up_h) rfl rfl mon_11_15 qsz40 rfl (nle rfl)) trivial rfl (fun m_17 hm_17 => ?_)
   have mon_11_17 := m_set hm_17 mon_11_15
   simp only [pS, Value.cells, Nat.reduceAdd, swE, one_swE, app_m] at mon_11_17
   have mo0_17 := m_set_o hm_17 mo0_15 (by omega)
   have mo1_17 := m_set_o hm_17 mo1_15 (by omega)
   have moj3_11_17 := m_set_o hm_17 moj3_11_15 (by omega)
   have ml_17 := m_set_l hm_17 ml_15
   clear hm_17 mon_11_15 mo0_15 mo1_15 moj3_11_15
   refine ae5 (up_n (u4 rfl s1_16)) (up_n (u4 rfl s2_16)) (up_n (u4 rfl s3_16)) (up_n (u4 rfl s4_16)) (up_n (u4 rfl s5_16)) ?_; clear s1_16 s2_16 s3_16 s4_16 s5_16; intro e_18 s1_18 s2_18 s3_18 s4_18 s5_18
   refine then_n <| at_ <| ar (ro_move s3_18) rfl <| ar (ro_eq (ro_ld_ptr y13_ty47 rfl mon_11_17 (up_m rfl s5_18) (nle rfl)) (by simp only [pS, Value.cells, Nat.reduceAdd, swE, one_swE, app_m] <;> rfl)) rfl ?_
   refine ar (ro_lit y13_sl24 (evP_cons up_h evP_nil) rfl rfl rfl rfl) rfl <| al_stm (st_app y13_sl24 rfl ml_17 moj3_11_17 (u2 rfl up_h) up_h (by rfl) (by simp only [lnS] <;> omega)) trivial rfl (fun m_19 hm_19 => ?_)
   have mon_11_1_19 := m_swap hm_19 ml_17
   simp only [pS, Value.cells, Nat.reduceAdd, swE, one_swE, app_m] at mon_11_1_19
   have mon_11_19 := m_swap_o hm_19 mon_11_17 (by omega)
   have mo0_19 := m_swap_o hm_19 mo0_17 (by omega)
   have mo1_19 := m_swap_o hm_19 mo1_17 (by omega)
   have ml_19 := m_swap_l hm_19 ml_17
   clear hm_19 mon_11_17 mo0_17 mo1_17 moj3_11_17
   refine ar (ro_assign up_h) rfl <| ae4 (up_m rfl (u4 rfl s1_18)) (up_m rfl (u4 rfl s2_18)) up_h (up_m rfl (u4 rfl s4_18)) ?_; clear s1_18 s2_18 s3_18 s4_18 s5_18; intro e_20 s1_20 s2_20 s3_20 s4_20
   refine block_n <| then_n <| at_ <| ar (ro_move s4_20) rfl ?_
   (refine ar (ro_add' up_h ev_c ?_) rfl ?_; · (unfold In64; omega))
   refine ar (ro_assign up_h) rfl <| ae4 (up_m rfl (u2 rfl s1_20)) (up_m rfl (u2 rfl s2_20)) (up_m rfl (u2 rfl s3_20)) up_h ?_; clear s1_20 s2_20 s3_20 s4_20; intro e_21 s1_21 s2_21 s3_21 s4_21
   refine then_n <| ⟨⟨_, _⟩, ⟨s4_21, (s1_21.trans s1_10.symm), (s2_21.trans s2_10.symm), (mo0_19.trans mo0_10.symm), (mo1_19.trans mo1_10.symm), ⟨_, s3_21, mon_11_1_19, (by omega), (by omega)⟩, ⟨_, ml_19, by omega⟩, ?_⟩, ?_⟩
   ·(refine ⟨by omega, by omega, ?_⟩; rw [take_suc p1 (by omega), ← p3])
   ·((try dsimp only); omega)
  replace hq_13 := bf hq_13
  refine aw_exit <| then_x <| then_x <| block_hit <| then_n <| aw_seq <| at_ <| ar (ro_move s3_12) rfl <| ar (ro_fld_ptr qfl26_3 rfl (up_m rfl s1_12)) rfl <| al_stm (st_store_own up_h (up_m rfl up_h) mo0_11 mo_j3_11 qsz24 (nle rfl)) trivial rfl (fun m_22 hm_22 => ?_)
  have mo0_22 := m_set hm_22 mo0_11
  simp only [pS, Value.cells, Nat.reduceAdd, swE, one_swE, app_m] at mo0_22
  have mo1_22 := m_set_o hm_22 mo1_11 (by decide)
  have moj3_11_22 := m_set_o hm_22 mo_j3_11 (by omega)
  have ml_22 := m_set_l hm_22 ml_11
  clear hm_22 mo0_11 mo1_11 mo_j3_11
  refine ae2 (up_n (u2 rfl s1_12)) (up_n (u2 rfl s2_12)) ?_; clear s1_12 s20_12 s2_12 s3_12 s4_12; intro e_23 s1_23 s2_23
  refine then_n <| aw_seq <| at_ <| ar (ro_eq (ro_ld_ptr y13_ty26 rfl mo0_22 s1_23 (nle rfl)) (by simp only [pS, Value.cells, Nat.reduceAdd, swE, one_swE, app_m] <;> rfl)) rfl ?_
  refine al_stm (st_storeO (up_m rfl s2_23) up_h rfl (oneL_c rfl (oneL_c rfl (oneL_c rfl (oneL_o moj3_11_22 oneL_nil)))) mo1_22 qsz26 rfl (nle rfl)) trivial rfl (fun m_24 hm_24 => ?_)
  have mo1_24 := m_set hm_24 mo1_22
  simp only [pS, Value.cells, Nat.reduceAdd, swE, one_swE, app_m] at mo1_24
  have mo0_24 := m_set_o hm_24 mo0_22 (by decide)
  have moj3_11_24 := m_set_o hm_24 moj3_11_22 (by omega)
  have ml_24 := m_set_l hm_24 ml_22
  clear hm_24 mo0_22 mo1_22 moj3_11_22
  refine ae1 (up_n (up_m rfl s2_23)) ?_; clear s1_23 s2_23; intro e_25 s2_25
  refine then_n <| aw_ret <| ret1 (.inr rfl) (by kernel_rfl) (resV_cell s2_25 mo1_24 y13_ty26 (nle rfl) (by simp)) (vw_r (vw_agg (vwl_cons (.ro _ rfl) (vwl_cons (.ro _ rfl) (vwl_cons (.ro _ rfl) (vwl_cons (.own _ _ _ _ moj3_11_24) vwl_nil)))))) ?_
  clear s2_25 mo1_24 mo0_24 moj3_11_24 ml_24
  (rw [p3, List.take_of_length_le (by omega)])
theorem y15_bz83 : (Try.prog.info? 83).bind (·.zero) = some (.agg #[.string ByteArray.empty, .slice none 0 0, .slice none 0 0, .slice none 0 0, .slice none 0 0]) := by kernel_rfl
theorem y15_bu83 : Try.prog.underlying 83 = some (.struct (fsOf Try.prog 83)) := by kernel_rfl
theorem y15_bp83 : ∀ w, ((fsOf Try.prog 83).mapM fun f => Prod.mk f.offset <$> sizeOf f.type : Sem (Array (Nat × Nat))).run Try.prog w = .ok (#[(0, 4), (4, 1)]) w := fun _ => by kernel_rfl
theorem y15_hcf49 : ∀ args w, (callFunc 49 args).run Try.prog w = .ok (.enter 49 args) w := fun _ _ => by kernel_rfl
theorem y15_sl23 : SlIs Try.prog 23 69 2 16 (.agg #[.int .i64 0, .int .i64 0]) := ⟨by kernel_rfl, by kernel_rfl, by kernel_rfl⟩
theorem y15_sl40 : SlIs Try.prog 40 3 1 8 (.int .i64 0) := ⟨by kernel_rfl, by kernel_rfl, by kernel_rfl⟩
theorem y15_ty23 : TyIs Try.prog 23 false 1 := ⟨by kernel_rfl, by kernel_rfl⟩
theorem y15_ty26 : TyIs Try.prog 26 true 4 := ⟨by kernel_rfl, by kernel_rfl⟩
theorem y15_ty3 : TyIs Try.prog 3 false 1 := ⟨by kernel_rfl, by kernel_rfl⟩
theorem y15_ty40 : TyIs Try.prog 40 false 1 := ⟨by kernel_rfl, by kernel_rfl⟩
theorem y15_ty69 : TyIs Try.prog 69 true 2 := ⟨by kernel_rfl, by kernel_rfl⟩
def plaL (bs : List Bea) (n : Nat) : List Int := (List.range (n + 1)).map (plaP bs)
def tkA (l : Lin) : AV := .ref (lnC l ++ [.row 1 ((plaL l.bs l.bs.length).map iE)])
theorem plaL_suc {bs : List Bea} {n : Nat} : plaL bs (n + 1) = plaL bs n ++ [plaP bs n + (bs.getD n default).len] := by
 unfold plaL; rw [List.range_succ, List.map_append]; rfl
theorem plaL_len {bs : List Bea} {n : Nat} : (plaL bs n).length = n + 1 := by simp [plaL]
theorem plaL_get {bs : List Bea} {n j : Nat} (h : j ≤ n) : (plaL bs n).getD j default = plaP bs j := by
 rw [List.getD_eq_getElem?_getD]; simp [plaL, List.getElem?_range (show j < n + 1 by omega)]
set_option maxRecDepth 100000 in
set_option maxHeartbeats 4000000 in
theorem yOpen_ok (l : Lin) (hl : Sho l) (hg : (linM l).2 = 0) (hb : l.bs.length ≤ 1000) (hp : ∀ j : Nat, j < l.bs.length → 0 ≤ (l.bs.getD j default).len ∧ (l.bs.getD j default).len ≤ 30000) : FnOk Try.prog 27 [lnA l] (fun q => q = .tuple [tkA l, mA 0]) := by
 refine fnOk_of (fn := Try.f27) 50 (by kernel_rfl) rfl (by kernel_rfl) (Nat.le_of_ble_eq_true rfl) ?_
 intro e_0 m_0 hA hm_0
 have s0_0 : evA e_0 (.tmp 0) = _ := hA 0 _ rfl
 have ml_0 : m_0.length = 0 := by rw [hm_0]; rfl
 clear hA hm_0
 refine aw_seq <| at_ <| al_stm (st_box s0_0 rfl ml_0) trivial rfl (fun m_1 hm_1 => ?_)
 have mo0_1 := m_push hm_1 ml_0
 (try simp only [pS, Value.cells, Nat.reduceAdd, beE, one_iE, app_m] at mo0_1)
 have ml_1 := m_push_l hm_1 ml_0
 have ml_1 : _ = 1 := ml_1
 clear hm_1
 refine ar (ro_assign ev_c) rfl <| ar (ro_assign ev_c) rfl <| ae1 (u2 rfl up_h) ?_; clear s0_0; intro e_2 s1_2
 refine then_n <| aw_seq <| aw_seq <| at_ <| ar (ro_eq (ro_ld_ptr y15_ty26 rfl mo0_1 s1_2 (by first | exact nle rfl | omega | (simp only [lnS] <;> omega) | (simp <;> omega))) (by first | (simp only [pS, Value.cells, Nat.reduceAdd, beE, one_iE, app_m] <;> rfl) | rfl)) rfl ?_
 refine ar (ro_call (evL_cons up_h evL_nil) rfl (yCheckLine_ok l hl) y15_hcf49) rfl <| ar (ro_move up_h) rfl <| ar (ro_extract up_h rfl) rfl <| ar (ro_extract (up_m rfl up_h) rfl) rfl <| al_stm (st_alloc qaz75 rfl ml_1) trivial rfl (fun m_3 hm_3 => ?_)
 have mo1_3 := m_push hm_3 ml_1
 (try simp only [pS, Value.cells, Nat.reduceAdd, beE, one_iE, app_m] at mo1_3)
 have mo0_3 := m_push_o hm_3 mo0_1
 have ml_3 := m_push_l hm_3 ml_1
 have ml_3 : _ = 2 := ml_3
 clear hm_3 mo0_1
 refine al_stm (st_store up_h (u2 rfl up_h) rfl rfl mo1_3 qsz75 rfl (by first | exact nle rfl | omega | (simp only [lnS] <;> omega) | (simp <;> omega))) trivial rfl (fun m_4 hm_4 => ?_)
 have mo1_4 := m_set hm_4 mo1_3
 (try simp only [pS, Value.cells, Nat.reduceAdd, beE, one_iE, app_m] at mo1_4)
 have mo0_4 := m_set_o hm_4 mo0_3 (by decide)
 have ml_4 := m_set_l hm_4 ml_3
 clear hm_4 mo1_3 mo0_3
 refine ar (ro_assign (up_n (up_m rfl up_h))) rfl <| ae2 (up_m rfl (up_n (u2 rfl (u4 rfl s1_2)))) up_h ?_; clear s1_2; intro e_5 s1_5 s5_5
 refine then_n <| aw_seq <| at_ <| ar (ro_move s5_5) rfl <| ar (ro_neq up_h ev_c) rfl <| ae3 (u2 rfl s1_5) (u2 rfl s5_5) up_h ?_; clear s1_5 s5_5; intro e_6 s1_6 s5_6 s15_6
 refine then_n <| aw_case s15_6 (fun hq_7 => ?_) (fun hq_7 => ?_)
 ·skip
  first
  |(cases hq_7; done) | ((first | replace hq_7 := bnt hq_7 | replace hq_7 := bnf hq_7 | replace hq_7 := bt hq_7 | replace hq_7 := bf hq_7 | replace hq_7 := bt' hq_7 | replace hq_7 := bf' hq_7 | skip); exfalso; omega) | ((first | (simp at hq_7; done) | (exact absurd hg (by simpa using hq_7))))
  |((first | replace hq_7 := bnt hq_7 | replace hq_7 := bnf hq_7 | replace hq_7 := bt hq_7 | replace hq_7 := bf hq_7 | replace hq_7 := bt' hq_7 | replace hq_7 := bf' hq_7 | skip)
    refine aw_seq <| at_ <| ar (ro_move s5_6) rfl <| ar (ro_assign ev_c) rfl <| ar (ro_assign (up_m rfl up_h)) rfl <| ae2 (up_m rfl up_h) up_h ?_; clear s15_6 s1_6 s5_6; intro e_8 s2_8 s3_8
    refine then_n <| aw_ret <| then_r <| ret2 (.inr rfl) (by kernel_rfl) (resV_tmp s2_8) (resV_tmp s3_8) (.ro _ rfl) (.ro _ rfl) ?_
    clear s2_8 s3_8 mo1_4 mo0_4 ml_4
    rfl)
 ·skip
  first
  |(cases hq_7; done) | ((first | replace hq_7 := bnt hq_7 | replace hq_7 := bnf hq_7 | replace hq_7 := bt hq_7 | replace hq_7 := bf hq_7 | replace hq_7 := bt' hq_7 | replace hq_7 := bf' hq_7 | skip); exfalso; omega) | ((first | (simp at hq_7; done) | (exact absurd hg (by simpa using hq_7))))
  |((first | replace hq_7 := bnt hq_7 | replace hq_7 := bnf hq_7 | replace hq_7 := bt hq_7 | replace hq_7 := bf hq_7 | replace hq_7 := bt' hq_7 | replace hq_7 := bf' hq_7 | skip)
    refine aw_skip <| then_n <| aw_seq <| at_ <| ar (ro_eq (ro_ld_ptr y15_ty26 rfl mo0_4 s1_6 (by first | exact nle rfl | omega | (simp only [lnS] <;> omega) | (simp <;> omega))) (by first | (simp only [pS, Value.cells, Nat.reduceAdd, beE, one_iE, app_m] <;> rfl) | rfl)) rfl ?_
    refine al_stm (st_lit y15_sl40 ml_4 (evP_cons ev_c evP_nil) rfl rfl rfl rfl) trivial rfl (fun m_9 hm_9 => ?_)
    have mo2_9 := m_push hm_9 ml_4
    (try simp only [pS, Value.cells, Nat.reduceAdd, beE, one_iE, app_m] at mo2_9)
    have mo1_9 := m_push_o hm_9 mo1_4
    have mo0_9 := m_push_o hm_9 mo0_4
    have ml_9 := m_push_l hm_9 ml_4
    have ml_9 : _ = 3 := ml_9
    clear hm_9 mo1_4 mo0_4
    refine ar (ro_build (evP_cons (up_m rfl up_h) (evP_cons up_h evP_nil)) y15_bz83 y15_bu83 y15_bp83 rfl) rfl ?_
    refine al_stm (st_box up_h rfl ml_9) trivial rfl (fun m_10 hm_10 => ?_)
    have mo3_10 := m_push hm_10 ml_9
    (try simp only [pS, Value.cells, Nat.reduceAdd, beE, one_iE, app_m] at mo3_10)
    have mo2_10 := m_push_o hm_10 mo2_9
    have mo1_10 := m_push_o hm_10 mo1_9
    have mo0_10 := m_push_o hm_10 mo0_9
    have ml_10 := m_push_l hm_10 ml_9
    have ml_10 : _ = 4 := ml_10
    clear hm_10 mo2_9 mo1_9 mo0_9
    refine ar (ro_assign up_h) rfl <| ae2 (up_m rfl (u4 rfl s1_6)) up_h ?_; clear s15_6 s1_6 s5_6; intro e_11 s1_11 s6_11
    refine then_n <| aw_seq <| aw_seq <| at_ <| ar (ro_fld_ptr qfl26_2 rfl s1_11) rfl <| ar (ro_eq (ro_ld_ptr y15_ty23 rfl mo0_10 up_h (by first | exact nle rfl | omega | (simp only [lnS] <;> omega) | (simp <;> omega))) (by first | (simp only [pS, Value.cells, Nat.reduceAdd, beE, one_iE, app_m] <;> rfl) | rfl)) rfl ?_
    refine ar (ro_eq (ro_len_row up_h rfl y15_sl23.1) (by first | (simp only [lnS] <;> rfl) | rfl)) rfl ?_
    refine ar (ro_move ev_c) rfl <| ae4 (u4 rfl s6_11) (u2 rfl up_h) (up_m rfl up_h) up_h ?_; clear s1_11 s6_11; intro e_12 s6_12 s22_12 s23_12 s24_12
    refine then_n <| aw_block <| aw_loop (S := (Nat × Int × List Int)) (fun s e mem => match s with | ⟨k, i, xs⟩ => (evA e (.tmp 24) = .v (.int .i64 i)) ∧ (evA e (.tmp 6) = evA e_12 (.tmp 6)) ∧ (evA e (.tmp 22) = evA e_12 (.tmp 22)) ∧ (evA e (.tmp 23) = evA e_12 (.tmp 23)) ∧ (mem[3]? = some (.box 83 [.v (.string l.nam), .row 4 (l.js.map jnE), .row 2 (l.bs.map beE), .row 3 (l.ss.map swE), .own k])) ∧ (mem[k]? = some (.row 3 1 (xs.map iE))) ∧ (mem[1]? = m_10[1]?) ∧ (mem[0]? = m_10[0]?) ∧ (∃ n, mem.length = n ∧ 4 ≤ n) ∧ ((2 ≤ k ∧ k ≠ 3 ∧ 0 ≤ i ∧ i ≤ l.bs.length ∧ xs = plaL l.bs i.toNat))) (fun s => match s with | ⟨k, i, xs⟩ => (l.bs.length - i).toNat) ⟨_, _, [0]⟩ ⟨s24_12, rfl, rfl, rfl, mo3_10, mo2_10, rfl, rfl, ⟨_, ml_10, Nat.le_refl _⟩, ?_⟩ ?_
    ·(exact ⟨by omega, by omega, by omega, by omega, rfl⟩)
    ·rintro ⟨k, i, xs⟩ e_13 m_13 ⟨s24_13, k6_13, k22_13, k23_13, mo3_13, mok_13, mk1_13, mk0_13, ⟨n_13, ml_13, hn_13⟩, hinv⟩
     have s6_13 := k6_13.trans s6_12
     have s22_13 := k22_13.trans s22_12
     have s23_13 := k23_13.trans s23_12
     have mo1_13 := mk1_13.trans mo1_10
     have mo0_13 := mk0_13.trans mo0_10
     have jlk_13 := m_lt mok_13 ml_13
     (obtain ⟨q1, q2, p1, p2, p3⟩ := hinv; have hxl : xs.length = i.toNat + 1 := (by rw [p3, plaL_len]); have hbd := plaP_bd hp (n := i.toNat) (by omega); have hxi : xs.getD i.toNat default = plaP l.bs i.toNat := (by rw [p3]; exact plaL_get (Nat.le_refl _)); have hpi : 0 ≤ (l.bs.getD i.toNat default).len ∧ (l.bs.getD i.toNat default).len ≤ 30000 := (by by_cases h : i.toNat < l.bs.length; exact hp _ h; have h0 : l.bs.getD i.toNat default = default := (by rw [List.getD_eq_getElem?_getD, List.getElem?_eq_none (by omega)]; rfl); rw [h0]; exact ⟨by decide, by decide⟩))
     refine aw_seq <| at_ <| ar (ro_lss s24_13 s23_13) rfl <| ae5 (up_m rfl s6_13) (up_m rfl s22_13) (up_m rfl s23_13) (up_m rfl s24_13) up_h ?_; clear s22_13 s23_13 s24_13 s6_13; intro e_14 s6_14 s22_14 s23_14 s24_14 s25_14
     refine then_n <| aw_seq <| aw_case s25_14 (fun hq_15 => ?_) (fun hq_15 => ?_)
     ·skip
      first
      |(cases hq_15; done) | ((first | replace hq_15 := bnt hq_15 | replace hq_15 := bnf hq_15 | replace hq_15 := bt hq_15 | replace hq_15 := bf hq_15 | replace hq_15 := bt' hq_15 | replace hq_15 := bf' hq_15 | skip); exfalso; omega) | ((first | (simp at hq_15; done) | (exact absurd hg (by simpa using hq_15))))
      |((first | replace hq_15 := bnt hq_15 | replace hq_15 := bnf hq_15 | replace hq_15 := bt hq_15 | replace hq_15 := bf hq_15 | replace hq_15 := bt' hq_15 | replace hq_15 := bf' hq_15 | skip)
        refine aw_skip <| then_n <| aw_seq <| aw_block <| aw_seq <| at_ <| ar (ro_move s24_14) rfl <| ar (ro_eq (ro_ix y15_sl23 (up_m rfl s22_14) (up_m rfl s24_14) (by first | decide | omega | (simp <;> omega)) (by first | (refine idx_map ?_; first | omega | (simp only [lnS]; omega)) | (refine idx_mapI ?_; first | omega | (simp only [lnS]; omega)) | (refine idx_mapN ?_; first | omega | (simp only [lnS]; omega)) | rfl)) (by first | (simp only [pS, Value.cells, Nat.reduceAdd, beE, one_iE, app_m] <;> rfl) | rfl)) rfl ?_
        refine ar (ro_eq (ro_ld_ref y15_ty69 rfl up_h (by first | exact nle rfl | omega | (simp only [lnS] <;> omega) | (simp <;> omega))) (by first | (simp only [pS, Value.cells, Nat.reduceAdd, beE, one_iE, app_m] <;> rfl) | rfl)) rfl ?_
        refine al_stm (st_alloc qaz69 rfl ml_13) trivial rfl (fun m_16 hm_16 => ?_)
        have mon_13_16 := m_push hm_16 ml_13
        (try simp only [pS, Value.cells, Nat.reduceAdd, beE, one_iE, app_m] at mon_13_16)
        have mo3_16 := m_push_o hm_16 mo3_13
        have mok_16 := m_push_o hm_16 mok_13
        have mo1_16 := m_push_o hm_16 mo1_13
        have mo0_16 := m_push_o hm_16 mo0_13
        have ml_16 := m_push_l hm_16 ml_13
        clear hm_16 mo3_13 mok_13 mo1_13 mo0_13
        refine ar (ro_assign (up_m rfl (u2 rfl up_h))) rfl <| al_stm (st_store (up_m rfl up_h) (u2 rfl up_h) rfl rfl mon_13_16 qsz69 rfl (by first | exact nle rfl | omega | (simp only [lnS] <;> omega) | (simp <;> omega))) trivial rfl (fun m_17 hm_17 => ?_)
        have mon_13_17 := m_set hm_17 mon_13_16
        (try simp only [pS, Value.cells, Nat.reduceAdd, beE, one_iE, app_m] at mon_13_17)
        have mo3_17 := m_set_o hm_17 mo3_16 (by omega)
        have mok_17 := m_set_o hm_17 mok_16 (by omega)
        have mo1_17 := m_set_o hm_17 mo1_16 (by omega)
        have mo0_17 := m_set_o hm_17 mo0_16 (by omega)
        have ml_17 := m_set_l hm_17 ml_16
        clear hm_17 mon_13_16 mo3_16 mok_16 mo1_16 mo0_16
        refine ae6 (up_n (up_m rfl (u4 rfl s6_14))) (up_n up_h) (up_n (up_m rfl up_h)) (up_n (up_m rfl (u4 rfl s22_14))) (up_n (up_m rfl (u4 rfl s23_14))) (up_n (up_m rfl (u4 rfl s24_14))) ?_; clear s22_14 s23_14 s24_14 s25_14 s6_14; intro e_18 s6_18 s7_18 s8_18 s22_18 s23_18 s24_18
        refine then_n <| aw_drawK 17 1 ml_17 (by kernel_rfl) (by kernel_rfl) (by kernel_rfl) (by kernel_rfl) (fun m_19 hm_19 => ?_)
        have mon_13_19 := m_room_o hm_19 mon_13_17
        have mo3_19 := m_room_o hm_19 mo3_17
        have mok_19 := m_room_o hm_19 mok_17
        have mo1_19 := m_room_o hm_19 mo1_17
        have mo0_19 := m_room_o hm_19 mo0_17
        have mon_13_1_19 : m_19[n_13 + 1]? = _ := m_room_g hm_19 ml_17 0 rfl rfl
        have ml_19 : _ = n_13 + 1 + 1 := m_room_l (K := 1) hm_19 ml_17
        clear hm_19 mon_13_17 mo3_17 mok_17 mo1_17 mo0_17 ml_17
        refine dh_ro (fun M_ hM_ => (ro_move s6_18)) trivial ?_
        refine dh_ro (fun M_ hM_ => (ro_move (up_m rfl s6_18))) trivial ?_
        refine dh_ro (fun M_ hM_ => (ro_nilP up_h)) trivial ?_
        refine dh_ro (fun M_ hM_ => (ro_fld_ptr qfl83_1 rfl up_h)) trivial ?_
        refine dh_ld (3) (fun M_ hM_ => (ro_eq (ro_ld_ptr y15_ty40 rfl (agr hM_ mo3_19 (by simp)) up_h (by first | exact nle rfl | omega | (simp only [lnS] <;> omega) | (simp <;> omega))) (by first | (simp only [pS, Value.cells, Nat.reduceAdd, beE, one_iE, app_m] <;> rfl) | rfl))) trivial trivial ?_
        refine dh_ro (fun M_ hM_ => (ro_move (up_m rfl (u4 rfl s6_18)))) trivial ?_
        refine dh_ro (fun M_ hM_ => (ro_nilP up_h)) trivial ?_
        refine dh_ro (fun M_ hM_ => (ro_fld_ptr qfl83_1 rfl up_h)) trivial ?_
        refine dh_ld (3) (fun M_ hM_ => (ro_eq (ro_ld_ptr y15_ty40 rfl (agr hM_ mo3_19 (by simp)) up_h (by first | exact nle rfl | omega | (simp only [lnS] <;> omega) | (simp <;> omega))) (by first | (simp only [pS, Value.cells, Nat.reduceAdd, beE, one_iE, app_m] <;> rfl) | rfl))) trivial trivial ?_
        refine dh_ro (fun M_ hM_ => (ro_move (up_m rfl (u8 rfl s7_18)))) trivial ?_
        refine dh_ld (k) (fun M_ hM_ => (ro_ix_own y15_sl40 (agr hM_ mok_19 (by simp)) (up_m rfl up_h) up_h (by first | decide | omega | (simp <;> omega)) (by first | omega | (simp only [lnS] <;> omega) | (simp <;> omega)))) trivial trivial ?_
        refine dh_ld (k) (fun M_ hM_ => (ro_eq (ro_ld_el y15_ty3 rfl (agr hM_ mok_19 (by simp)) up_h (by first | exact nle rfl | omega | (simp only [lnS] <;> omega) | (simp <;> omega)) (by first | (refine idx_map ?_; first | omega | (simp only [lnS]; omega)) | (refine idx_mapI ?_; first | omega | (simp only [lnS]; omega)) | (refine idx_mapN ?_; first | omega | (simp only [lnS]; omega)) | rfl)) (by first | (simp only [pS, Value.cells, Nat.reduceAdd, beE, one_iE, app_m] <;> rfl) | rfl))) trivial trivial ?_
        refine dh_ro (fun M_ hM_ => (ro_fld_ptr qfl69_0 rfl (u4 rfl (u8 rfl s8_18)))) trivial ?_
        refine dh_ld (n_13) (fun M_ hM_ => (ro_eq (ro_ld_ptr y15_ty3 rfl (agr hM_ mon_13_19 (by simp)) up_h (by first | exact nle rfl | omega | (simp only [lnS] <;> omega) | (simp <;> omega))) (by first | (simp only [pS, Value.cells, Nat.reduceAdd, beE, one_iE, app_m] <;> rfl) | rfl))) trivial trivial ?_
        first | (refine dh_ro (fun M_ hM_ => (ro_add' (u2 rfl up_h) up_h ?_)) trivial ?_; · (unfold In64; omega)) | (refine dh_ro (fun M_ hM_ => (ro_add (u2 rfl up_h) up_h)) trivial ?_)
        refine dh_ro (fun M_ hM_ => (ro_lit y15_sl40 (evP_cons up_h evP_nil) rfl rfl rfl rfl)) trivial ?_
        refine dh_sw (n_13 + 1) (k) (fun M_ hM_ => (sw_app y15_sl40 rfl (agr hM_ mok_19 (by simp)) (up_m rfl (u2 rfl (u8 rfl up_h))) up_h (by first | rfl | (simp [oneA]; done)) (by first | omega | (simp only [lnS] <;> omega) | (simp <;> omega)))) trivial mon_13_1_19 rfl trivial ⟨.inl (by simp <;> omega), ⟨.inl (by simp <;> omega), ⟨.inl (by simp <;> omega), ⟨.inl (by simp <;> omega), ⟨.inl (by simp <;> omega), trivial⟩⟩⟩⟩⟩ ⟨.inl (by simp <;> omega), ⟨.inl (by simp <;> omega), ⟨.inr ((wt_one 16 15 (by kernel_rfl)).trans ((wt_one 15 14 (by kernel_rfl)).trans ((wt_one 14 11 (by kernel_rfl)).trans (wt_one 11 10 (by kernel_rfl))))), ⟨.inr ((wt_one 16 15 (by kernel_rfl)).trans ((wt_one 15 14 (by kernel_rfl)).trans (wt_one 14 11 (by kernel_rfl)))), ⟨.inl (by simp <;> omega), trivial⟩⟩⟩⟩⟩ (fun m_20 hm_20 => ?_)
        have mon_13_1_20 := m_sw hm_20 mon_13_1_19
        (try simp only [pS, Value.cells, Nat.reduceAdd, beE, one_iE, app_m] at mon_13_1_20)
        have mon_13_20 := m_sw_o hm_20 mon_13_19 (by omega) (by omega)
        have mo3_20 := m_sw_o hm_20 mo3_19 (by omega) (by omega)
        have mo1_20 := m_sw_o hm_20 mo1_19 (by omega) (by omega)
        have mo0_20 := m_sw_o hm_20 mo0_19 (by omega) (by omega)
        have ml_20 := m_sw_l hm_20 ml_19
        clear hm_20 mon_13_19 mo3_19 mok_19 mo1_19 mo0_19 mon_13_1_19
        refine dh_nil rfl ?_
        refine ar (ro_nilP (u16 rfl up_h)) rfl <| ar (ro_fld_ptr qfl83_1 rfl up_h) rfl <| al_stm (st_store_own up_h (u2 rfl up_h) mo3_20 mon_13_1_20 qsz40 (by first | exact nle rfl | omega | (simp only [lnS] <;> omega) | (simp <;> omega))) trivial rfl (fun m_21 hm_21 => ?_)
        have mo3_21 := m_set hm_21 mo3_20
        (try simp only [pS, Value.cells, Nat.reduceAdd, beE, one_iE, app_m] at mo3_21)
        have mon_13_1_21 := m_set_o hm_21 mon_13_1_20 (by omega)
        have mon_13_21 := m_set_o hm_21 mon_13_20 (by omega)
        have mo1_21 := m_set_o hm_21 mo1_20 (by decide)
        have mo0_21 := m_set_o hm_21 mo0_20 (by decide)
        have ml_21 := m_set_l hm_21 ml_20
        clear hm_21 mon_13_1_20 mon_13_20 mo3_20 mo1_20 mo0_20
        refine ae4 (up_n (up_m rfl (u2 rfl (u16 rfl s6_18)))) (up_n (up_m rfl (u2 rfl (u16 rfl s22_18)))) (up_n (up_m rfl (u2 rfl (u16 rfl s23_18)))) (up_n (up_m rfl (u2 rfl (u16 rfl s24_18)))) ?_; clear s22_18 s23_18 s24_18 s6_18 s7_18 s8_18; intro e_22 s6_22 s22_22 s23_22 s24_22
        refine block_n <| then_n <| at_ ?_
        first | (refine ar (ro_add' s24_22 ev_c ?_) rfl ?_; · (unfold In64; omega)) | (refine ar (ro_add s24_22 ev_c) rfl ?_)
        refine ar (ro_move up_h) rfl <| ae4 (u2 rfl s6_22) (u2 rfl s22_22) (u2 rfl s23_22) up_h ?_; clear s22_22 s23_22 s24_22 s6_22; intro e_23 s6_23 s22_23 s23_23 s24_23
        refine then_n <| ⟨⟨_, _, _⟩, ⟨s24_23, (s6_23.trans s6_12.symm), (s22_23.trans s22_12.symm), (s23_23.trans s23_12.symm), mo3_21, mon_13_1_21, (mo1_21.trans mo1_10.symm), (mo0_21.trans mo0_10.symm), ⟨_, ml_21, by omega⟩, ?_⟩, ?_⟩
        ·(refine ⟨by omega, by omega, by omega, by omega, ?_⟩; rw [show (i + 1).toNat = i.toNat + 1 by omega, plaL_suc, ← p3, ← hxi])
        ·((try dsimp only); omega))
     ·skip
      first
      |(cases hq_15; done) | ((first | replace hq_15 := bnt hq_15 | replace hq_15 := bnf hq_15 | replace hq_15 := bt hq_15 | replace hq_15 := bf hq_15 | replace hq_15 := bt' hq_15 | replace hq_15 := bf' hq_15 | skip); exfalso; omega) | ((first | (simp at hq_15; done) | (exact absurd hg (by simpa using hq_15))))
      |((first | replace hq_15 := bnt hq_15 | replace hq_15 := bnf hq_15 | replace hq_15 := bt hq_15 | replace hq_15 := bf hq_15 | replace hq_15 := bt' hq_15 | replace hq_15 := bf' hq_15 | skip)
        refine aw_exit <| then_x <| then_x <| block_hit <| then_n <| aw_seq <| aw_freezeB (o := 4) s6_14 mo3_13 mok_13 (by omega) rfl rfl (fun m_24 e_24 hm_24 he_24 => ?_)
        simp only [List.set_cons_zero, List.set_cons_succ] at he_24
        have mo1_24 := m_set_o hm_24 (m_set_o rfl mo1_13 (by omega)) (by decide)
        have mo0_24 := m_set_o hm_24 (m_set_o rfl mo0_13 (by omega)) (by decide)
        have ml_24 := m_set_l hm_24 (m_set_l rfl ml_13)
        have s6_24 : evA e_24 (.tmp 6) = _ := (congrArg (fun q => evA q (.tmp 6)) he_24).trans up_h
        have s22_24 : evA e_24 (.tmp 22) = _ := (congrArg (fun q => evA q (.tmp 22)) he_24).trans (up_m rfl s22_14)
        have s23_24 : evA e_24 (.tmp 23) = _ := (congrArg (fun q => evA q (.tmp 23)) he_24).trans (up_m rfl s23_14)
        have s24_24 : evA e_24 (.tmp 24) = _ := (congrArg (fun q => evA q (.tmp 24)) he_24).trans (up_m rfl s24_14)
        have s25_24 : evA e_24 (.tmp 25) = _ := (congrArg (fun q => evA q (.tmp 25)) he_24).trans (up_m rfl s25_14)
        clear hm_24 he_24
        refine at_ <| ar (ro_move s6_24) rfl <| ar (ro_assign up_h) rfl <| ar (ro_assign ev_c) rfl <| ae2 (up_m rfl up_h) up_h ?_; clear s22_24 s23_24 s24_24 s25_24 s6_24; intro e_25 s2_25 s3_25
        refine then_n <| aw_ret <| ret2 (.inr rfl) (by kernel_rfl) (resV_tmp s2_25) (resV_tmp s3_25) (.ro _ rfl) (.ro _ rfl) ?_
        clear s2_25 s3_25 mo1_24 mo0_24 ml_24
        (rw [p3, show i.toNat = l.bs.length by omega]; rfl)))
theorem y16_sl22 : SlIs Try.prog 22 66 4 32 (.agg #[.int .i64 0, .int .i64 0, .int .i64 0, .int .i64 0]) := ⟨by kernel_rfl, by kernel_rfl, by kernel_rfl⟩
theorem y16_sl40 : SlIs Try.prog 40 3 1 8 (.int .i64 0) := ⟨by kernel_rfl, by kernel_rfl, by kernel_rfl⟩
theorem y16_ty22 : TyIs Try.prog 22 false 1 := ⟨by kernel_rfl, by kernel_rfl⟩
theorem y16_ty3 : TyIs Try.prog 3 false 1 := ⟨by kernel_rfl, by kernel_rfl⟩
theorem y16_ty40 : TyIs Try.prog 40 false 1 := ⟨by kernel_rfl, by kernel_rfl⟩
theorem firN_at {f : Nat → Int} : ∀ {n i : Nat}, firN f n = some i → i < n ∧ f i ≠ 0
 | 0, _, h => by cases h
 | n + 1, i, h => by
  simp only [firN] at h
  cases h1 : firN f n with
  | some k => rw [h1] at h; cases h; exact ⟨by have := (firN_at h1).1; omega, (firN_at h1).2⟩
  | none =>
   rw [h1] at h
   by_cases h2 : f n = 0
   ·simp [h2] at h
   ·simp [h2] at h; subst h; exact ⟨by omega, h2⟩
theorem firN_all {f : Nat → Int} : ∀ {n : Nat}, firN f n = none → ∀ j : Nat, j < n → f j = 0
 | 0, _, j, hj => by omega
 | n + 1, h, j, hj => by
  simp only [firN] at h
  cases h1 : firN f n with
  | some k => rw [h1] at h; cases h
  | none =>
   rw [h1] at h
   by_cases h2 : f n = 0
   ·by_cases hjn : j = n
    ·rw [hjn]; exact h2
    ·exact firN_all h1 j (by omega)
   ·simp [h2] at h
theorem lisM_zero {k : Int} {f : Nat → Int} {n : Nat} {z : (Int × Int) × Int} (h : (lisM k f n z).2 = 0) : (∀ j : Nat, j < n → f j = 0) ∧ z.2 = 0 := by
 unfold lisM at h
 cases h1 : firN f n with
 | some i => rw [h1] at h; exact absurd h (firN_at h1).2
 | none => rw [h1] at h; exact ⟨firN_all h1, h⟩
structure Rgt (l : Lin) : Prop where
 nam : isNameB l.nam = true
 n0 : 1 ≤ l.bs.length
 n1 : l.bs.length ≤ 40
 js : l.js.length = l.bs.length + 1
 ja : ∀ j : Nat, j < l.js.length → jntE (l.js.getD j default) = 0
 ba : ∀ j : Nat, j < l.bs.length → beaE (l.bs.getD j default) = 0
 s1 : l.ss.length ≤ 4
 sa : ∀ j : Nat, j < l.ss.length → swiE l j = 0
theorem rgt_of {l : Lin} (h : (linM l).2 = 0) : Rgt l := by
 unfold linM at h
 split at h
 ·cases h
 split at h
 ·cases h
 split at h
 ·cases h
 obtain ⟨h1, h⟩ := lisM_zero h
 obtain ⟨h2, h⟩ := lisM_zero h
 split at h
 ·cases h
 obtain ⟨h3, _⟩ := lisM_zero h
 rename_i a b c d
 exact ⟨by simp_all, by omega, by omega, by omega, h1, h2, by omega, h3⟩
theorem withinB_iff {n lo hi : Int} : withinB n lo hi = true ↔ lo ≤ n ∧ n ≤ hi := by simp [withinB]
theorem misE_z {n lo hi : Int} : misE n lo hi = 0 ↔ lo ≤ n ∧ n ≤ hi := by
 unfold misE; rw [← withinB_iff]
 cases withinB n lo hi <;> simp
theorem Rgt.bea {l : Lin} (h : Rgt l) (j : Nat) (hj : j < l.bs.length) : 1000 ≤ (l.bs.getD j default).len ∧ (l.bs.getD j default).len ≤ 30000 ∧ -300 ≤ (l.bs.getD j default).cant ∧ (l.bs.getD j default).cant ≤ 300 := by
 have := h.ba j hj
 unfold beaE at this
 split at this
 ·rename_i hb
  simp only [beaB, smaB, Bool.and_eq_true, withinB_iff] at hb
  omega
 ·cases this
theorem Rgt.jnt {l : Lin} (h : Rgt l) (j : Nat) (hj : j < l.js.length) : (-20000 ≤ (l.js.getD j default).acr ∧ (l.js.getD j default).acr ≤ 20000) ∧ (-20000 ≤ (l.js.getD j default).up ∧ (l.js.getD j default).up ≤ 20000) ∧ -100 ≤ (l.js.getD j default).lo ∧ (l.js.getD j default).hi ≤ 100 ∧ (l.js.getD j default).lo ≤ (l.js.getD j default).hi := by
 have := h.ja j hj
 unfold jntE at this
 split at this
 ·rename_i hb
  split at this
  ·simp only [jntB, smaB, Bool.and_eq_true, withinB_iff] at hb
   omega
  ·cases this
 ·cases this
theorem Rgt.len {l : Lin} (h : Rgt l) : ∀ j : Nat, j < l.bs.length → 0 ≤ (l.bs.getD j default).len ∧ (l.bs.getD j default).len ≤ 30000 := fun j hj => by have := h.bea j hj; omega
theorem Rgt.pla {l : Lin} (h : Rgt l) {n : Nat} (hn : n ≤ l.bs.length) : 0 ≤ plaP l.bs n ∧ plaP l.bs n ≤ 1200000 := by
 have := plaP_bd h.len hn
 have := h.n1
 omega
theorem yOpen_good (l : Lin) (hl : Sho l) (hg : (linM l).2 = 0) : FnOk Try.prog 27 [lnA l] (fun q => q = .tuple [tkA l, mA 0]) := yOpen_ok l hl hg (by have := (rgt_of hg).n1; omega) (rgt_of hg).len
set_option maxRecDepth 100000 in
set_option maxHeartbeats 1000000 in
theorem length_ok (l : Lin) (h : Rgt l) : FnOk Try.prog 44 [tkA l] (fun q => q = mA (plaP l.bs l.bs.length)) := by
 refine fnOk_of (fn := Try.f44) 15 (by kernel_rfl) rfl (by kernel_rfl) (Nat.le_of_ble_eq_true rfl) ?_
 intro e_0 m_0 hA hm_0
 have s0_0 : evA e_0 (.tmp 0) = _ := hA 0 _ rfl
 have ml_0 : m_0.length = 0 := by rw [hm_0]; rfl
 clear hA hm_0
 have hpl := plaL_len (bs := l.bs) (n := l.bs.length); have hn1 := h.n1; have hn0 := h.n0
 refine aw_seq <| at_ <| ar (ro_assign ev_c) rfl <| ae1 (up_m rfl s0_0) ?_; clear s0_0; intro e_1 s0_1
 refine then_n <| aw_seq <| aw_draw 13 (by kernel_rfl) (by kernel_rfl) (by kernel_rfl) (by kernel_rfl) ?_
 refine dr (ro_move s0_1) rfl <| dr (ro_nilR up_h) rfl <| dr (ro_eq (ro_fld_ref qfl83_1 rfl up_h) (by simp only [pS, Value.cells, Nat.reduceAdd] <;> rfl)) rfl ?_
 refine dr (ro_eq (ro_ld_ref y16_ty40 rfl up_h (nle rfl)) (by simp only [pS, Value.cells, Nat.reduceAdd] <;> rfl)) rfl ?_
 refine dr (ro_move (u4 rfl s0_1)) rfl <| dr (ro_nilR up_h) rfl <| dr (ro_eq (ro_fld_ref qfl83_1 rfl up_h) (by simp only [pS, Value.cells, Nat.reduceAdd] <;> rfl)) rfl ?_
 refine dr (ro_eq (ro_ld_ref y16_ty40 rfl up_h (nle rfl)) (by simp only [pS, Value.cells, Nat.reduceAdd] <;> rfl)) rfl ?_
 refine dr (ro_eq (ro_len_row up_h rfl y16_sl40.1) (by simp only [lnS] <;> rfl)) rfl ?_
 (refine dr (ro_sub' up_h ev_c ?_) rfl ?_; · (unfold In64; omega))
 refine dr (ro_eq (ro_ix y16_sl40 (u2 rfl (u4 rfl up_h)) up_h (by omega) (by first | (refine idx_map ?_; first | omega | (simp only [lnS]; omega)) | (refine idx_mapI ?_; first | omega | (simp only [lnS]; omega)) | (refine idx_mapN ?_; first | omega | (simp only [lnS]; omega)) | rfl)) (by simp only [pS, Value.cells, Nat.reduceAdd] <;> rfl)) rfl ?_
 refine dr (ro_eq (ro_ld_ref y16_ty3 rfl up_h (nle rfl)) (by simp only [pS, Value.cells, Nat.reduceAdd] <;> rfl)) rfl ?_
 refine dr (ro_assign up_h) rfl <| ds_nil <| ae1 up_h ?_; clear s0_1; intro e_2 s2_2
 refine then_n <| aw_ret <| ret1 (.inr rfl) (by kernel_rfl) (resV_tmp s2_2) (.ro _ rfl) ?_
 clear s2_2 ml_0
 (rw [show ((plaL l.bs l.bs.length).length - 1 : Int).toNat = l.bs.length by omega, plaL_get (Nat.le_refl _)])
set_option maxRecDepth 100000 in
set_option maxHeartbeats 1000000 in
theorem yInnerErr_ok (l : Lin) (h : Rgt l) (n : Int) : FnOk Try.prog 45 [tkA l, mA n] (fun q => q = mA (misE n 1 (l.js.length - 2))) := by
 refine fnOk_of (fn := Try.f45) 15 (by kernel_rfl) rfl (by kernel_rfl) (Nat.le_of_ble_eq_true rfl) ?_
 intro e_0 m_0 hA hm_0
 have s0_0 : evA e_0 (.tmp 0) = _ := hA 0 _ rfl
 have s1_0 : evA e_0 (.tmp 1) = _ := hA 1 _ rfl
 have ml_0 : m_0.length = 0 := by rw [hm_0]; rfl
 clear hA hm_0
 have hn1 := h.n1; have hn0 := h.n0; have hj := h.js
 refine aw_seq <| at_ <| ar (ro_assign ev_c) rfl <| ae2 (up_m rfl s0_0) (up_m rfl s1_0) ?_; clear s0_0 s1_0; intro e_1 s0_1 s1_1
 refine then_n <| aw_seq <| at_ <| ar (ro_move s1_1) rfl <| ar (ro_move (up_m rfl s0_1)) rfl <| ar (ro_nilR up_h) rfl <| ar (ro_eq (ro_fld_ref qfl83_0 rfl up_h) (by simp only [pS, Value.cells, Nat.reduceAdd] <;> rfl)) rfl ?_
 refine ar (ro_eq (ro_fld_ref qfl26_1 rfl up_h) (by simp only [pS, Value.cells, Nat.reduceAdd] <;> rfl)) rfl ?_
 refine ar (ro_eq (ro_ld_ref y16_ty22 rfl up_h (nle rfl)) (by simp only [pS, Value.cells, Nat.reduceAdd] <;> rfl)) rfl ?_
 refine ar (ro_eq (ro_len_row up_h rfl y16_sl22.1) (by simp only [lnS] <;> rfl)) rfl ?_
 (refine ar (ro_sub' up_h ev_c ?_) rfl ?_; · (unfold In64; omega))
 refine ar (ro_call (evL_cons (up_m rfl (u2 rfl (u4 rfl up_h))) (evL_cons ev_c (evL_cons up_h evL_nil))) rfl (yWithin_ok _ _ _) qhcf57) rfl <| ar (ro_call (evL_cons up_h (evL_cons ev_c evL_nil)) rfl (yUnless_ok _ _) qhcf56) rfl <| ar (ro_assign up_h) rfl <| ae1 up_h ?_; clear s0_1 s1_1; intro e_2 s4_2
 refine then_n <| aw_ret <| ret1 (.inr rfl) (by kernel_rfl) (resV_tmp s4_2) (.ro _ rfl) ?_
 clear s4_2 ml_0
 rfl
set_option maxRecDepth 100000 in
set_option maxHeartbeats 1000000 in
theorem yPlaceErr_ok (l : Lin) (h : Rgt l) (n : Int) : FnOk Try.prog 63 [tkA l, mA n] (fun q => q = mA (unlessE (withinB n 0 (plaP l.bs l.bs.length)) 2)) := by
 refine fnOk_of (fn := Try.f63) 10 (by kernel_rfl) rfl (by kernel_rfl) (Nat.le_of_ble_eq_true rfl) ?_
 intro e_0 m_0 hA hm_0
 have s0_0 : evA e_0 (.tmp 0) = _ := hA 0 _ rfl
 have s1_0 : evA e_0 (.tmp 1) = _ := hA 1 _ rfl
 have ml_0 : m_0.length = 0 := by rw [hm_0]; rfl
 clear hA hm_0
 refine aw_seq <| at_ <| ar (ro_assign ev_c) rfl <| ae2 (up_m rfl s0_0) (up_m rfl s1_0) ?_; clear s0_0 s1_0; intro e_1 s0_1 s1_1
 refine then_n <| aw_seq <| at_ <| ar (ro_move s1_1) rfl <| ar (ro_move (up_m rfl s0_1)) rfl <| ar (ro_call (evL_cons up_h evL_nil) rfl (length_ok l h) qhcf44) rfl <| ar (ro_call (evL_cons (u2 rfl up_h) (evL_cons ev_c (evL_cons up_h evL_nil))) rfl (yWithin_ok _ _ _) qhcf57) rfl <| ar (ro_call (evL_cons up_h (evL_cons ev_c evL_nil)) rfl (yUnless_ok _ _) qhcf56) rfl <| ar (ro_assign up_h) rfl <| ae1 up_h ?_; clear s0_1 s1_1; intro e_2 s4_2
 refine then_n <| aw_ret <| ret1 (.inr rfl) (by kernel_rfl) (resV_tmp s4_2) (.ro _ rfl) ?_
 clear s4_2 ml_0
 rfl
theorem y17_hcf71 : ∀ args w, (callFunc 71 args).run Try.prog w = .ok (.enter 71 args) w := fun _ _ => by kernel_rfl
theorem y17_hcf84 : ∀ args w, (callFunc 84 args).run Try.prog w = .ok (.enter 84 args) w := fun _ _ => by kernel_rfl
theorem y17_hcf85 : ∀ args w, (callFunc 85 args).run Try.prog w = .ok (.enter 85 args) w := fun _ _ => by kernel_rfl
theorem y17_sl23 : SlIs Try.prog 23 69 2 16 (.agg #[.int .i64 0, .int .i64 0]) := ⟨by kernel_rfl, by kernel_rfl, by kernel_rfl⟩
theorem y17_sl40 : SlIs Try.prog 40 3 1 8 (.int .i64 0) := ⟨by kernel_rfl, by kernel_rfl, by kernel_rfl⟩
theorem y17_ty23 : TyIs Try.prog 23 false 1 := ⟨by kernel_rfl, by kernel_rfl⟩
theorem y17_ty3 : TyIs Try.prog 3 false 1 := ⟨by kernel_rfl, by kernel_rfl⟩
theorem y17_ty40 : TyIs Try.prog 40 false 1 := ⟨by kernel_rfl, by kernel_rfl⟩
set_option maxRecDepth 100000 in
set_option maxHeartbeats 1000000 in
theorem cNaN_ok (n : Int) : FnOk Try.prog 69 [mA n] (fun q => q = tbA false) := by
 refine fnOk_of (fn := Try.f69) 6 (by kernel_rfl) rfl (by kernel_rfl) (Nat.le_of_ble_eq_true rfl) ?_
 intro e_0 m_0 hA hm_0
 have s0_0 : evA e_0 (.tmp 0) = _ := hA 0 _ rfl
 have ml_0 : m_0.length = 0 := by rw [hm_0]; rfl
 clear hA hm_0
 refine aw_seq <| at_ <| ar (ro_assign ev_c) rfl <| ae1 (up_m rfl s0_0) ?_; clear s0_0; intro e_1 s0_1
 refine then_n <| aw_seq <| at_ <| ar (ro_move s0_1) rfl <| ar (ro_move (up_m rfl s0_1)) rfl <| ar (ro_neq (up_m rfl up_h) up_h) rfl <| ar (ro_assign up_h) rfl <| ae1 up_h ?_; clear s0_1; intro e_2 s2_2
 refine then_n <| aw_ret <| ret1 (.inr rfl) (by kernel_rfl) (resV_tmp s2_2) (.ro _ rfl) ?_
 clear s2_2 ml_0
 simp
set_option maxRecDepth 100000 in
set_option maxHeartbeats 1000000 in
theorem sNaN_ok (n : Int) : FnOk Try.prog 85 [mA n] (fun q => q = tbA false) := by
 refine fnOk_of (fn := Try.f85) 6 (by kernel_rfl) rfl (by kernel_rfl) (Nat.le_of_ble_eq_true rfl) ?_
 intro e_0 m_0 hA hm_0
 have s0_0 : evA e_0 (.tmp 0) = _ := hA 0 _ rfl
 have ml_0 : m_0.length = 0 := by rw [hm_0]; rfl
 clear hA hm_0
 refine aw_seq <| at_ <| ar (ro_assign ev_c) rfl <| ae1 (up_m rfl s0_0) ?_; clear s0_0; intro e_1 s0_1
 refine then_n <| aw_seq <| at_ <| ar (ro_move s0_1) rfl <| ar (ro_move (up_m rfl s0_1)) rfl <| ar (ro_neq (up_m rfl up_h) up_h) rfl <| ar (ro_assign up_h) rfl <| ae1 up_h ?_; clear s0_1; intro e_2 s2_2
 refine then_n <| aw_ret <| ret1 (.inr rfl) (by kernel_rfl) (resV_tmp s2_2) (.ro _ rfl) ?_
 clear s2_2 ml_0
 simp
set_option maxRecDepth 100000 in
set_option maxHeartbeats 1000000 in
theorem less_ok (m n : Int) : FnOk Try.prog 84 [mA m, mA n] (fun q => q = tbA (decide (m < n))) := by
 refine fnOk_of (fn := Try.f84) 17 (by kernel_rfl) rfl (by kernel_rfl) (Nat.le_of_ble_eq_true rfl) ?_
 intro e_0 m_0 hA hm_0
 have s0_0 : evA e_0 (.tmp 0) = _ := hA 0 _ rfl
 have s1_0 : evA e_0 (.tmp 1) = _ := hA 1 _ rfl
 have ml_0 : m_0.length = 0 := by rw [hm_0]; rfl
 clear hA hm_0
 refine aw_seq <| at_ <| ar (ro_assign ev_c) rfl <| ae2 (up_m rfl s0_0) (up_m rfl s1_0) ?_; clear s0_0 s1_0; intro e_1 s0_1 s1_1
 refine then_n <| aw_seq <| at_ <| ar (ro_move s0_1) rfl <| ar (ro_call (evL_cons up_h evL_nil) rfl (cNaN_ok _) qhcf69) rfl <| ar (ro_move up_h) rfl <| al_case up_h (fun hb_2 hq_2 => ?_) (fun hb_2 hq_2 => ?_)
 ·cases hq_2
 refine al_skip' ⟨_, rfl, .inl hb_2⟩ rfl ?_
 refine al_skip' ⟨_, rfl, .inl (up_m rfl hb_2)⟩ rfl ?_
 refine al_skip' ⟨_, rfl, .inl (u2 rfl hb_2)⟩ rfl ?_
 refine ar (ro_pickF (up_m rfl (u2 rfl hb_2)) ev_c) rfl <| ar (ro_move up_h) rfl <| al_ro' (ro_move (u8 rfl s0_1)) ⟨_, rfl, up_h⟩ rfl ?_
 refine al_ro' (ro_move (up_m rfl (u8 rfl s1_1))) ⟨_, rfl, (up_m rfl up_h)⟩ rfl ?_
 refine al_ro' (ro_lss (up_m rfl up_h) up_h) ⟨_, rfl, (u2 rfl up_h)⟩ rfl ?_
 refine ar (ro_pickF (up_m rfl (u2 rfl up_h)) up_h) rfl <| ar (ro_assign up_h) rfl <| ae1 up_h ?_; clear hb_2 s0_1 s1_1; intro e_6 s4_6
 refine then_n <| aw_ret <| ret1 (.inr rfl) (by kernel_rfl) (resV_tmp s4_6) (.ro _ rfl) ?_
 clear s4_6 ml_0
 rfl
def Blw (xs : List Int) (t : Int) (i : Nat) : Prop := ∀ k : Nat, k < i → xs.getD k default < t
def Abo (xs : List Int) (t : Int) (i : Nat) : Prop := ∀ k : Nat, i ≤ k → k < xs.length → t ≤ xs.getD k default
def Srt (xs : List Int) : Prop := ∀ i j : Nat, i ≤ j → j < xs.length → xs.getD i default ≤ xs.getD j default
def lowN (xs : List Int) (t : Int) : Nat := (xs.takeWhile (fun x => decide (x < t))).length
theorem lowN_eq {t : Int} : ∀ {xs : List Int} {i : Nat}, i ≤ xs.length → Blw xs t i → Abo xs t i → lowN xs t = i
 | [], i, h, _, _ => by simp at h; subst h; rfl
 | x :: xs, 0, _, _, h => by
  have := h 0 (Nat.le_refl _) (by simp)
  simp at this
  simp [lowN, show ¬ x < t by omega]
 | x :: xs, i + 1, h, hb, ha => by
  have := hb 0 (by omega)
  simp at this
  have ih := lowN_eq (xs := xs) (i := i) (t := t) (by simpa using h) (fun k hk => by have := hb (k + 1) (by omega); simpa using this) (fun k h1 h2 => by have := ha (k + 1) (by omega) (by simpa using h2); simpa using this)
  unfold lowN at ih ⊢
  simp [this, ih]
theorem Blw.step {xs : List Int} {t : Int} (hs : Srt xs) {i : Nat} (hi : i < xs.length) (h : xs.getD i default < t) : Blw xs t (i + 1) := fun k hk => by
 have := hs k i (by omega) hi; omega
theorem Abo.step {xs : List Int} {t : Int} (hs : Srt xs) {i : Nat} (h : t ≤ xs.getD i default) : Abo xs t i := fun k h1 h2 => by
 have := hs i k h1 h2; omega
set_option maxRecDepth 100000 in
set_option maxHeartbeats 4000000 in
theorem search_ok (xs : List Int) (t : Int) (hs : Srt xs) (hl : xs.length ≤ 1000000) : FnOk Try.prog 71 [.row 1 (xs.map iE), mA t] (fun q => q = .tuple [mA (lowN xs t), tbA (decide (lowN xs t < xs.length ∧ xs.getD (lowN xs t) default = t))]) := by
 refine fnOk_of (fn := Try.f71) 54 (by kernel_rfl) rfl (by kernel_rfl) (Nat.le_of_ble_eq_true rfl) ?_
 intro e_0 m_0 hA hm_0
 have s0_0 : evA e_0 (.tmp 0) = _ := hA 0 _ rfl
 have s1_0 : evA e_0 (.tmp 1) = _ := hA 1 _ rfl
 have ml_0 : m_0.length = 0 := by rw [hm_0]; rfl
 clear hA hm_0
 refine aw_seq <| at_ <| ar (ro_assign ev_c) rfl <| ar (ro_assign ev_c) rfl <| ae2 (u2 rfl s0_0) (u2 rfl s1_0) ?_; clear s0_0 s1_0; intro e_1 s0_1 s1_1
 refine then_n <| aw_seq <| at_ <| ar (ro_move s0_1) rfl <| ar (ro_eq (ro_len_row up_h rfl y17_sl40.1) (by simp only [lnS] <;> rfl)) rfl ?_
 refine ar (ro_assign up_h) rfl <| ae3 (up_m rfl (u2 rfl s0_1)) (up_m rfl (u2 rfl s1_1)) up_h ?_; clear s0_1 s1_1; intro e_2 s0_2 s1_2 s6_2
 refine then_n <| aw_seq <| at_ <| ar (ro_move s6_2) rfl <| ar (ro_assign ev_c) rfl <| ar (ro_assign (up_m rfl up_h)) rfl <| ae5 (up_m rfl (u2 rfl s0_2)) (up_m rfl (u2 rfl s1_2)) (up_m rfl (u2 rfl s6_2)) (up_m rfl up_h) up_h ?_; clear s0_2 s1_2 s6_2; intro e_3 s0_3 s1_3 s6_3 s7_3 s8_3
 refine then_n <| aw_seq <| aw_block <| aw_loop (S := (Int × Int)) (fun s e mem => match s with | ⟨i, j⟩ => (evA e (.tmp 7) = .v (.int .i64 i)) ∧ (evA e (.tmp 8) = .v (.int .i64 j)) ∧ (evA e (.tmp 0) = evA e_3 (.tmp 0)) ∧ (evA e (.tmp 1) = evA e_3 (.tmp 1)) ∧ (evA e (.tmp 6) = evA e_3 (.tmp 6)) ∧ (mem.length = 0) ∧ ((0 ≤ i ∧ i ≤ j ∧ j ≤ xs.length ∧ Blw xs t i.toNat ∧ Abo xs t j.toNat))) (fun s => match s with | ⟨i, j⟩ => (j - i).toNat) ⟨_, _⟩ ⟨s7_3, s8_3, rfl, rfl, rfl, ml_0, ?_⟩ ?_
 ·(exact ⟨by omega, by omega, by omega, fun k hk => absurd hk (by simp), fun k h1 h2 => absurd h1 (by omega)⟩)
 ·rintro ⟨i, j⟩ e_4 m_4 ⟨s7_4, s8_4, k0_4, k1_4, k6_4, ml_4, hinv⟩
  have s0_4 := k0_4.trans s0_3
  have s1_4 := k1_4.trans s1_3
  have s6_4 := k6_4.trans s6_3
  (obtain ⟨p1, p2, p3, p4, p5⟩ := hinv)
  refine aw_seq <| aw_seq <| at_ <| ar (ro_move s7_4) rfl <| ar (ro_move (up_m rfl s8_4)) rfl <| ar (ro_lss (up_m rfl up_h) up_h) rfl <| ae6 (up_m rfl (u2 rfl s0_4)) (up_m rfl (u2 rfl s1_4)) (up_m rfl (u2 rfl s6_4)) (up_m rfl (u2 rfl s7_4)) (up_m rfl (u2 rfl s8_4)) up_h ?_; clear s0_4 s1_4 s6_4 s7_4 s8_4; intro e_5 s0_5 s1_5 s6_5 s7_5 s8_5 s15_5
  refine then_n <| aw_case s15_5 (fun hq_6 => ?_) (fun hq_6 => ?_)
  ·replace hq_6 := bt hq_6
   refine aw_skip <| then_n <| aw_block <| aw_seq <| at_ <| ar (ro_move s7_5) rfl <| ar (ro_move (up_m rfl s8_5)) rfl ?_
   (refine ar (ro_add' (up_m rfl up_h) up_h ?_) rfl ?_; · ((first | unfold In64 | unfold InU64); omega))
   (refine ar (ro_cvU up_h (by kernel_rfl) (by kernel_rfl) ?_) rfl ?_; · ((first | unfold In64 | unfold InU64); omega))
   refine ar (ro_shr (c := 2) up_h ev_c (by decide) (by decide)) rfl ?_
   (refine ar (ro_cvI up_h (by kernel_rfl) (by kernel_rfl) ?_) rfl ?_; · ((first | unfold In64 | unfold InU64); omega))
   refine ar (ro_assign up_h) rfl <| ae6 (up_m rfl (u2 rfl (u4 rfl s0_5))) (up_m rfl (u2 rfl (u4 rfl s1_5))) (up_m rfl (u2 rfl (u4 rfl s6_5))) (up_m rfl (u2 rfl (u4 rfl s7_5))) (up_m rfl (u2 rfl (u4 rfl s8_5))) up_h ?_; clear s0_5 s15_5 s1_5 s6_5 s7_5 s8_5; intro e_7 s0_7 s1_7 s6_7 s7_7 s8_7 s9_7
   refine then_n <| aw_seq <| at_ <| ar (ro_move s0_7) rfl <| ar (ro_move (up_m rfl s9_7)) rfl <| ar (ro_eq (ro_ix y17_sl40 (up_m rfl up_h) up_h (by omega) (by first | (refine idx_map ?_; first | omega | (simp only [lnS]; omega)) | (refine idx_mapI ?_; first | omega | (simp only [lnS]; omega)) | (refine idx_mapN ?_; first | omega | (simp only [lnS]; omega)) | rfl)) (by simp only [pS, Value.cells, Nat.reduceAdd] <;> rfl)) rfl ?_
   refine ar (ro_eq (ro_ld_ref y17_ty3 rfl up_h (nle rfl)) (by simp only [pS, Value.cells, Nat.reduceAdd] <;> rfl)) rfl ?_
   refine ar (ro_move (u4 rfl s1_7)) rfl <| ar (ro_call (evL_cons (up_m rfl up_h) (evL_cons up_h evL_nil)) rfl (less_ok _ _) y17_hcf84) rfl <| ae7 (u2 rfl (u4 rfl s0_7)) (u2 rfl (u4 rfl s1_7)) (u2 rfl (u4 rfl s6_7)) (u2 rfl (u4 rfl s7_7)) (u2 rfl (u4 rfl s8_7)) (u2 rfl (u4 rfl s9_7)) up_h ?_; clear s0_7 s1_7 s6_7 s7_7 s8_7 s9_7; intro e_8 s0_8 s1_8 s6_8 s7_8 s8_8 s9_8 s27_8
   refine then_n <| aw_case s27_8 (fun hq_9 => ?_) (fun hq_9 => ?_)
   ·replace hq_9 := bt hq_9
    refine at_ <| ar (ro_move s9_8) rfl ?_
    (refine ar (ro_add' up_h ev_c ?_) rfl ?_; · ((first | unfold In64 | unfold InU64); omega))
    refine ar (ro_assign up_h) rfl <| ae5 (up_m rfl (u2 rfl s0_8)) (up_m rfl (u2 rfl s1_8)) (up_m rfl (u2 rfl s6_8)) up_h (up_m rfl (u2 rfl s8_8)) ?_; clear s0_8 s1_8 s27_8 s6_8 s7_8 s8_8 s9_8; intro e_10 s0_10 s1_10 s6_10 s7_10 s8_10
    refine block_n <| then_n <| ⟨⟨_, _⟩, ⟨s7_10, s8_10, (s0_10.trans s0_3.symm), (s1_10.trans s1_3.symm), (s6_10.trans s6_3.symm), ml_4, ?_⟩, ?_⟩
    ·(first | (have hk : xs.getD ((i + j) / 2).toNat default < t := (by assumption); refine ⟨by omega, by omega, by omega, ?_, p5⟩; rw [show ((i + j) / 2 + 1).toNat = ((i + j) / 2).toNat + 1 by omega]; exact Blw.step hs (by omega) hk) | (have hk : t ≤ xs.getD ((i + j) / 2).toNat default := (by first | omega | (simp_all; done)); exact ⟨by omega, by omega, by omega, p4, Abo.step hs hk⟩))
    ·((try dsimp only); omega)
   replace hq_9 := bf hq_9
   refine at_ <| ar (ro_move s9_8) rfl <| ar (ro_assign up_h) rfl <| ae5 (u2 rfl s0_8) (u2 rfl s1_8) (u2 rfl s6_8) (u2 rfl s7_8) up_h ?_; clear s0_8 s1_8 s27_8 s6_8 s7_8 s8_8 s9_8; intro e_11 s0_11 s1_11 s6_11 s7_11 s8_11
   refine block_n <| then_n <| ⟨⟨_, _⟩, ⟨s7_11, s8_11, (s0_11.trans s0_3.symm), (s1_11.trans s1_3.symm), (s6_11.trans s6_3.symm), ml_4, ?_⟩, ?_⟩
   ·(first | (have hk : xs.getD ((i + j) / 2).toNat default < t := (by assumption); refine ⟨by omega, by omega, by omega, ?_, p5⟩; rw [show ((i + j) / 2 + 1).toNat = ((i + j) / 2).toNat + 1 by omega]; exact Blw.step hs (by omega) hk) | (have hk : t ≤ xs.getD ((i + j) / 2).toNat default := (by first | omega | (simp_all; done)); exact ⟨by omega, by omega, by omega, p4, Abo.step hs hk⟩))
   ·((try dsimp only); omega)
  replace hq_6 := bf hq_6
  refine aw_exit <| then_x <| then_x <| block_hit <| then_n <| aw_seq <| at_ <| ar (ro_move s7_5) rfl <| ar (ro_move (up_m rfl s7_5)) rfl <| ar (ro_move (u2 rfl s6_5)) rfl <| ar (ro_lss (up_m rfl up_h) up_h) rfl <| ar (ro_move up_h) rfl <| al_case up_h (fun hb_12 hq_12 => ?_) (fun hb_12 hq_12 => ?_)
  ·replace hq_12 := bt hq_12
   refine al_ro' (ro_move (up_m rfl (u4 rfl s0_5))) ⟨_, rfl, hb_12⟩ rfl ?_
   refine al_ro' (ro_move (u2 rfl (u4 rfl s7_5))) ⟨_, rfl, (up_m rfl hb_12)⟩ rfl ?_
   refine al_ro' (ro_eq (ro_ix y17_sl40 (up_m rfl up_h) up_h (by omega) (by first | (refine idx_map ?_; first | omega | (simp only [lnS]; omega)) | (refine idx_mapI ?_; first | omega | (simp only [lnS]; omega)) | (refine idx_mapN ?_; first | omega | (simp only [lnS]; omega)) | rfl)) (by simp only [pS, Value.cells, Nat.reduceAdd] <;> rfl)) ⟨_, rfl, (u2 rfl hb_12)⟩ rfl ?_
   refine al_ro' (ro_eq (ro_ld_ref y17_ty3 rfl up_h (nle rfl)) (by simp only [pS, Value.cells, Nat.reduceAdd] <;> rfl)) ⟨_, rfl, (up_m rfl (u2 rfl hb_12))⟩ rfl ?_
   refine al_ro' (ro_move (up_m rfl (u8 rfl s1_5))) ⟨_, rfl, (u4 rfl hb_12)⟩ rfl ?_
   refine al_ro' (ro_eql (up_m rfl up_h) up_h) ⟨_, rfl, (up_m rfl (u4 rfl hb_12))⟩ rfl ?_
   refine al_ro' (ro_move up_h) ⟨_, rfl, (u2 rfl (u4 rfl hb_12))⟩ rfl ?_
   refine al_case up_h (fun hb_13 hq_13 => ?_) (fun hb_13 hq_13 => ?_)
   ·replace hq_13 := bt hq_13
    refine al_skip' ⟨_, rfl, .inl hb_13⟩ rfl ?_
    refine al_skip' ⟨_, rfl, .inl (up_m rfl hb_13)⟩ rfl ?_
    refine al_skip' ⟨_, rfl, .inl (u2 rfl hb_13)⟩ rfl ?_
    refine al_skip' ⟨_, rfl, .inl (up_m rfl (u2 rfl hb_13))⟩ rfl ?_
    refine al_skip' ⟨_, rfl, .inl (u4 rfl hb_13)⟩ rfl ?_
    refine al_skip' ⟨_, rfl, .inl (up_m rfl (u4 rfl hb_13))⟩ rfl ?_
    refine al_skip' ⟨_, rfl, .inr up_h⟩ rfl ?_
    refine al_skip' ⟨_, rfl, .inr (up_m rfl up_h)⟩ rfl ?_
    refine al_skip' ⟨_, rfl, .inl (u8 rfl hb_13)⟩ rfl ?_
    refine al_ro' (ro_pickT (up_m rfl (u8 rfl hb_13)) ev_c) ⟨_, rfl, (u16 rfl hb_12)⟩ rfl ?_
    refine ar (ro_pickT (up_m rfl (u16 rfl hb_12)) up_h) rfl <| ar (ro_assign (u2 rfl (u4 rfl (u16 rfl up_h)))) rfl <| ar (ro_assign (up_m rfl up_h)) rfl <| ae2 (up_m rfl up_h) up_h ?_; clear hb_12 hb_13 s0_5 s15_5 s1_5 s6_5 s7_5 s8_5; intro e_14 s4_14 s5_14
    refine then_n <| aw_ret <| ret2 (.inr rfl) (by kernel_rfl) (resV_tmp s4_14) (resV_tmp s5_14) (.ro _ rfl) (.ro _ rfl) ?_
    clear s4_14 s5_14 ml_4
    (have hlo := lowN_eq (by omega) p4 (show Abo xs t i.toNat by rwa [show i.toNat = j.toNat by omega]); have hi : ((i.toNat : Nat) : Int) = i := (by omega); rw [hlo, hi]; refine congrArg (fun b => AV.tuple [mA i, tbA b]) ?_; symm; first | exact decide_eq_true ⟨by omega, by assumption⟩ | exact decide_eq_false (fun h => absurd h.2 (by assumption)) | exact decide_eq_false (fun h => by have := h.1; omega))
   replace hq_13 := bf hq_13
   refine al_ro' (ro_move (u4 rfl (u8 rfl s0_5))) ⟨_, rfl, hb_13⟩ rfl ?_
   refine al_ro' (ro_move (up_m rfl (u4 rfl (u8 rfl s7_5)))) ⟨_, rfl, (up_m rfl hb_13)⟩ rfl ?_
   refine al_ro' (ro_eq (ro_ix y17_sl40 (up_m rfl up_h) up_h (by omega) (by first | (refine idx_map ?_; first | omega | (simp only [lnS]; omega)) | (refine idx_mapI ?_; first | omega | (simp only [lnS]; omega)) | (refine idx_mapN ?_; first | omega | (simp only [lnS]; omega)) | rfl)) (by simp only [pS, Value.cells, Nat.reduceAdd] <;> rfl)) ⟨_, rfl, (u2 rfl hb_13)⟩ rfl ?_
   refine al_ro' (ro_eq (ro_ld_ref y17_ty3 rfl up_h (nle rfl)) (by simp only [pS, Value.cells, Nat.reduceAdd] <;> rfl)) ⟨_, rfl, (up_m rfl (u2 rfl hb_13))⟩ rfl ?_
   refine al_ro' (ro_call (evL_cons up_h evL_nil) rfl (sNaN_ok _) y17_hcf85) ⟨_, rfl, (u4 rfl hb_13)⟩ rfl ?_
   refine al_ro' (ro_move up_h) ⟨_, rfl, (up_m rfl (u4 rfl hb_13))⟩ rfl ?_
   refine al_case up_h (fun hb_15 hq_15 => ?_) (fun hb_15 hq_15 => ?_)
   ·cases hq_15
   refine al_skip' ⟨_, rfl, .inl hb_15⟩ rfl ?_
   refine al_skip' ⟨_, rfl, .inl (up_m rfl hb_15)⟩ rfl ?_
   refine al_ro' (ro_pickF (u2 rfl hb_15) ev_c) ⟨_, rfl, (u8 rfl hb_13)⟩ rfl ?_
   refine al_ro' (ro_pickF (up_m rfl (u8 rfl hb_13)) up_h) ⟨_, rfl, (u16 rfl hb_12)⟩ rfl ?_
   refine ar (ro_pickT (up_m rfl (u16 rfl hb_12)) up_h) rfl <| ar (ro_assign (u2 rfl (u4 rfl (u16 rfl up_h)))) rfl <| ar (ro_assign (up_m rfl up_h)) rfl <| ae2 (up_m rfl up_h) up_h ?_; clear hb_12 hb_13 hb_15 s0_5 s15_5 s1_5 s6_5 s7_5 s8_5; intro e_17 s4_17 s5_17
   refine then_n <| aw_ret <| ret2 (.inr rfl) (by kernel_rfl) (resV_tmp s4_17) (resV_tmp s5_17) (.ro _ rfl) (.ro _ rfl) ?_
   clear s4_17 s5_17 ml_4
   (have hlo := lowN_eq (by omega) p4 (show Abo xs t i.toNat by rwa [show i.toNat = j.toNat by omega]); have hi : ((i.toNat : Nat) : Int) = i := (by omega); rw [hlo, hi]; refine congrArg (fun b => AV.tuple [mA i, tbA b]) ?_; symm; first | exact decide_eq_true ⟨by omega, by assumption⟩ | exact decide_eq_false (fun h => absurd h.2 (by assumption)) | exact decide_eq_false (fun h => by have := h.1; omega))
  replace hq_12 := bf hq_12
  refine al_skip' ⟨_, rfl, .inl hb_12⟩ rfl ?_
  refine al_skip' ⟨_, rfl, .inl (up_m rfl hb_12)⟩ rfl ?_
  refine al_skip' ⟨_, rfl, .inl (u2 rfl hb_12)⟩ rfl ?_
  refine al_skip' ⟨_, rfl, .inl (up_m rfl (u2 rfl hb_12))⟩ rfl ?_
  refine al_skip' ⟨_, rfl, .inl (u4 rfl hb_12)⟩ rfl ?_
  refine al_skip' ⟨_, rfl, .inl (up_m rfl (u4 rfl hb_12))⟩ rfl ?_
  refine al_skip' ⟨_, rfl, .inl (u2 rfl (u4 rfl hb_12))⟩ rfl ?_
  refine al_skip' ⟨_, rfl, .inr up_h⟩ rfl ?_
  refine al_skip' ⟨_, rfl, .inr (up_m rfl up_h)⟩ rfl ?_
  refine al_skip' ⟨_, rfl, .inr (u2 rfl up_h)⟩ rfl ?_
  refine al_skip' ⟨_, rfl, .inr (up_m rfl (u2 rfl up_h))⟩ rfl ?_
  refine al_skip' ⟨_, rfl, .inr (u4 rfl up_h)⟩ rfl ?_
  refine al_skip' ⟨_, rfl, .inr (up_m rfl (u4 rfl up_h))⟩ rfl ?_
  refine al_skip' ⟨_, rfl, .inr up_h⟩ rfl ?_
  refine al_skip' ⟨_, rfl, .inr (up_m rfl up_h)⟩ rfl ?_
  refine al_skip' ⟨_, rfl, .inr (u8 rfl up_h)⟩ rfl ?_
  refine al_skip' ⟨_, rfl, .inl (u16 rfl hb_12)⟩ rfl ?_
  refine ar (ro_pickF (up_m rfl (u16 rfl hb_12)) ev_c) rfl <| ar (ro_assign (u2 rfl (u4 rfl (u16 rfl up_h)))) rfl <| ar (ro_assign (up_m rfl up_h)) rfl <| ae2 (up_m rfl up_h) up_h ?_; clear hb_12 s0_5 s15_5 s1_5 s6_5 s7_5 s8_5; intro e_18 s4_18 s5_18
  refine then_n <| aw_ret <| ret2 (.inr rfl) (by kernel_rfl) (resV_tmp s4_18) (resV_tmp s5_18) (.ro _ rfl) (.ro _ rfl) ?_
  clear s4_18 s5_18 ml_4
  (have hlo := lowN_eq (by omega) p4 (show Abo xs t i.toNat by rwa [show i.toNat = j.toNat by omega]); have hi : ((i.toNat : Nat) : Int) = i := (by omega); rw [hlo, hi]; refine congrArg (fun b => AV.tuple [mA i, tbA b]) ?_; symm; first | exact decide_eq_true ⟨by omega, by assumption⟩ | exact decide_eq_false (fun h => absurd h.2 (by assumption)) | exact decide_eq_false (fun h => by have := h.1; omega))
def beaN (bs : List Bea) (p : Int) : Nat → Nat
 | 0 => 0
 | n + 1 => if plaP bs n ≤ p then n else beaN bs p n
theorem beaN_at {bs : List Bea} {p : Int} (h0 : 0 ≤ p) : ∀ {n : Nat}, 1 ≤ n → beaN bs p n < n ∧ plaP bs (beaN bs p n) ≤ p ∧ ∀ j : Nat, beaN bs p n < j → j < n → p < plaP bs j
 | n + 1, _ => by
  simp only [beaN]
  by_cases h : plaP bs n ≤ p
  ·rw [if_pos h]; exact ⟨by omega, h, fun j h1 h2 => by omega⟩
  ·rw [if_neg h]
   rcases Nat.eq_zero_or_pos n with hn | hn
   ·subst hn; simp [plaP] at h; omega
   ·obtain ⟨h1, h2, h3⟩ := beaN_at (bs := bs) h0 (n := n) hn
    refine ⟨by omega, h2, fun j h4 h5 => ?_⟩
    by_cases hj : j = n
    ·subst hj; omega
    ·exact h3 j h4 (by omega)
theorem Rgt.mono {l : Lin} (h : Rgt l) {i : Nat} : ∀ {j : Nat}, i ≤ j → j ≤ l.bs.length → plaP l.bs i + 1000 * ((j : Int) - i) ≤ plaP l.bs j
 | 0, h1, _ => by
  obtain rfl : i = 0 := by omega
  omega
 | j + 1, h1, h2 => by
  by_cases hij : i = j + 1
  ·subst hij; omega
  ·have := h.mono (i := i) (j := j) (by omega) (by omega)
   have := h.bea j (by omega)
   simp only [plaP]
   omega
theorem beaN_is {l : Lin} (h : Rgt l) {p : Int} {i : Nat} (hi : i < l.bs.length) (h1 : plaP l.bs i ≤ p) (h2 : i + 1 < l.bs.length → p < plaP l.bs (i + 1)) : beaN l.bs p l.bs.length = i := by
 have h0 : 0 ≤ p := by have := (h.pla (n := i) (by omega)).1; omega
 obtain ⟨b1, b2, b3⟩ := beaN_at (bs := l.bs) h0 (n := l.bs.length) h.n0
 rcases Nat.lt_trichotomy (beaN l.bs p l.bs.length) i with hlt | he | hgt
 ·have := b3 i hlt hi; omega
 ·exact he
 ·have := h.mono (i := i + 1) (j := beaN l.bs p l.bs.length) (by omega) (by omega)
  have := h2 (by omega)
  omega
theorem Rgt.srt {l : Lin} (h : Rgt l) : Srt (plaL l.bs l.bs.length) := fun i j hij hj => by
 rw [plaL_len] at hj
 rw [plaL_get (by omega), plaL_get (by omega)]
 have := h.mono hij (by omega)
 omega
theorem lowN_at {xs : List Int} {t : Int} : lowN xs t ≤ xs.length ∧ Blw xs t (lowN xs t) ∧ (lowN xs t < xs.length → t ≤ xs.getD (lowN xs t) default) := by
 induction xs with
 | nil => exact ⟨by simp [lowN], fun k hk => by simp [lowN] at hk, fun h => by simp [lowN] at h⟩
 | cons x xs ih =>
  obtain ⟨h1, h2, h3⟩ := ih
  by_cases hx : x < t
  ·have e : lowN (x :: xs) t = lowN xs t + 1 := by simp [lowN, hx]
   rw [e]
   refine ⟨by simp; omega, fun k hk => ?_, fun h => ?_⟩
   ·cases k with
    | zero => simpa using hx
    | succ k => have := h2 k (by omega); simpa using this
   ·have := h3 (by simp at h; omega); simpa using this
  ·have e : lowN (x :: xs) t = 0 := by simp [lowN, hx]
   rw [e]
   exact ⟨by simp, fun k hk => by omega, fun _ => by simp; omega⟩
theorem at_is {l : Lin} (h : Rgt l) {p : Int} (h0 : 0 ≤ p) (h1 : p ≤ plaP l.bs l.bs.length) (i : Nat) (hi : i = lowN (plaL l.bs l.bs.length) p) : i ≤ l.bs.length ∧ (i < l.bs.length + 1 → (plaL l.bs l.bs.length).getD i default = plaP l.bs i) ∧
 (plaP l.bs i = p → (beaN l.bs p l.bs.length : Int) = min (i : Int) (l.bs.length - 1)) ∧ (plaP l.bs i ≠ p → 1 ≤ i ∧ (beaN l.bs p l.bs.length : Int) = min ((i : Int) - 1) (l.bs.length - 1)) := by
 subst hi
 obtain ⟨a1, a2, a3⟩ := lowN_at (xs := plaL l.bs l.bs.length) (t := p)
 rw [plaL_len] at a1 a3
 have hn0 := h.n0
 have hile : lowN (plaL l.bs l.bs.length) p ≤ l.bs.length := by
  rcases Nat.lt_or_ge (lowN (plaL l.bs l.bs.length) p) (l.bs.length + 1) with h2 | h2
  ·omega
  ·have := a2 l.bs.length (by omega)
   rw [plaL_get (Nat.le_refl _)] at this
   omega
 have a4 := a3 (by omega)
 rw [plaL_get hile] at a4
 have low : ∀ k : Nat, k < lowN (plaL l.bs l.bs.length) p → plaP l.bs k < p := fun k hk => by
  have := a2 k hk; rwa [plaL_get (by omega)] at this
 generalize hi : lowN (plaL l.bs l.bs.length) p = i at *
 refine ⟨hile, fun h => plaL_get (by omega), fun he => ?_, fun hne => ?_⟩
 ·by_cases hlast : i = l.bs.length
  ·have hb : beaN l.bs p l.bs.length = l.bs.length - 1 := beaN_is h (by omega) (by have := low (l.bs.length - 1) (by omega); omega) (fun hh => by omega)
   rw [hb]; omega
  ·have hb : beaN l.bs p l.bs.length = i := beaN_is h (by omega) (by omega) (fun hh => by have := h.mono (i := i) (j := i + 1) (by omega) (by omega); omega)
   rw [hb]; omega
 ·have hi1 : 1 ≤ i := by
   rcases Nat.eq_zero_or_pos i with h2 | h2
   ·rw [h2] at hne a4; simp only [plaP] at hne a4; omega
   ·exact h2
  have hb : beaN l.bs p l.bs.length = i - 1 := beaN_is h (by omega) (by have := low (i - 1) (by omega); omega) (fun hh => by rw [show i - 1 + 1 = i by omega]; omega)
  rw [hb]
  exact ⟨hi1, by omega⟩
set_option maxRecDepth 100000 in
set_option maxHeartbeats 4000000 in
theorem at_ok (l : Lin) (h : Rgt l) (p : Int) (h0 : 0 ≤ p) (h1 : p ≤ plaP l.bs l.bs.length) : FnOk Try.prog 64 [tkA l, mA p] (fun q => q = .tuple [mA (beaN l.bs p l.bs.length), mA (p - plaP l.bs (beaN l.bs p l.bs.length))]) := by
 refine fnOk_of (fn := Try.f64) 40 (by kernel_rfl) rfl (by kernel_rfl) (Nat.le_of_ble_eq_true rfl) ?_
 intro e_0 m_0 hA hm_0
 have s0_0 : evA e_0 (.tmp 0) = _ := hA 0 _ rfl
 have s1_0 : evA e_0 (.tmp 1) = _ := hA 1 _ rfl
 have ml_0 : m_0.length = 0 := by rw [hm_0]; rfl
 clear hA hm_0
 have hn1 := h.n1; have hn0 := h.n0; have hpl := plaL_len (bs := l.bs) (n := l.bs.length); have hpb := h.pla (n := l.bs.length) (Nat.le_refl _); obtain ⟨g1, g2, g3, g4⟩ := at_is h h0 h1 _ rfl; obtain ⟨b1, _, _⟩ := beaN_at (bs := l.bs) h0 (n := l.bs.length) h.n0; have hbp := h.pla (n := beaN l.bs p l.bs.length) (by omega)
 refine aw_seq <| at_ <| ar (ro_assign ev_c) rfl <| ar (ro_assign ev_c) rfl <| ae2 (u2 rfl s0_0) (u2 rfl s1_0) ?_; clear s0_0 s1_0; intro e_1 s0_1 s1_1
 refine then_n <| aw_seq <| at_ <| ar (ro_move s0_1) rfl <| ar (ro_nilR up_h) rfl <| ar (ro_eq (ro_fld_ref qfl83_1 rfl up_h) (by simp only [pS, Value.cells, Nat.reduceAdd] <;> rfl)) rfl ?_
 refine ar (ro_eq (ro_ld_ref y17_ty40 rfl up_h (nle rfl)) (by simp only [pS, Value.cells, Nat.reduceAdd] <;> rfl)) rfl ?_
 refine ar (ro_move (u4 rfl s1_1)) rfl <| ar (ro_call (evL_cons (up_m rfl up_h) (evL_cons up_h evL_nil)) rfl (search_ok _ _ h.srt (by omega)) y17_hcf71) rfl ?_
 refine ar (ro_move up_h) rfl <| ar (ro_extract up_h rfl) rfl <| ar (ro_extract (up_m rfl up_h) rfl) rfl <| ar (ro_assign (up_m rfl up_h)) rfl <| ar (ro_assign (up_m rfl up_h)) rfl <| ae4 (up_m rfl (u2 rfl (u8 rfl s0_1))) (up_m rfl (u2 rfl (u8 rfl s1_1))) (up_m rfl up_h) up_h ?_; clear s0_1 s1_1; intro e_2 s0_2 s1_2 s6_2 s7_2
 refine then_n <| aw_seq <| aw_seq <| at_ <| ar (ro_move s7_2) rfl <| ar (ro_not up_h) rfl <| ae4 (u2 rfl s0_2) (u2 rfl s1_2) (u2 rfl s6_2) up_h ?_; clear s0_2 s1_2 s6_2 s7_2; intro e_3 s0_3 s1_3 s6_3 s18_3
 refine then_n <| aw_case s18_3 (fun hq_4 => ?_) (fun hq_4 => ?_)
 ·replace hq_4 := bnt hq_4
  (have hf : ¬ (lowN (plaL l.bs l.bs.length) p < (plaL l.bs l.bs.length).length ∧ (plaL l.bs l.bs.length).getD (lowN (plaL l.bs l.bs.length) p) default = p) := (by assumption); have e1 := (g4 (fun he => hf ⟨by omega, by rw [g2 (by omega)]; exact he⟩)).2)
  refine at_ <| ar (ro_move s6_3) rfl ?_
  (refine ar (ro_sub' up_h ev_c ?_) rfl ?_; · (unfold In64; omega))
  refine ar (ro_assign up_h) rfl <| ae3 (up_m rfl (u2 rfl s0_3)) (up_m rfl (u2 rfl s1_3)) up_h ?_; clear s0_3 s18_3 s1_3 s6_3; intro e_5 s0_5 s1_5 s6_5
  refine then_n <| aw_seq <| at_ <| ar (ro_move s6_5) rfl <| ar (ro_move (up_m rfl s0_5)) rfl <| ar (ro_nilR up_h) rfl <| ar (ro_eq (ro_fld_ref qfl83_0 rfl up_h) (by simp only [pS, Value.cells, Nat.reduceAdd] <;> rfl)) rfl ?_
  refine ar (ro_eq (ro_fld_ref qfl26_2 rfl up_h) (by simp only [pS, Value.cells, Nat.reduceAdd] <;> rfl)) rfl ?_
  refine ar (ro_eq (ro_ld_ref y17_ty23 rfl up_h (nle rfl)) (by simp only [pS, Value.cells, Nat.reduceAdd] <;> rfl)) rfl ?_
  refine ar (ro_eq (ro_len_row up_h rfl y17_sl23.1) (by simp only [lnS] <;> rfl)) rfl ?_
  (refine ar (ro_sub' up_h ev_c ?_) rfl ?_; · (unfold In64; omega))
  refine ar (ro_min (up_m rfl (u2 rfl (u4 rfl up_h))) up_h) rfl <| ar (ro_assign up_h) rfl <| ae3 (u2 rfl (u8 rfl s0_5)) (u2 rfl (u8 rfl s1_5)) up_h ?_; clear s0_5 s1_5 s6_5; intro e_6 s0_6 s1_6 s6_6
  refine then_n <| aw_seq <| aw_draw 12 (by kernel_rfl) (by kernel_rfl) (by kernel_rfl) (by kernel_rfl) ?_
  refine dr (ro_move s6_6) rfl <| dr (ro_move (up_m rfl s1_6)) rfl <| dr (ro_move (u2 rfl s0_6)) rfl <| dr (ro_nilR up_h) rfl <| dr (ro_eq (ro_fld_ref qfl83_1 rfl up_h) (by simp only [pS, Value.cells, Nat.reduceAdd] <;> rfl)) rfl ?_
  refine dr (ro_eq (ro_ld_ref y17_ty40 rfl up_h (nle rfl)) (by simp only [pS, Value.cells, Nat.reduceAdd] <;> rfl)) rfl ?_
  refine dr (ro_move (u2 rfl (u4 rfl s6_6))) rfl <| dr (ro_eq (ro_ix y17_sl40 (up_m rfl up_h) up_h (by omega) (by first | (refine idx_map ?_; first | omega | (simp only [lnS]; omega)) | (refine idx_mapI ?_; first | omega | (simp only [lnS]; omega)) | (refine idx_mapN ?_; first | omega | (simp only [lnS]; omega)) | rfl)) (by simp only [pS, Value.cells, Nat.reduceAdd] <;> rfl)) rfl ?_
  refine dr (ro_eq (ro_ld_ref y17_ty3 rfl up_h (nle rfl)) (by simp only [pS, Value.cells, Nat.reduceAdd] <;> rfl)) rfl ?_
  refine dr (ro_sub (up_m rfl (u2 rfl (u4 rfl up_h))) up_h) rfl <| dr (ro_assign (up_m rfl (u8 rfl up_h))) rfl <| dr (ro_assign (up_m rfl up_h)) rfl <| ds_nil <| ae2 (up_m rfl up_h) up_h ?_; clear s0_6 s1_6 s6_6; intro e_7 s4_7 s5_7
  refine then_n <| aw_ret <| ret2 (.inr rfl) (by kernel_rfl) (resV_tmp s4_7) (resV_tmp s5_7) (.ro _ rfl) (.ro _ rfl) ?_
  clear s4_7 s5_7 ml_0
  (rw [← e1, Int.toNat_natCast, plaL_get (by omega), wrap_in (by unfold In64; omega)])
 replace hq_4 := bnf hq_4
 (have hf : (lowN (plaL l.bs l.bs.length) p < (plaL l.bs l.bs.length).length ∧ (plaL l.bs l.bs.length).getD (lowN (plaL l.bs l.bs.length) p) default = p) := (by assumption); have e1 := g3 (by rw [← g2 (by omega)]; exact hf.2))
 refine aw_skip <| then_n <| aw_seq <| at_ <| ar (ro_move s6_3) rfl <| ar (ro_move (up_m rfl s0_3)) rfl <| ar (ro_nilR up_h) rfl <| ar (ro_eq (ro_fld_ref qfl83_0 rfl up_h) (by simp only [pS, Value.cells, Nat.reduceAdd] <;> rfl)) rfl ?_
 refine ar (ro_eq (ro_fld_ref qfl26_2 rfl up_h) (by simp only [pS, Value.cells, Nat.reduceAdd] <;> rfl)) rfl ?_
 refine ar (ro_eq (ro_ld_ref y17_ty23 rfl up_h (nle rfl)) (by simp only [pS, Value.cells, Nat.reduceAdd] <;> rfl)) rfl ?_
 refine ar (ro_eq (ro_len_row up_h rfl y17_sl23.1) (by simp only [lnS] <;> rfl)) rfl ?_
 (refine ar (ro_sub' up_h ev_c ?_) rfl ?_; · (unfold In64; omega))
 refine ar (ro_min (up_m rfl (u2 rfl (u4 rfl up_h))) up_h) rfl <| ar (ro_assign up_h) rfl <| ae3 (u2 rfl (u8 rfl s0_3)) (u2 rfl (u8 rfl s1_3)) up_h ?_; clear s0_3 s18_3 s1_3 s6_3; intro e_8 s0_8 s1_8 s6_8
 refine then_n <| aw_seq <| aw_draw 12 (by kernel_rfl) (by kernel_rfl) (by kernel_rfl) (by kernel_rfl) ?_
 refine dr (ro_move s6_8) rfl <| dr (ro_move (up_m rfl s1_8)) rfl <| dr (ro_move (u2 rfl s0_8)) rfl <| dr (ro_nilR up_h) rfl <| dr (ro_eq (ro_fld_ref qfl83_1 rfl up_h) (by simp only [pS, Value.cells, Nat.reduceAdd] <;> rfl)) rfl ?_
 refine dr (ro_eq (ro_ld_ref y17_ty40 rfl up_h (nle rfl)) (by simp only [pS, Value.cells, Nat.reduceAdd] <;> rfl)) rfl ?_
 refine dr (ro_move (u2 rfl (u4 rfl s6_8))) rfl <| dr (ro_eq (ro_ix y17_sl40 (up_m rfl up_h) up_h (by omega) (by first | (refine idx_map ?_; first | omega | (simp only [lnS]; omega)) | (refine idx_mapI ?_; first | omega | (simp only [lnS]; omega)) | (refine idx_mapN ?_; first | omega | (simp only [lnS]; omega)) | rfl)) (by simp only [pS, Value.cells, Nat.reduceAdd] <;> rfl)) rfl ?_
 refine dr (ro_eq (ro_ld_ref y17_ty3 rfl up_h (nle rfl)) (by simp only [pS, Value.cells, Nat.reduceAdd] <;> rfl)) rfl ?_
 refine dr (ro_sub (up_m rfl (u2 rfl (u4 rfl up_h))) up_h) rfl <| dr (ro_assign (up_m rfl (u8 rfl up_h))) rfl <| dr (ro_assign (up_m rfl up_h)) rfl <| ds_nil <| ae2 (up_m rfl up_h) up_h ?_; clear s0_8 s1_8 s6_8; intro e_9 s4_9 s5_9
 refine then_n <| aw_ret <| ret2 (.inr rfl) (by kernel_rfl) (resV_tmp s4_9) (resV_tmp s5_9) (.ro _ rfl) (.ro _ rfl) ?_
 clear s4_9 s5_9 ml_0
 (rw [← e1, Int.toNat_natCast, plaL_get (by omega), wrap_in (by unfold In64; omega)])
end Go.Proofs.Ytjhcfpdgldpicaa
