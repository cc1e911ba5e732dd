/- The law of chapter 5 on texts of states. No conditions on a program. -/
import Derived.Test.YtfmjmngkgmlghaaDoorT0
import Derived.Test.YtfmjmngkgmlghaaDoorZ8
namespace Go.Proofs.YtfmjmngkgmlghaaDoor
open Go Go.RowKit Go.Proofs Go.Lib
set_option linter.unusedSimpArgs false
set_option linter.unusedVariables false
theorem z9_hcf11 : ∀ args w, (callFunc 11 args).run Tryd.prog w = .ok (.enter 11 args) w := fun _ _ => by kernel_rfl
theorem z9_hcf12 : ∀ args w, (callFunc 12 args).run Tryd.prog w = .ok (.enter 12 args) w := fun _ _ => by kernel_rfl
theorem z9_hcf13 : ∀ args w, (callFunc 13 args).run Tryd.prog w = .ok (.enter 13 args) w := fun _ _ => by kernel_rfl
theorem z9_hcf14 : ∀ args w, (callFunc 14 args).run Tryd.prog w = .ok (.enter 14 args) w := fun _ _ => by kernel_rfl
theorem z9_hcf15 : ∀ args w, (callFunc 15 args).run Tryd.prog w = .ok (.enter 15 args) w := fun _ _ => by kernel_rfl
theorem z9_hcf16 : ∀ args w, (callFunc 16 args).run Tryd.prog w = .ok (.enter 16 args) w := fun _ _ => by kernel_rfl
theorem z9_hcf17 : ∀ args w, (callFunc 17 args).run Tryd.prog w = .ok (.enter 17 args) w := fun _ _ => by kernel_rfl
theorem z9_hcf18 : ∀ args w, (callFunc 18 args).run Tryd.prog w = .ok (.enter 18 args) w := fun _ _ => by kernel_rfl
theorem z9_gq37 : Tryd.prog.eqGuardType Tryd.prog.depth 37 = false := by kernel_rfl
theorem z9_sq37 {a0 b0 : Int} {a1 b1 : Int} : EqV Tryd.prog 2 37 (.agg #[.int .i64 a0, .int .i64 a1]) (.agg #[.int .i64 b0, .int .i64 b1]) (decide (a0 = b0) && (decide (a1 = b1) && true)) := (eqs_struct [(3, 0), (3, 1)] (by kernel_rfl) (by kernel_rfl) (by kernel_rfl) (by kernel_rfl) (.cons (fun _ => by kernel_rfl) (fun _ => by kernel_rfl) (eqv_int (k := .i64) (k' := .i64) (by kernel_rfl) a0 b0) (.cons (fun _ => by kernel_rfl) (fun _ => by kernel_rfl) (eqv_int (k := .i64) (k' := .i64) (by kernel_rfl) a1 b1) .nil)))
theorem z9_ty35 : TyIs Tryd.prog 35 true 2 := ⟨by kernel_rfl, by kernel_rfl⟩
theorem z9_ty37 : TyIs Tryd.prog 37 true 2 := ⟨by kernel_rfl, by kernel_rfl⟩

/-- The two numbers and the error. -/
def prsV (l : List UInt8) : (Int × Int) × Int := if prsK l then ((numN (cutA l 32), numN (cutB l 32)), 0) else ((0, 0), 7)
theorem prsA_eq (l : List UInt8) : prsA l = .tuple [.agg [iA (prsV l).1.1, iA (prsV l).1.2], iA (prsV l).2] := by
  unfold prsA prsV; split <;> rfl
theorem prs_back {a b : Int} (ha : 0 ≤ a ∧ a ≤ 20000000000) (hb : 0 ≤ b ∧ b ≤ 20000000000) : prsV (fmtR a b 32).data.toList = ((a, b), 0) := by
  have da := dec_len_le 11 a.natAbs (by decide) (by have : (10 : Nat) ^ 11 = 100000000000 := by decide
                                                    omega)
  have db := dec_len_le 11 b.natAbs (by decide) (by have : (10 : Nat) ^ 11 = 100000000000 := by decide
                                                    omega)
  obtain ⟨ka, na⟩ := num_back (v := a) (D := 11) (by decide) da
  obtain ⟨kb, nb⟩ := num_back (v := b) (D := 11) (by decide) db
  obtain ⟨c1, c2⟩ := cut_fmt (a := a) (b := b) (c := 32) (by decide) ka
  unfold prsV prsK nkB
  rw [c1, c2, ka, kb, na, nb, decide_eq_true ha.1, decide_eq_true hb.1]; rfl
theorem state_zero {ps : List Piece} {post sq : Int} (h : stateE ps post sq = 0) : (0 ≤ post ∧ post ≤ ps.length) ∧ 0 ≤ sq ∧ sq ≤ 20000000000 := by
  obtain ⟨h1, h2⟩ := firstE_cons h
  have a1 := unlessE_zero h1 (by decide)
  have a2 := unlessE_zero (firstE_cons h2).1 (by decide)
  simp only [withinB, Bool.and_eq_true, decide_eq_true_eq] at a1 a2
  omega
set_option maxRecDepth 100000 in
set_option maxHeartbeats 4000000 in
theorem brakeRunTexts_ok (es er : Value) (hes : isE es) (her : isE er) (nm : ByteArray) (ps : List Piece) (post sq : Int) (tx : ByteArray) (hp : In64 post) (hq : In64 sq) :
    FnOkG Tryd.prog (gX es er) 4 [trA nm ps, .agg [iA post, iA sq], .v (.string tx)] (fun q => q = bA true) := by
  have f1 := itoa_len hp
  have f2 := itoa_len hq
  have f3 : (fmtR post sq 32).size = (itoa post).length + 1 + (itoa sq).length := by unfold fmtR; rw [bs_size]; simp; omega
  refine fnOkG_of (fn := Tryd.f4) (gX es er) 71 (by kernel_rfl) rfl (by kernel_rfl) (Nat.le_of_ble_eq_true rfl) ?_
  intro e_0 m_0 hA hm_0
  have s0_0 : evA e_0 (.tmp 0) = _ := hA 0 _ rfl
  have s1_0 : evA e_0 (.tmp 1) = _ := hA 1 _ rfl
  have s2_0 : evA e_0 (.tmp 2) = _ := hA 2 _ rfl
  have ml_0 : m_0.length = 1 := by rw [hm_0]; rfl
  have mo0_0 : m_0[0]? = some (.glob (gX es er)) := by rw [hm_0]; rfl
  clear hA hm_0
  refine aw_seq <| at_ <| al_stm (st_box s0_0 rfl ml_0) trivial rfl (fun m_1 hm_1 => ?_)
  have mo1_1 := m_push hm_1 ml_0
  have mo0_1 := m_push_o hm_1 mo0_0
  have ml_1 := m_push_l hm_1 ml_0
  have ml_1 : _ = 2 := ml_1
  clear hm_1 mo0_0
  refine al_stm (st_box (up_m rfl s1_0) rfl ml_1) trivial rfl (fun m_2 hm_2 => ?_)
  have mo2_2 := m_push hm_2 ml_1
  have mo1_2 := m_push_o hm_2 mo1_1
  have mo0_2 := m_push_o hm_2 mo0_1
  have ml_2 := m_push_l hm_2 ml_1
  have ml_2 : _ = 3 := ml_2
  clear hm_2 mo1_1 mo0_1
  refine ar (ro_assign ev_c) rfl <| ae3 (up_m rfl (u2 rfl s2_0)) (u2 rfl up_h) (up_m rfl up_h) ?_; clear s0_0 s1_0 s2_0; intro e_3 s2_3 s3_3 s4_3
  refine then_n <| aw_seq <| aw_seq <| at_ <| ar (ro_call evL_nil rfl (awake_ok) z9_hcf11) rfl <| ar (ro_not up_h) rfl <| ae4 (u2 rfl s2_3) (u2 rfl s3_3) (u2 rfl s4_3) up_h ?_; clear s2_3 s3_3 s4_3; intro e_4 s2_4 s3_4 s4_4 s15_4
  refine then_n <| aw_case s15_4 (fun hq_5 => ?_) (fun hq_5 => ?_)
  · replace hq_5 := bt' hq_5; cases hq_5
  replace hq_5 := bf' hq_5
  refine aw_skip <| then_n <| aw_seq <| aw_seq <| at_ <| ar (ro_eq (ro_ld_ptr z9_ty35 rfl mo1_2 s3_4 (nle rfl)) (by simp only [pS, Value.cells, Nat.reduceAdd] <;> rfl)) rfl ?_
  refine ar (ro_call (evL_cons up_h evL_nil) rfl (short_ok nm ps) z9_hcf12) rfl <| ar (ro_not up_h) rfl <| ar (ro_move up_h) rfl <| al_case up_h (fun hb_7 hq_7 => ?_) (fun hb_7 hq_7 => ?_)
  ·replace hq_7 := bnt hq_7
   refine al_skip' ⟨_, rfl, .inl hb_7⟩ rfl ?_
   refine al_skip' ⟨_, rfl, .inl (up_m rfl hb_7)⟩ rfl ?_
   refine al_skip' ⟨_, rfl, .inl (u2 rfl hb_7)⟩ rfl ?_
   refine ar (ro_pickT (up_m rfl (u2 rfl hb_7)) ev_c) rfl <| ae4 (u8 rfl s2_4) (u8 rfl s3_4) (u8 rfl s4_4) up_h ?_; clear hb_7 s15_4 s2_4 s3_4 s4_4; intro e_8 s2_8 s3_8 s4_8 s23_8
   refine then_n <| aw_true s23_8 <| aw_seq <| at_ <| ar (ro_assign ev_c) rfl <| ae1 up_h ?_; clear s23_8 s2_8 s3_8 s4_8; intro e_10 s6_10
   refine then_n <| aw_ret <| then_r <| ret1 (.inr rfl) (by kernel_rfl) (resV_tmp s6_10) (.ro _ rfl) ?_
   clear s6_10 mo2_2 mo1_2 mo0_2 ml_2
   (first | rfl | (exfalso; omega) | (simp; done) | (exfalso; simp_all; done) | (have hz := state_zero (ps := ps) (post := post) (sq := sq) (by assumption); have hb := prs_back (a := post) (b := sq) (by omega) hz.2; first | (rw [hb]; simp; done) | (exfalso; rw [hb] at *; simp_all; done) | (simp_all; done)))
  replace hq_7 := bnf hq_7
  refine al_ro' (ro_move (u4 rfl s2_4)) ⟨_, rfl, hb_7⟩ rfl ?_
  refine al_ro' (ro_len_str up_h rfl qun9) ⟨_, rfl, (up_m rfl hb_7)⟩ rfl ?_
  refine al_ro' (ro_gtr up_h ev_c) ⟨_, rfl, (u2 rfl hb_7)⟩ rfl ?_
  refine ar (ro_pickF (up_m rfl (u2 rfl hb_7)) up_h) rfl <| ae4 (u8 rfl s2_4) (u8 rfl s3_4) (u8 rfl s4_4) up_h ?_; clear hb_7 s15_4 s2_4 s3_4 s4_4; intro e_11 s2_11 s3_11 s4_11 s23_11
  refine then_n <| aw_case s23_11 (fun hq_12 => ?_) (fun hq_12 => ?_)
  ·replace hq_12 := bt hq_12
   refine aw_seq <| at_ <| ar (ro_assign ev_c) rfl <| ae1 up_h ?_; clear s23_11 s2_11 s3_11 s4_11; intro e_13 s6_13
   refine then_n <| aw_ret <| then_r <| ret1 (.inr rfl) (by kernel_rfl) (resV_tmp s6_13) (.ro _ rfl) ?_
   clear s6_13 mo2_2 mo1_2 mo0_2 ml_2
   (first | rfl | (exfalso; omega) | (simp; done) | (exfalso; simp_all; done) | (have hz := state_zero (ps := ps) (post := post) (sq := sq) (by assumption); have hb := prs_back (a := post) (b := sq) (by omega) hz.2; first | (rw [hb]; simp; done) | (exfalso; rw [hb] at *; simp_all; done) | (simp_all; done)))
  replace hq_12 := bf hq_12
  refine aw_skip <| then_n <| aw_seq <| at_ <| ar (ro_eq (ro_ld_ptr z9_ty37 rfl mo2_2 s4_11 (nle rfl)) (by simp only [pS, Value.cells, Nat.reduceAdd] <;> rfl)) rfl ?_
  refine ar (ro_callG (evL_cons up_h evL_nil) rfl mo0_2 (formatRun_ok es er post sq hp hq) z9_hcf13) rfl <| ar (ro_assign up_h) rfl <| ae4 (up_m rfl (u2 rfl s2_11)) (up_m rfl (u2 rfl s3_11)) (up_m rfl (u2 rfl s4_11)) up_h ?_; clear s23_11 s2_11 s3_11 s4_11; intro e_14 s2_14 s3_14 s4_14 s7_14
  refine then_n <| aw_seq <| at_ <| ar (ro_move s2_14) rfl <| ar (ro_callG (evL_cons up_h evL_nil) rfl mo0_2 ((parseRun_ok es er hes her tx (by omega)).mono (fun q h => h.trans (prsA_eq _))) z9_hcf14) rfl ?_
  refine ar (ro_move up_h) rfl <| ar (ro_extract up_h rfl) rfl <| ar (ro_extract (up_m rfl up_h) rfl) rfl <| al_stm (st_alloc qaz37 rfl ml_2) trivial rfl (fun m_15 hm_15 => ?_)
  have mo3_15 := m_push hm_15 ml_2
  simp only [pS, Value.cells, Nat.reduceAdd] at mo3_15
  have mo2_15 := m_push_o hm_15 mo2_2
  have mo1_15 := m_push_o hm_15 mo1_2
  have mo0_15 := m_push_o hm_15 mo0_2
  have ml_15 := m_push_l hm_15 ml_2
  have ml_15 : _ = 4 := ml_15
  clear hm_15 mo2_2 mo1_2 mo0_2
  refine al_stm (st_store up_h (u2 rfl up_h) rfl rfl mo3_15 qsz37 rfl (nle rfl)) trivial rfl (fun m_16 hm_16 => ?_)
  have mo3_16 := m_set hm_16 mo3_15
  simp only [pS, Value.cells, Nat.reduceAdd] at mo3_16
  have mo2_16 := m_set_o hm_16 mo2_15 (by decide)
  have mo1_16 := m_set_o hm_16 mo1_15 (by decide)
  have mo0_16 := m_set_o hm_16 mo0_15 (by decide)
  have ml_16 := m_set_l hm_16 ml_15
  clear hm_16 mo3_15 mo2_15 mo1_15 mo0_15
  refine ar (ro_assign (up_n (up_m rfl up_h))) rfl <| ae6 (up_m rfl (up_n (u2 rfl (u4 rfl s2_14)))) (up_m rfl (up_n (u2 rfl (u4 rfl s3_14)))) (up_m rfl (up_n (u2 rfl (u4 rfl s4_14)))) (up_m rfl (up_n (u2 rfl (u4 rfl s7_14)))) (up_m rfl (up_n up_h)) up_h ?_; clear s2_14 s3_14 s4_14 s7_14; intro e_17 s2_17 s3_17 s4_17 s7_17 s8_17 s9_17
  refine then_n <| aw_seq <| at_ <| ar (ro_move s2_17) rfl <| ar (ro_call (evL_cons up_h evL_nil) rfl ((rParseRun_ok tx (by omega)).mono (fun q h => h.trans (prsA_eq _))) z9_hcf15) rfl ?_
  refine ar (ro_move up_h) rfl <| ar (ro_extract up_h rfl) rfl <| ar (ro_extract (up_m rfl up_h) rfl) rfl <| al_stm (st_alloc qaz37 rfl ml_16) trivial rfl (fun m_18 hm_18 => ?_)
  have mo4_18 := m_push hm_18 ml_16
  simp only [pS, Value.cells, Nat.reduceAdd] at mo4_18
  have mo3_18 := m_push_o hm_18 mo3_16
  have mo2_18 := m_push_o hm_18 mo2_16
  have mo1_18 := m_push_o hm_18 mo1_16
  have mo0_18 := m_push_o hm_18 mo0_16
  have ml_18 := m_push_l hm_18 ml_16
  have ml_18 : _ = 5 := ml_18
  clear hm_18 mo3_16 mo2_16 mo1_16 mo0_16
  refine al_stm (st_store up_h (u2 rfl up_h) rfl rfl mo4_18 qsz37 rfl (nle rfl)) trivial rfl (fun m_19 hm_19 => ?_)
  have mo4_19 := m_set hm_19 mo4_18
  simp only [pS, Value.cells, Nat.reduceAdd] at mo4_19
  have mo3_19 := m_set_o hm_19 mo3_18 (by decide)
  have mo2_19 := m_set_o hm_19 mo2_18 (by decide)
  have mo1_19 := m_set_o hm_19 mo1_18 (by decide)
  have mo0_19 := m_set_o hm_19 mo0_18 (by decide)
  have ml_19 := m_set_l hm_19 ml_18
  clear hm_19 mo4_18 mo3_18 mo2_18 mo1_18 mo0_18
  refine ar (ro_assign (up_n (up_m rfl up_h))) rfl <| ae7 (up_m rfl (up_n (u2 rfl (u4 rfl s3_17)))) (up_m rfl (up_n (u2 rfl (u4 rfl s4_17)))) (up_m rfl (up_n (u2 rfl (u4 rfl s7_17)))) (up_m rfl (up_n (u2 rfl (u4 rfl s8_17)))) (up_m rfl (up_n (u2 rfl (u4 rfl s9_17)))) (up_m rfl (up_n up_h)) up_h ?_; clear s2_17 s3_17 s4_17 s7_17 s8_17 s9_17; intro e_20 s3_20 s4_20 s7_20 s8_20 s9_20 s10_20 s11_20
  refine then_n <| aw_seq <| aw_seq <| at_ <| ar (ro_move s7_20) rfl <| ar (ro_eq (ro_ld_ptr z9_ty37 rfl mo2_19 (up_m rfl s4_20) (nle rfl)) (by simp only [pS, Value.cells, Nat.reduceAdd] <;> rfl)) rfl ?_
  refine ar (ro_call (evL_cons up_h evL_nil) rfl (rFormatRun_ok post sq hp hq) z9_hcf16) rfl <| ar (ro_sneq (u2 rfl up_h) up_h) rfl <| ar (ro_move up_h) rfl <| al_case up_h (fun hb_21 hq_21 => ?_) (fun hb_21 hq_21 => ?_)
  ·replace hq_21 := bt' hq_21
   refine al_skip' ⟨_, rfl, .inl hb_21⟩ rfl ?_
   refine al_skip' ⟨_, rfl, .inl (up_m rfl hb_21)⟩ rfl ?_
   refine al_skip' ⟨_, rfl, .inl (u2 rfl hb_21)⟩ rfl ?_
   refine ar (ro_pickT (up_m rfl (u2 rfl hb_21)) ev_c) rfl <| ar (ro_move up_h) rfl <| al_skip' ⟨_, rfl, .inl up_h⟩ rfl ?_
   refine al_skip' ⟨_, rfl, .inl (up_m rfl up_h)⟩ rfl ?_
   refine al_skip' ⟨_, rfl, .inl (u2 rfl up_h)⟩ rfl ?_
   refine ar (ro_pickT (up_m rfl (u2 rfl up_h)) ev_c) rfl <| ae4 (u2 rfl (u4 rfl (u8 rfl s3_20))) (u2 rfl (u4 rfl (u8 rfl s4_20))) (u2 rfl (u4 rfl (u8 rfl s7_20))) up_h ?_; clear hb_21 s10_20 s11_20 s3_20 s4_20 s7_20 s8_20 s9_20; intro e_22 s3_22 s4_22 s7_22 s49_22
   refine then_n <| aw_true s49_22 <| aw_seq <| at_ <| ar (ro_assign ev_c) rfl <| ae1 up_h ?_; clear s3_22 s49_22 s4_22 s7_22; intro e_24 s6_24
   refine then_n <| aw_ret <| then_r <| ret1 (.inr rfl) (by kernel_rfl) (resV_tmp s6_24) (.ro _ rfl) ?_
   clear s6_24 mo4_19 mo3_19 mo2_19 mo1_19 mo0_19 ml_19
   (first | rfl | (exfalso; omega) | (simp; done) | (exfalso; simp_all; done) | (have hz := state_zero (ps := ps) (post := post) (sq := sq) (by assumption); have hb := prs_back (a := post) (b := sq) (by omega) hz.2; first | (rw [hb]; simp; done) | (exfalso; rw [hb] at *; simp_all; done) | (simp_all; done)))
  replace hq_21 := bf' hq_21
  refine al_ro' (ro_move (up_m rfl (u4 rfl s9_20))) ⟨_, rfl, hb_21⟩ rfl ?_
  refine al_ro' (ro_move (u2 rfl (u4 rfl s11_20))) ⟨_, rfl, (up_m rfl hb_21)⟩ rfl ?_
  refine al_ro' (ro_neq (up_m rfl up_h) up_h) ⟨_, rfl, (u2 rfl hb_21)⟩ rfl ?_
  refine ar (ro_pickF (up_m rfl (u2 rfl hb_21)) up_h) rfl <| ar (ro_move up_h) rfl <| al_case up_h (fun hb_25 hq_25 => ?_) (fun hb_25 hq_25 => ?_)
  · replace hq_25 := bnt hq_25; exfalso; omega
  replace hq_25 := bnf hq_25
  refine al_ro' (ro_eq (ro_ld_ptr z9_ty37 rfl mo3_19 (u2 rfl (u8 rfl s8_20)) (nle rfl)) (by simp only [pS, Value.cells, Nat.reduceAdd] <;> rfl)) ⟨_, rfl, hb_25⟩ rfl ?_
  refine al_ro' (ro_eq (ro_ld_ptr z9_ty37 rfl mo4_19 (up_m rfl (u2 rfl (u8 rfl s10_20))) (nle rfl)) (by simp only [pS, Value.cells, Nat.reduceAdd] <;> rfl)) ⟨_, rfl, (up_m rfl hb_25)⟩ rfl ?_
  refine al_ro' (ro_sqneq (up_m rfl up_h) up_h rfl rfl z9_gq37 z9_sq37 (by decide)) ⟨_, rfl, (u2 rfl hb_25)⟩ rfl ?_
  refine ar (ro_pickF (up_m rfl (u2 rfl hb_25)) up_h) rfl <| ae4 (u2 rfl (u4 rfl (u8 rfl s3_20))) (u2 rfl (u4 rfl (u8 rfl s4_20))) (u2 rfl (u4 rfl (u8 rfl s7_20))) up_h ?_; clear hb_21 hb_25 s10_20 s11_20 s3_20 s4_20 s7_20 s8_20 s9_20; intro e_29 s3_29 s4_29 s7_29 s49_29
  refine then_n <| aw_case s49_29 (fun hq_30 => ?_) (fun hq_30 => ?_)
  ·replace hq_30 := bt' hq_30
   refine aw_seq <| at_ <| ar (ro_assign ev_c) rfl <| ae1 up_h ?_; clear s3_29 s49_29 s4_29 s7_29; intro e_31 s6_31
   refine then_n <| aw_ret <| then_r <| ret1 (.inr rfl) (by kernel_rfl) (resV_tmp s6_31) (.ro _ rfl) ?_
   clear s6_31 mo4_19 mo3_19 mo2_19 mo1_19 mo0_19 ml_19
   (first | rfl | (exfalso; omega) | (simp; done) | (exfalso; simp_all; done) | (have hz := state_zero (ps := ps) (post := post) (sq := sq) (by assumption); have hb := prs_back (a := post) (b := sq) (by omega) hz.2; first | (rw [hb]; simp; done) | (exfalso; rw [hb] at *; simp_all; done) | (simp_all; done)))
  replace hq_30 := bf' hq_30
  refine aw_skip <| then_n <| aw_seq <| aw_seq <| at_ <| ar (ro_eq (ro_ld_ptr z9_ty35 rfl mo1_19 s3_29 (nle rfl)) (by simp only [pS, Value.cells, Nat.reduceAdd] <;> rfl)) rfl ?_
  refine ar (ro_call (evL_cons up_h evL_nil) rfl (rTrackErr_ok nm ps (by omega) (by omega)) z9_hcf17) rfl ?_
  refine ar (ro_neq up_h ev_c) rfl <| ar (ro_move up_h) rfl <| al_case up_h (fun hb_32 hq_32 => ?_) (fun hb_32 hq_32 => ?_)
  ·replace hq_32 := bnt hq_32
   refine al_skip' ⟨_, rfl, .inl hb_32⟩ rfl ?_
   refine al_skip' ⟨_, rfl, .inl (up_m rfl hb_32)⟩ rfl ?_
   refine al_skip' ⟨_, rfl, .inl (u2 rfl hb_32)⟩ rfl ?_
   refine al_skip' ⟨_, rfl, .inl (up_m rfl (u2 rfl hb_32))⟩ rfl ?_
   refine ar (ro_pickT (u4 rfl hb_32) ev_c) rfl <| ae3 (up_m rfl (u8 rfl s4_29)) (up_m rfl (u8 rfl s7_29)) up_h ?_; clear hb_32 s3_29 s49_29 s4_29 s7_29; intro e_33 s4_33 s7_33 s58_33
   refine then_n <| aw_true s58_33 <| aw_seq <| at_ <| ar (ro_assign ev_c) rfl <| ae1 up_h ?_; clear s4_33 s58_33 s7_33; intro e_35 s6_35
   refine then_n <| aw_ret <| then_r <| ret1 (.inr rfl) (by kernel_rfl) (resV_tmp s6_35) (.ro _ rfl) ?_
   clear s6_35 mo4_19 mo3_19 mo2_19 mo1_19 mo0_19 ml_19
   (first | rfl | (exfalso; omega) | (simp; done) | (exfalso; simp_all; done) | (have hz := state_zero (ps := ps) (post := post) (sq := sq) (by assumption); have hb := prs_back (a := post) (b := sq) (by omega) hz.2; first | (rw [hb]; simp; done) | (exfalso; rw [hb] at *; simp_all; done) | (simp_all; done)))
  replace hq_32 := bnf hq_32
  refine al_ro' (ro_eq (ro_ld_ptr z9_ty35 rfl mo1_19 (u4 rfl s3_29) (nle rfl)) (by simp only [pS, Value.cells, Nat.reduceAdd] <;> rfl)) ⟨_, rfl, hb_32⟩ rfl ?_
  refine al_ro' (ro_eq (ro_ld_ptr z9_ty37 rfl mo2_19 (up_m rfl (u4 rfl s4_29)) (nle rfl)) (by simp only [pS, Value.cells, Nat.reduceAdd] <;> rfl)) ⟨_, rfl, (up_m rfl hb_32)⟩ rfl ?_
  refine al_ro' (ro_call (evL_cons (up_m rfl up_h) (evL_cons up_h evL_nil)) rfl (rStateErr_ok nm ps post sq) z9_hcf18) ⟨_, rfl, (u2 rfl hb_32)⟩ rfl ?_
  refine al_ro' (ro_neq up_h ev_c) ⟨_, rfl, (up_m rfl (u2 rfl hb_32))⟩ rfl ?_
  refine ar (ro_pickF (u4 rfl hb_32) up_h) rfl <| ae3 (up_m rfl (u8 rfl s4_29)) (up_m rfl (u8 rfl s7_29)) up_h ?_; clear hb_32 s3_29 s49_29 s4_29 s7_29; intro e_36 s4_36 s7_36 s58_36
  refine then_n <| aw_case s58_36 (fun hq_37 => ?_) (fun hq_37 => ?_)
  ·replace hq_37 := bnt hq_37
   refine aw_seq <| at_ <| ar (ro_assign ev_c) rfl <| ae1 up_h ?_; clear s4_36 s58_36 s7_36; intro e_38 s6_38
   refine then_n <| aw_ret <| then_r <| ret1 (.inr rfl) (by kernel_rfl) (resV_tmp s6_38) (.ro _ rfl) ?_
   clear s6_38 mo4_19 mo3_19 mo2_19 mo1_19 mo0_19 ml_19
   (first | rfl | (exfalso; omega) | (simp; done) | (exfalso; simp_all; done) | (have hz := state_zero (ps := ps) (post := post) (sq := sq) (by assumption); have hb := prs_back (a := post) (b := sq) (by omega) hz.2; first | (rw [hb]; simp; done) | (exfalso; rw [hb] at *; simp_all; done) | (simp_all; done)))
  replace hq_37 := bnf hq_37
  refine aw_skip <| then_n <| aw_seq <| at_ <| ar (ro_move s7_36) rfl <| ar (ro_callG (evL_cons up_h evL_nil) rfl mo0_19 ((parseRun_ok es er hes her (fmtR post sq 32) (by omega)).mono (fun q h => h.trans (prsA_eq _))) z9_hcf14) rfl ?_
  refine ar (ro_move up_h) rfl <| ar (ro_extract up_h rfl) rfl <| ar (ro_extract (up_m rfl up_h) rfl) rfl <| al_stm (st_alloc qaz37 rfl ml_19) trivial rfl (fun m_39 hm_39 => ?_)
  have mo5_39 := m_push hm_39 ml_19
  simp only [pS, Value.cells, Nat.reduceAdd] at mo5_39
  have mo4_39 := m_push_o hm_39 mo4_19
  have mo3_39 := m_push_o hm_39 mo3_19
  have mo2_39 := m_push_o hm_39 mo2_19
  have mo1_39 := m_push_o hm_39 mo1_19
  have mo0_39 := m_push_o hm_39 mo0_19
  have ml_39 := m_push_l hm_39 ml_19
  have ml_39 : _ = 6 := ml_39
  clear hm_39 mo4_19 mo3_19 mo2_19 mo1_19 mo0_19
  refine al_stm (st_store up_h (u2 rfl up_h) rfl rfl mo5_39 qsz37 rfl (nle rfl)) trivial rfl (fun m_40 hm_40 => ?_)
  have mo5_40 := m_set hm_40 mo5_39
  simp only [pS, Value.cells, Nat.reduceAdd] at mo5_40
  have mo4_40 := m_set_o hm_40 mo4_39 (by decide)
  have mo3_40 := m_set_o hm_40 mo3_39 (by decide)
  have mo2_40 := m_set_o hm_40 mo2_39 (by decide)
  have mo1_40 := m_set_o hm_40 mo1_39 (by decide)
  have mo0_40 := m_set_o hm_40 mo0_39 (by decide)
  have ml_40 := m_set_l hm_40 ml_39
  clear hm_40 mo5_39 mo4_39 mo3_39 mo2_39 mo1_39 mo0_39
  refine ar (ro_assign (up_n (up_m rfl up_h))) rfl <| ae3 (up_m rfl (up_n (u2 rfl (u4 rfl s4_36)))) (up_m rfl (up_n up_h)) up_h ?_; clear s4_36 s58_36 s7_36; intro e_41 s4_41 s12_41 s13_41
  refine then_n <| aw_seq <| at_ <| ar (ro_move s13_41) rfl <| ar (ro_eql up_h ev_c) rfl ?_
  refine ar (ro_move up_h) rfl <| al_case up_h (fun hb_42 hq_42 => ?_) (fun hb_42 hq_42 => ?_)
  ·replace hq_42 := bt hq_42
   refine al_ro' (ro_eq (ro_ld_ptr z9_ty37 rfl mo5_40 (up_m rfl (u2 rfl s12_41)) (nle rfl)) (by simp only [pS, Value.cells, Nat.reduceAdd] <;> rfl)) ⟨_, rfl, hb_42⟩ rfl ?_
   refine al_ro' (ro_eq (ro_ld_ptr z9_ty37 rfl mo2_40 (u4 rfl s4_41) (nle rfl)) (by simp only [pS, Value.cells, Nat.reduceAdd] <;> rfl)) ⟨_, rfl, (up_m rfl hb_42)⟩ rfl ?_
   refine al_ro' (ro_sqeql (up_m rfl up_h) up_h rfl rfl z9_gq37 z9_sq37 (by decide)) ⟨_, rfl, (u2 rfl hb_42)⟩ rfl ?_
   refine ar (ro_pickT (up_m rfl (u2 rfl hb_42)) up_h) rfl <| ar (ro_assign up_h) rfl <| ae1 up_h ?_; clear hb_42 s12_41 s13_41 s4_41; intro e_43 s6_43
   refine then_n <| aw_ret <| ret1 (.inr rfl) (by kernel_rfl) (resV_tmp s6_43) (.ro _ rfl) ?_
   clear s6_43 mo5_40 mo4_40 mo3_40 mo2_40 mo1_40 mo0_40 ml_40
   (first | rfl | (exfalso; omega) | (simp; done) | (exfalso; simp_all; done) | (have hz := state_zero (ps := ps) (post := post) (sq := sq) (by assumption); have hb := prs_back (a := post) (b := sq) (by omega) hz.2; first | (rw [hb]; simp; done) | (exfalso; rw [hb] at *; simp_all; done) | (simp_all; done)))
  replace hq_42 := bf hq_42
  refine al_skip' ⟨_, rfl, .inl hb_42⟩ rfl ?_
  refine al_skip' ⟨_, rfl, .inl (up_m rfl hb_42)⟩ rfl ?_
  refine al_skip' ⟨_, rfl, .inl (u2 rfl hb_42)⟩ rfl ?_
  refine ar (ro_pickF (up_m rfl (u2 rfl hb_42)) ev_c) rfl <| ar (ro_assign up_h) rfl <| ae1 up_h ?_; clear hb_42 s12_41 s13_41 s4_41; intro e_44 s6_44
  refine then_n <| aw_ret <| ret1 (.inr rfl) (by kernel_rfl) (resV_tmp s6_44) (.ro _ rfl) ?_
  clear s6_44 mo5_40 mo4_40 mo3_40 mo2_40 mo1_40 mo0_40 ml_40
  (first | rfl | (exfalso; omega) | (simp; done) | (exfalso; simp_all; done) | (have hz := state_zero (ps := ps) (post := post) (sq := sq) (by assumption); have hb := prs_back (a := post) (b := sq) (by omega) hz.2; first | (rw [hb]; simp; done) | (exfalso; rw [hb] at *; simp_all; done) | (simp_all; done)))
end Go.Proofs.YtfmjmngkgmlghaaDoor
