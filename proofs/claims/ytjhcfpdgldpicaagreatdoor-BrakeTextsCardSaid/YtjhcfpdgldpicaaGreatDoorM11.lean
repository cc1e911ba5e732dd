/- Texts of this claim, one behind the other: lemmas for the statement. -/
import Derived.Test.YtjhcfpdgldpicaaGreatDoorT0
import Derived.Test.YtjhcfpdgldpicaaGreatDoorM10
import Derived.Test.YtjhcfpdgldpicaaGreatDoorM8
import Derived.Test.YtjhcfpdgldpicaaGreatDoorM2
set_option linter.unusedSimpArgs false
set_option linter.unusedVariables false
namespace Go.Proofs.YtjhcfpdgldpicaaGreatDoor
open Go Go.RowKit Go.Proofs
theorem k9_ar89 : ArIs Tryz.prog 89 2 1 := ⟨by kernel_rfl, by kernel_rfl⟩
theorem k9_hcf98 : ∀ args w, (callFunc 98 args).run Tryz.prog w = .ok (.enter 98 args) w := fun _ _ => by kernel_rfl
theorem k9_sl219 : SlIs Tryz.prog 219 29 1 8 (.int .i64 0) := ⟨by kernel_rfl, by kernel_rfl, by kernel_rfl⟩
theorem k9_sl22 : SlIs Tryz.prog 22 111 4 32 (.agg #[.int .i64 0, .int .i64 0, .int .i64 0, .bool false]) := ⟨by kernel_rfl, by kernel_rfl, by kernel_rfl⟩
theorem k9_sl76 : SlIs Tryz.prog 76 3 1 8 (.int .i64 0) := ⟨by kernel_rfl, by kernel_rfl, by kernel_rfl⟩
theorem k9_ty115 : TyIs Tryz.prog 115 true 2 := ⟨by kernel_rfl, by kernel_rfl⟩
theorem k9_ty178 : TyIs Tryz.prog 178 true 5 := ⟨by kernel_rfl, by kernel_rfl⟩
theorem k9_ty22 : TyIs Tryz.prog 22 false 1 := ⟨by kernel_rfl, by kernel_rfl⟩
theorem k9_ty24 : TyIs Tryz.prog 24 true 2 := ⟨by kernel_rfl, by kernel_rfl⟩
theorem k9_ty3 : TyIs Tryz.prog 3 false 1 := ⟨by kernel_rfl, by kernel_rfl⟩
theorem k9_ty81 : TyIs Tryz.prog 81 true 3 := ⟨by kernel_rfl, by kernel_rfl⟩
def fasM (ps : List Piece) (b e1 : Int) : List Int := bwL ps b (min e1 ((liW ps (ps.length + 1)).getD ps.length default)) ps.length
def fasF (ps : List Piece) (b v e1 : Int) (k : Nat) (x : Int) : Int := min ((fasM ps b e1).getD (k + 1) default) (x + -losW (-v) (ps.getD k default))
def fasW (ps : List Piece) (b v e0 e1 : Int) : List Int × Int :=
 if (fasM ps b e1).getD 0 default < e0 then ([], 12) else
 match goL (fasF ps b v e1) e0 ps.length with
 | none => ([], 12)
 | some l => (l, 0)
def fasE (nm : ByteArray) (ps : List Piece) (b d v e0 e1 : Int) : Int := firstE [firstE [(chk nm ps).2, sysE b d v], unlessE (withinB e0 0 20000000000 && withinB e1 0 20000000000) 2]
theorem fasE_right {nm : ByteArray} {ps : List Piece} {b d v e0 e1 : Int} (h : fasE nm ps b d v e0 e1 = 0) : trackR ps ∧ sysR b d v ∧ (0 ≤ e0 ∧ e0 ≤ 20000000000) ∧ (0 ≤ e1 ∧ e1 ≤ 20000000000) := by
 obtain ⟨h1, h2, h3⟩ := ride_right h
 have a1 := unlessE_zero (firstE_cons h3).1 (by decide)
 simp only [withinB, Bool.and_eq_true, decide_eq_true_eq] at a1
 exact ⟨h1, h2, a1.1, a1.2⟩
section
variable (nm : ByteArray) (ps : List Piece) (hs : nm.size ≤ 1000000000) (hp : ps.length ≤ 1000000000) (b d v : Int)
include hs hp
set_option maxRecDepth 100000 in
set_option maxHeartbeats 4000000 in
theorem fastest_ok (e0 e1 : Int) : FnOk Tryz.prog 37 [trA nm ps, syA b d v, .agg [iA e0, iA e1]] (fun q => q = .tuple [.row 1 ((if fasE nm ps b d v e0 e1 = 0 then (fasW ps b v e0 e1).1 else []).map iE), iA (if fasE nm ps b d v e0 e1 = 0 then (fasW ps b v e0 e1).2 else fasE nm ps b d v e0 e1)]) := by
 refine fnOk_of (fn := Tryz.f37) 92 (by kernel_rfl) rfl (by kernel_rfl) (Nat.le_of_ble_eq_true rfl) ?_
 intro e_0 m_0 hA hm_0
 have s0_0 : evA e_0 (.tmp 0) = _ := hA 0 _ rfl
 have s1_0 : evA e_0 (.tmp 1) = _ := hA 1 _ rfl
 have s2_0 : evA e_0 (.tmp 2) = _ := hA 2 _ rfl
 have ml_0 : m_0.length = 0 := by rw [hm_0]; rfl
 clear hA hm_0
 refine aw_seq <| at_ <| al_stm (st_box s0_0 rfl ml_0) trivial rfl (fun m_1 hm_1 => ?_)
 have mo0_1 := m_push hm_1 ml_0
 have ml_1 := m_push_l hm_1 ml_0
 have ml_1 : _ = 1 := ml_1
 clear hm_1
 refine al_stm (st_box (up_m rfl s1_0) rfl ml_1) trivial rfl (fun m_2 hm_2 => ?_)
 have mo1_2 := m_push hm_2 ml_1
 have mo0_2 := m_push_o hm_2 mo0_1
 have ml_2 := m_push_l hm_2 ml_1
 have ml_2 : _ = 2 := ml_2
 clear hm_2 mo0_1
 refine al_stm (st_box (u2 rfl s2_0) rfl ml_2) trivial rfl (fun m_3 hm_3 => ?_)
 have mo2_3 := m_push hm_3 ml_2
 have mo1_3 := m_push_o hm_3 mo1_2
 have mo0_3 := m_push_o hm_3 mo0_2
 have ml_3 := m_push_l hm_3 ml_2
 have ml_3 : _ = 3 := ml_3
 clear hm_3 mo1_2 mo0_2
 refine ar (ro_assign ev_c) rfl <| ar (ro_assign ev_c) rfl <| ae3 (u4 rfl up_h) (up_m rfl (u2 rfl up_h)) (u2 rfl up_h) ?_; clear s0_0 s1_0 s2_0; intro e_4 s3_4 s4_4 s5_4
 refine then_n <| aw_seq <| at_ <| ar (ro_eq (ro_ld_ptr k9_ty24 rfl mo0_3 s3_4 (nle rfl)) (by simp only [pS, Value.cells, Nat.reduceAdd, one_iE, app_m] <;> rfl)) rfl ?_
 refine ar (ro_eq (ro_ld_ptr k9_ty81 rfl mo1_3 (up_m rfl s4_4) (nle rfl)) (by simp only [pS, Value.cells, Nat.reduceAdd, one_iE, app_m] <;> rfl)) rfl ?_
 refine ar (ro_call (evL_cons (up_m rfl up_h) (evL_cons up_h evL_nil)) rfl (openRide_ok nm ps hs hp b d v) qhcf84) rfl <| ar (ro_move up_h) rfl <| ar (ro_extract up_h rfl) rfl <| ar (ro_extract (up_m rfl up_h) rfl) rfl <| al_stm (st_alloc qaz178 rfl ml_3) trivial rfl (fun m_5 hm_5 => ?_)
 have mo3_5 := m_push hm_5 ml_3
 simp only [pS, Value.cells, Nat.reduceAdd, one_iE, app_m] at mo3_5
 have mo2_5 := m_push_o hm_5 mo2_3
 have mo1_5 := m_push_o hm_5 mo1_3
 have mo0_5 := m_push_o hm_5 mo0_3
 have ml_5 := m_push_l hm_5 ml_3
 have ml_5 : _ = 4 := ml_5
 clear hm_5 mo2_3 mo1_3 mo0_3
 refine al_stm (st_store up_h (u2 rfl up_h) rfl rfl mo3_5 qsz178 rfl (nle rfl)) trivial rfl (fun m_6 hm_6 => ?_)
 have mo3_6 := m_set hm_6 mo3_5
 simp only [pS, Value.cells, Nat.reduceAdd, one_iE, app_m] at mo3_6
 have mo2_6 := m_set_o hm_6 mo2_5 (by decide)
 have mo1_6 := m_set_o hm_6 mo1_5 (by decide)
 have mo0_6 := m_set_o hm_6 mo0_5 (by decide)
 have ml_6 := m_set_l hm_6 ml_5
 clear hm_6 mo3_5 mo2_5 mo1_5 mo0_5
 refine ar (ro_assign (up_n (up_m rfl up_h))) rfl <| ae3 (up_m rfl (up_n (up_m rfl (u2 rfl (u4 rfl s5_4))))) (up_m rfl (up_n up_h)) up_h ?_; clear s3_4 s4_4 s5_4; intro e_7 s5_7 s8_7 s9_7
 refine then_n <| aw_seq <| aw_seq <| aw_cut (fun e mem => (evA e (.tmp 9) = .v (.int .i64 (fasE nm ps b d v e0 e1))) ∧ (evA e (.tmp 5) = evA e_7 (.tmp 5)) ∧ (evA e (.tmp 8) = evA e_7 (.tmp 8)) ∧ m_6 = mem) ?_ ?_
 ·
  refine at_ <| ar (ro_move s9_7) rfl <| ar (ro_ixa k9_ar89 (up_m rfl s5_7) ev_c rfl) rfl <| ar (ro_eq (ro_ld_ptr k9_ty3 rfl mo2_6 up_h (nle rfl)) (by simp only [pS, Value.cells, Nat.reduceAdd, one_iE, app_m] <;> rfl)) rfl ?_
  refine ar (ro_call (evL_cons up_h evL_nil) rfl (isSquare_ok _) qhcf94) rfl <| ar (ro_move up_h) rfl <| al_case up_h (fun hb_9 hq_9 => ?_) (fun hb_9 hq_9 => ?_)
  ·skip
   refine al_ro' (ro_ixa k9_ar89 (up_m rfl (u4 rfl s5_7)) ev_c rfl) ⟨_, rfl, hb_9⟩ rfl ?_
   refine al_ro' (ro_eq (ro_ld_ptr k9_ty3 rfl mo2_6 up_h (nle rfl)) (by simp only [pS, Value.cells, Nat.reduceAdd, one_iE, app_m] <;> rfl)) ⟨_, rfl, (up_m rfl hb_9)⟩ rfl ?_
   refine al_ro' (ro_call (evL_cons up_h evL_nil) rfl (isSquare_ok _) qhcf94) ⟨_, rfl, (u2 rfl hb_9)⟩ rfl ?_
   refine ar (ro_pickT (up_m rfl (u2 rfl hb_9)) up_h) rfl <| ar (ro_call (evL_cons up_h (evL_cons ev_c evL_nil)) rfl (unless_ok _ _) qhcf93) rfl <| ar (ro_lit k9_sl219 (evP_cons (up_m rfl (u8 rfl up_h)) (evP_cons up_h evP_nil)) rfl rfl rfl rfl) rfl <| ar (ro_call (evL_cons up_h evL_nil) rfl (first_ok [_, _] (by simp)) qhcf85) rfl ?_
   refine ar (ro_assign up_h) rfl <| ae3 (up_m rfl (u4 rfl (u8 rfl s5_7))) (up_m rfl (u4 rfl (u8 rfl s8_7))) up_h ?_; intro e_10 s5_10 s8_10 s9_10
   refine then_n ⟨(s9_10).trans (by (simp_all [fasE, unlessE])), (s5_10).trans (s5_7).symm, (s8_10).trans (s8_7).symm, rfl⟩
  refine al_skip' ⟨_, rfl, .inl hb_9⟩ rfl ?_
  refine al_skip' ⟨_, rfl, .inl (up_m rfl hb_9)⟩ rfl ?_
  refine al_skip' ⟨_, rfl, .inl (u2 rfl hb_9)⟩ rfl ?_
  refine ar (ro_pickF (up_m rfl (u2 rfl hb_9)) ev_c) rfl <| ar (ro_call (evL_cons up_h (evL_cons ev_c evL_nil)) rfl (unless_ok _ _) qhcf93) rfl <| ar (ro_lit k9_sl219 (evP_cons (up_m rfl (u8 rfl up_h)) (evP_cons up_h evP_nil)) rfl rfl rfl rfl) rfl <| ar (ro_call (evL_cons up_h evL_nil) rfl (first_ok [_, _] (by simp)) qhcf85) rfl ?_
  refine ar (ro_assign up_h) rfl <| ae3 (up_m rfl (u4 rfl (u8 rfl s5_7))) (up_m rfl (u4 rfl (u8 rfl s8_7))) up_h ?_; intro e_11 s5_11 s8_11 s9_11
  refine then_n ⟨(s9_11).trans (by (simp_all [fasE, unlessE])), (s5_11).trans (s5_7).symm, (s8_11).trans (s8_7).symm, rfl⟩
 ·rintro e_8 _ ⟨s9_8, k5_8, k8_8, rfl⟩
  have s5_8 := k5_8.trans s5_7
  have s8_8 := k8_8.trans s8_7
  refine aw_seq <| at_ <| ar (ro_move s9_8) rfl <| ar (ro_neq up_h ev_c) rfl <| ae4 (u2 rfl s5_8) (u2 rfl s8_8) (u2 rfl s9_8) up_h ?_; clear s5_8 s8_8 s9_8; intro e_12 s5_12 s8_12 s9_12 s34_12
  refine then_n <| aw_case s34_12 (fun hq_13 => ?_) (fun hq_13 => ?_)
  ·replace hq_13 := bnt hq_13
   refine aw_seq <| at_ <| ar (ro_move s9_12) rfl <| ar (ro_assign ev_c) rfl <| ar (ro_assign (up_m rfl up_h)) rfl <| ae2 (up_m rfl up_h) up_h ?_; clear s34_12 s5_12 s8_12 s9_12; intro e_14 s6_14 s7_14
   refine then_n <| aw_ret <| then_r <| ret2 (.inr rfl) (by kernel_rfl) (resV_tmp s6_14) (resV_tmp s7_14) (.nil 1) (.ro _ rfl) ?_
   clear s6_14 s7_14 mo3_6 mo2_6 mo1_6 mo0_6 ml_6
   (have hq : ¬ fasE nm ps b d v e0 e1 = 0 := (by assumption); rw [if_neg hq, if_neg hq]; rfl)
  replace hq_13 := bnf hq_13
  (have hq : fasE nm ps b d v e0 e1 = 0 := (by assumption); have hR := fasE_right hq; have hlen := hR.1.2; have hsy := hR.2.1; unfold sysR at hsy; have he0 := hR.2.2.1; have he1 := hR.2.2.2; have hll := liW_len ps (ps.length + 1); have hlv : 0 ≤ (liW ps (ps.length + 1)).getD ps.length default ∧ (liW ps (ps.length + 1)).getD ps.length default ≤ 20000000000 := (by rw [liW_at ps (by omega)]; exact limW_bound hR.1.1 _); have hlv' : 0 ≤ (liW ps (ps.length + 1)).getD (ps.length : Int).toNat default ∧ (liW ps (ps.length + 1)).getD (ps.length : Int).toNat default ≤ 20000000000 := hlv; have hml : ∀ x, (bwL ps b x (ps.length : Int).toNat).length = ps.length + 1 := (fun x => bwL_len ps b x _); have hml0 := hml (min e1 ((liW ps (ps.length + 1)).getD ps.length default)))
  refine aw_skip <| then_n <| aw_seq <| at_ <| ar (ro_fld_ptr qfl178_0 rfl s8_12) rfl <| ar (ro_eq (ro_ld_ptr k9_ty115 rfl mo3_6 up_h (nle rfl)) (by simp only [pS, Value.cells, Nat.reduceAdd, one_iE, app_m] <;> rfl)) rfl ?_
  refine ar (ro_call (evL_cons up_h evL_nil) rfl (limits_ok nm ps hR.1.1 hR.1.2.1 (by omega)) qhcf95) rfl ?_
  refine ar (ro_assign up_h) rfl <| ae3 (u4 rfl s5_12) (u4 rfl s8_12) up_h ?_; clear s34_12 s5_12 s8_12 s9_12; intro e_15 s5_15 s8_15 s10_15
  refine then_n <| aw_seq <| aw_draw 15 (by kernel_rfl) (by kernel_rfl) (by kernel_rfl) (by kernel_rfl) ?_
  refine dr (ro_eq (ro_ld_ptr k9_ty178 rfl mo3_6 s8_15 (nle rfl)) (by simp only [pS, Value.cells, Nat.reduceAdd, one_iE, app_m] <;> rfl)) rfl ?_
  refine dr (ro_ixa k9_ar89 (up_m rfl s5_15) ev_c rfl) rfl <| dr (ro_eq (ro_ld_ptr k9_ty3 rfl mo2_6 up_h (nle rfl)) (by simp only [pS, Value.cells, Nat.reduceAdd, one_iE, app_m] <;> rfl)) rfl ?_
  refine dr (ro_move (up_m rfl (u2 rfl s10_15))) rfl <| dr (ro_fld_ptr qfl178_0 rfl (u4 rfl s8_15)) rfl <| dr (ro_eq (ro_ld_ptr k9_ty115 rfl mo3_6 up_h (nle rfl)) (by simp only [pS, Value.cells, Nat.reduceAdd, one_iE, app_m] <;> rfl)) rfl ?_
  refine dr (ro_call (evL_cons up_h evL_nil) rfl (last_ok nm ps) qhcf97) rfl <| dr (ro_eq (ro_ix k9_sl76 (up_m rfl (u2 rfl up_h)) up_h (by omega) (by first | (refine idx_map ?_; first | omega | (simp only [lnS]; omega)) | (refine idx_mapI ?_; first | omega | (simp only [lnS]; omega)) | (refine idx_mapN ?_; first | omega | (simp only [lnS]; omega)) | rfl)) (by simp only [pS, Value.cells, Nat.reduceAdd, one_iE, app_m] <;> rfl)) rfl ?_
  refine dr (ro_eq (ro_ld_ref k9_ty3 rfl up_h (nle rfl)) (by simp only [pS, Value.cells, Nat.reduceAdd, one_iE, app_m] <;> rfl)) rfl ?_
  refine dr (ro_min (u2 rfl (u4 rfl up_h)) up_h) rfl <| dr (ro_fld_ptr qfl178_0 rfl (u2 rfl (u8 rfl s8_15))) rfl <| dr (ro_eq (ro_ld_ptr k9_ty115 rfl mo3_6 up_h (nle rfl)) (by simp only [pS, Value.cells, Nat.reduceAdd, one_iE, app_m] <;> rfl)) rfl ?_
  refine dr (ro_call (evL_cons up_h evL_nil) rfl (last_ok nm ps) qhcf97) rfl <| dr (ro_call (evL_cons (u4 rfl (u8 rfl up_h)) (evL_cons (up_m rfl (u2 rfl up_h)) (evL_cons up_h evL_nil))) rfl (backward_ok nm ps hR.1.1 hR.1.2.1 (by omega) b d v _ _ (by omega) (by omega) (by omega) (by omega)) qhcf96) rfl ?_
  refine dr (ro_assign up_h) rfl <| ds_nil <| ae3 (up_m rfl (u2 rfl (u4 rfl (u8 rfl s5_15)))) (up_m rfl (u2 rfl (u4 rfl (u8 rfl s8_15)))) up_h ?_; clear s10_15 s5_15 s8_15; intro e_16 s5_16 s8_16 s11_16
  refine then_n <| aw_seq <| aw_seq <| aw_draw 6 (by kernel_rfl) (by kernel_rfl) (by kernel_rfl) (by kernel_rfl) ?_
  refine dr (ro_ixa k9_ar89 s5_16 ev_c rfl) rfl <| dr (ro_eq (ro_ld_ptr k9_ty3 rfl mo2_6 up_h (nle rfl)) (by simp only [pS, Value.cells, Nat.reduceAdd, one_iE, app_m] <;> rfl)) rfl ?_
  refine dr (ro_move (u2 rfl s11_16)) rfl <| dr (ro_eq (ro_ix k9_sl76 up_h ev_c (by decide) (by refine idx_map ?_; first | omega | (simp only [lnS]; omega))) (by simp only [pS, Value.cells, Nat.reduceAdd, one_iE, app_m] <;> rfl)) rfl ?_
  refine dr (ro_eq (ro_ld_ref k9_ty3 rfl up_h (nle rfl)) (by simp only [pS, Value.cells, Nat.reduceAdd, one_iE, app_m] <;> rfl)) rfl ?_
  refine dr (ro_gtr (up_m rfl (u2 rfl up_h)) up_h) rfl <| ds_nil <| ae4 (u2 rfl (u4 rfl s5_16)) (u2 rfl (u4 rfl s8_16)) (u2 rfl (u4 rfl s11_16)) up_h ?_; clear s11_16 s5_16 s8_16; intro e_17 s5_17 s8_17 s11_17 s58_17
  refine then_n <| aw_case s58_17 (fun hq_18 => ?_) (fun hq_18 => ?_)
  ·replace hq_18 := bt hq_18
   refine aw_seq <| at_ <| ar (ro_assign ev_c) rfl <| ar (ro_assign ev_c) rfl <| ae2 (up_m rfl up_h) up_h ?_; clear s11_17 s58_17 s5_17 s8_17; intro e_19 s6_19 s7_19
   refine then_n <| aw_ret <| then_r <| ret2 (.inr rfl) (by kernel_rfl) (resV_tmp s6_19) (resV_tmp s7_19) (.nil 1) (.ro _ rfl) ?_
   clear s6_19 s7_19 mo3_6 mo2_6 mo1_6 mo0_6 ml_6
   (have hc : (fasM ps b e1).getD 0 default < e0 := (by assumption); rw [if_pos hq, if_pos hq, fasW, if_pos hc]; rfl)
  replace hq_18 := bf hq_18
  (have hc : ¬ (fasM ps b e1).getD 0 default < e0 := ‹_›)
  refine aw_skip <| then_n <| aw_seq <| at_ <| ar (ro_ixa k9_ar89 s5_17 ev_c rfl) rfl <| ar (ro_eq (ro_ld_ptr k9_ty3 rfl mo2_6 up_h (nle rfl)) (by simp only [pS, Value.cells, Nat.reduceAdd, one_iE, app_m] <;> rfl)) rfl ?_
  refine al_stm (st_lit k9_sl76 ml_6 (evP_cons up_h evP_nil) rfl rfl rfl rfl) trivial rfl (fun m_20 hm_20 => ?_)
  have mo4_20 := m_push hm_20 ml_6
  simp only [pS, Value.cells, Nat.reduceAdd, one_iE, app_m] at mo4_20
  have mo3_20 := m_push_o hm_20 mo3_6
  have mo2_20 := m_push_o hm_20 mo2_6
  have mo1_20 := m_push_o hm_20 mo1_6
  have mo0_20 := m_push_o hm_20 mo0_6
  have ml_20 := m_push_l hm_20 ml_6
  have ml_20 : _ = 5 := ml_20
  clear hm_20 mo3_6 mo2_6 mo1_6 mo0_6
  refine ar (ro_assign up_h) rfl <| ae3 (u4 rfl s8_17) (u4 rfl s11_17) up_h ?_; clear s11_17 s58_17 s5_17 s8_17; intro e_21 s8_21 s11_21 s12_21
  refine then_n <| aw_seq <| aw_seq <| at_ <| ar (ro_fld_ptr qfl178_0 rfl s8_21) rfl <| ar (ro_fld_ptr qfl115_0 rfl up_h) rfl <| ar (ro_fld_ptr qfl24_1 rfl up_h) rfl <| ar (ro_eq (ro_ld_ptr k9_ty22 rfl mo3_20 up_h (nle rfl)) (by simp only [pS, Value.cells, Nat.reduceAdd, one_iE, app_m] <;> rfl)) rfl ?_
  refine ar (ro_eq (ro_len_row up_h rfl k9_sl22.1) (by simp only [lnS] <;> rfl)) rfl ?_
  refine ar (ro_move ev_c) rfl <| ae5 (u2 rfl (u4 rfl s8_21)) (u2 rfl (u4 rfl s11_21)) (u2 rfl (u4 rfl s12_21)) (up_m rfl up_h) up_h ?_; clear s11_21 s12_21 s8_21; intro e_22 s8_22 s11_22 s12_22 s66_22 s67_22
  refine then_n <| aw_block <| aw_loop (S := (Int × List Int)) (fun s e mem => match s with | ⟨i, xs⟩ => (evA e (.tmp 67) = .v (.int .i64 i)) ∧ (evA e (.tmp 8) = evA e_22 (.tmp 8)) ∧ (evA e (.tmp 11) = evA e_22 (.tmp 11)) ∧ (evA e (.tmp 66) = evA e_22 (.tmp 66)) ∧ (mem[3]? = m_20[3]?) ∧ (mem[2]? = m_20[2]?) ∧ (mem[1]? = m_20[1]?) ∧ (mem[0]? = m_20[0]?) ∧ (∃ j, evA e (.tmp 12) = .own j ∧ mem[j]? = some (.row 3 1 (xs.map iE)) ∧ j ≠ 3 ∧ j ≠ 2 ∧ j ≠ 1 ∧ j ≠ 0) ∧ (∃ n, mem.length = n ∧ 5 ≤ n) ∧ ((0 ≤ i ∧ i ≤ ps.length ∧ goL (fasF ps b v e1) e0 i.toNat = some xs ∧ 0 ≤ xs.getD i.toNat default ∧ xs.getD i.toNat default ≤ 20000000000))) (fun s => match s with | ⟨i, xs⟩ => (ps.length - i).toNat) ⟨_, [e0]⟩ ⟨s67_22, rfl, rfl, rfl, rfl, rfl, rfl, rfl, ⟨_, s12_22, mo4_20, (by decide), (by decide), (by decide), (by decide)⟩, ⟨_, ml_20, Nat.le_refl _⟩, ?_⟩ ?_
  ·(refine ⟨by omega, by omega, rfl, he0⟩)
  ·rintro ⟨i, xs⟩ e_23 m_23 ⟨s67_23, k8_23, k11_23, k66_23, mk3_23, mk2_23, mk1_23, mk0_23, ⟨j12_23, s12_23, mo_j12_23, nj12_3_23, nj12_2_23, nj12_1_23, nj12_0_23⟩, ⟨n_23, ml_23, hn_23⟩, hinv⟩
   have s8_23 := k8_23.trans s8_22
   have s11_23 := k11_23.trans s11_22
   have s66_23 := k66_23.trans s66_22
   have mo3_23 := mk3_23.trans mo3_20
   have mo2_23 := mk2_23.trans mo2_20
   have mo1_23 := mk1_23.trans mo1_20
   have mo0_23 := mk0_23.trans mo0_20
   have jl12_23 := m_lt mo_j12_23 ml_23
   (obtain ⟨p1, p2, p3, p4, p5⟩ := hinv; have hl := goL_len p3; have hpa := hR.1.1.at i.toNat; have hlos := los_bound (dec := -v) (p := ps.getD i.toNat default) (by omega) hpa.1 hpa.2.1; have hcb := bwL_bound hR.1.1 (b := b) (sq := min e1 ((liW ps (ps.length + 1)).getD ps.length default)) (by omega) ps.length (i + 1).toNat; have hcb2 : -1 ≤ (bwL ps b (min e1 ((liW ps (ps.length + 1)).getD ps.length default)) (ps.length : Int).toNat).getD (i + 1).toNat default ∧ (bwL ps b (min e1 ((liW ps (ps.length + 1)).getD ps.length default)) (ps.length : Int).toNat).getD (i + 1).toNat default ≤ 20000000000 := hcb; have hf : ∀ x, fasF ps b v e1 i.toNat x = min ((bwL ps b (min e1 ((liW ps (ps.length + 1)).getD ps.length default)) ps.length).getD (i + 1).toNat default) (x + -losW (-v) (ps.getD i.toNat default)) := (fun x => by unfold fasF fasM; rw [show i.toNat + 1 = (i + 1).toNat by omega]))
   refine aw_seq <| at_ <| ar (ro_lss s67_23 s66_23) rfl <| ae6 (up_m rfl s8_23) (up_m rfl s11_23) (up_m rfl s12_23) (up_m rfl s66_23) (up_m rfl s67_23) up_h ?_; clear s11_23 s12_23 s66_23 s67_23 s8_23; intro e_24 s8_24 s11_24 s12_24 s66_24 s67_24 s68_24
   refine then_n <| aw_seq <| aw_case s68_24 (fun hq_25 => ?_) (fun hq_25 => ?_)
   ·replace hq_25 := bt hq_25
    refine aw_skip <| then_n <| aw_seq <| aw_block <| aw_seq <| at_ <| ar (ro_move s67_24) rfl <| ar (ro_assign up_h) rfl <| ae6 (u2 rfl s8_24) (u2 rfl s11_24) (u2 rfl s12_24) up_h (u2 rfl s66_24) (u2 rfl s67_24) ?_; clear s11_24 s12_24 s66_24 s67_24 s68_24 s8_24; intro e_26 s8_26 s11_26 s12_26 s13_26 s66_26 s67_26
    refine then_n <| aw_seq <| aw_draw 15 (by kernel_rfl) (by kernel_rfl) (by kernel_rfl) (by kernel_rfl) ?_
    refine dr (ro_move s11_26) rfl <| dr (ro_move (up_m rfl s13_26)) rfl ?_
    (refine dr (ro_add' up_h ev_c ?_) rfl ?_; · (unfold In64; omega))
    refine dr (ro_eq (ro_ix k9_sl76 (u2 rfl up_h) up_h (by omega) (by first | (refine idx_map ?_; first | omega | (simp only [lnS]; omega)) | (refine idx_mapI ?_; first | omega | (simp only [lnS]; omega)) | (refine idx_mapN ?_; first | omega | (simp only [lnS]; omega)) | rfl)) (by simp only [pS, Value.cells, Nat.reduceAdd, one_iE, app_m] <;> rfl)) rfl ?_
    refine dr (ro_eq (ro_ld_ref k9_ty3 rfl up_h (nle rfl)) (by simp only [pS, Value.cells, Nat.reduceAdd, one_iE, app_m] <;> rfl)) rfl ?_
    refine dr (ro_move (up_m rfl (u4 rfl s12_26))) rfl <| dr (ro_move (u2 rfl (u4 rfl s13_26))) rfl <| dr (ro_ix_own k9_sl76 mo_j12_23 (up_m rfl up_h) up_h (by omega) (by simp only [lnS] <;> omega)) rfl ?_
    refine dr (ro_eq (ro_ld_el k9_ty3 rfl mo_j12_23 up_h (nle rfl) (by first | (refine idx_map ?_; first | omega | (simp only [lnS]; omega)) | (refine idx_mapI ?_; first | omega | (simp only [lnS]; omega)) | (refine idx_mapN ?_; first | omega | (simp only [lnS]; omega)) | rfl)) (by simp only [pS, Value.cells, Nat.reduceAdd, one_iE, app_m] <;> rfl)) rfl ?_
    refine dr (ro_eq (ro_ld_ptr k9_ty178 rfl mo3_23 (up_m rfl (u8 rfl s8_26)) (nle rfl)) (by simp only [pS, Value.cells, Nat.reduceAdd, one_iE, app_m] <;> rfl)) rfl ?_
    refine dr (ro_move (u2 rfl (u8 rfl s13_26))) rfl <| dr (ro_call (evL_cons (up_m rfl up_h) (evL_cons up_h evL_nil)) rfl (driven_ok nm ps hR.1.1 b d v i (by omega) (by omega) (by omega)) k9_hcf98) rfl ?_
    (refine dr (ro_add' (up_m rfl (u2 rfl up_h)) up_h ?_) rfl ?_; · (unfold In64; omega))
    refine dr (ro_min (u8 rfl up_h) up_h) rfl <| dr (ro_assign up_h) rfl <| ds_nil <| ae6 (up_m rfl (u2 rfl (u4 rfl (u8 rfl s8_26)))) (up_m rfl (u2 rfl (u4 rfl (u8 rfl s11_26)))) (up_m rfl (u2 rfl (u4 rfl (u8 rfl s12_26)))) up_h (up_m rfl (u2 rfl (u4 rfl (u8 rfl s66_26)))) (up_m rfl (u2 rfl (u4 rfl (u8 rfl s67_26)))) ?_; clear s11_26 s12_26 s13_26 s66_26 s67_26 s8_26; intro e_27 s8_27 s11_27 s12_27 s14_27 s66_27 s67_27
    refine then_n <| aw_seq <| aw_seq <| at_ <| ar (ro_move s14_27) rfl <| ar (ro_lss up_h ev_c) rfl <| ae7 (u2 rfl s8_27) (u2 rfl s11_27) (u2 rfl s12_27) (u2 rfl s14_27) (u2 rfl s66_27) (u2 rfl s67_27) up_h ?_; clear s11_27 s12_27 s14_27 s66_27 s67_27 s8_27; intro e_28 s8_28 s11_28 s12_28 s14_28 s66_28 s67_28 s85_28
    refine then_n <| aw_case s85_28 (fun hq_29 => ?_) (fun hq_29 => ?_)
    ·replace hq_29 := bt hq_29
     refine aw_seq <| at_ <| ar (ro_assign ev_c) rfl <| ar (ro_assign ev_c) rfl <| ae2 (up_m rfl up_h) up_h ?_; clear s11_28 s12_28 s14_28 s66_28 s67_28 s85_28 s8_28; intro e_30 s6_30 s7_30
     refine then_n <| aw_ret <| then_r <| block_r <| then_r <| then_r <| block_r <| then_r <| ret2 (.inr rfl) (by kernel_rfl) (resV_tmp s6_30) (resV_tmp s7_30) (.nil 1) (.ro _ rfl) ?_
     clear s6_30 s7_30 mo3_23 mo2_23 mo1_23 mo0_23 mo_j12_23 ml_23
     (have hn := ‹min _ _ < (0 : Int)›; rw [if_pos hq, if_pos hq, fasW, if_neg hc, goL_stop (n := ps.length) p3 (by omega) (by rw [hf]; exact hn)]; rfl)
    replace hq_29 := bf hq_29
    (have hn := ‹¬ (min _ _ < (0 : Int))›)
    refine aw_skip <| then_n <| at_ <| ar (ro_move s12_28) rfl <| ar (ro_move (up_m rfl s14_28)) rfl <| ar (ro_lit k9_sl76 (evP_cons up_h evP_nil) rfl rfl rfl rfl) rfl <| al_stm (st_app k9_sl76 rfl ml_23 mo_j12_23 (u2 rfl up_h) up_h (by rfl) (by simp only [lnS] <;> omega)) trivial rfl (fun m_31 hm_31 => ?_)
    have mon_23_31 := m_swap hm_31 ml_23
    simp only [pS, Value.cells, Nat.reduceAdd, one_iE, app_m] at mon_23_31
    have mo3_31 := m_swap_o hm_31 mo3_23 (by omega)
    have mo2_31 := m_swap_o hm_31 mo2_23 (by omega)
    have mo1_31 := m_swap_o hm_31 mo1_23 (by omega)
    have mo0_31 := m_swap_o hm_31 mo0_23 (by omega)
    have ml_31 := m_swap_l hm_31 ml_23
    clear hm_31 mo3_23 mo2_23 mo1_23 mo0_23 mo_j12_23
    refine ar (ro_assign up_h) rfl <| ae5 (up_m rfl (u4 rfl s8_28)) (up_m rfl (u4 rfl s11_28)) up_h (up_m rfl (u4 rfl s66_28)) (up_m rfl (u4 rfl s67_28)) ?_; clear s11_28 s12_28 s14_28 s66_28 s67_28 s85_28 s8_28; intro e_32 s8_32 s11_32 s12_32 s66_32 s67_32
    refine block_n <| then_n <| at_ ?_
    (refine ar (ro_add' s67_32 ev_c ?_) rfl ?_; · (unfold In64; omega))
    refine ar (ro_move up_h) rfl <| ae5 (u2 rfl s8_32) (u2 rfl s11_32) (u2 rfl s12_32) (u2 rfl s66_32) up_h ?_; clear s11_32 s12_32 s66_32 s67_32 s8_32; intro e_33 s8_33 s11_33 s12_33 s66_33 s67_33
    refine then_n <| ⟨⟨_, _⟩, ⟨s67_33, (s8_33.trans s8_22.symm), (s11_33.trans s11_22.symm), (s66_33.trans s66_22.symm), (mo3_31.trans mo3_20.symm), (mo2_31.trans mo2_20.symm), (mo1_31.trans mo1_20.symm), (mo0_31.trans mo0_20.symm), ⟨_, s12_33, mon_23_31, (by omega), (by omega), (by omega), (by omega)⟩, ⟨_, ml_31, by omega⟩, ?_⟩, ?_⟩
    ·(have hst := goL_step p3 (by rw [hf]; exact hn); rw [hf] at hst; refine ⟨by omega, by omega, ?_, ?_⟩; (rw [show (i + 1).toNat = i.toNat + 1 by omega] at hst ⊢; exact hst); (rw [show (i + 1).toNat = i.toNat + 1 by omega] at hn hcb hcb2 ⊢; rw [getD_snoc (by omega)]; constructor; exact Int.not_lt.1 hn; omega))
    ·((try dsimp only); omega)
   replace hq_25 := bf hq_25
   refine aw_exit <| then_x <| then_x <| block_hit <| then_n <| aw_seq <| at_ <| ar (ro_move s12_24) rfl <| ar (ro_assign up_h) rfl <| ar (ro_assign ev_c) rfl <| ae2 (up_m rfl up_h) up_h ?_; clear s11_24 s12_24 s66_24 s67_24 s68_24 s8_24; intro e_34 s6_34 s7_34
   refine then_n <| aw_ret <| ret2 (.inr rfl) (by kernel_rfl) (resV_tmp s6_34) (resV_tmp s7_34) (.own _ _ _ _ mo_j12_23) (.ro _ rfl) ?_
   clear s6_34 s7_34 mo3_23 mo2_23 mo1_23 mo0_23 mo_j12_23 ml_23
   (have hi : i.toNat = ps.length := (by omega); rw [hi] at p3; rw [if_pos hq, if_pos hq, fasW, if_neg hc, p3])
end
end Go.Proofs.YtjhcfpdgldpicaaGreatDoor
namespace Go.Proofs.YtjhcfpdgldpicaaGreatDoor
open Go Go.RowKit Go.Proofs
theorem k10_hcf91 : ∀ args w, (callFunc 91 args).run Tryz.prog w = .ok (.enter 91 args) w := fun _ _ => by kernel_rfl
theorem k10_sl219 : SlIs Tryz.prog 219 29 1 8 (.int .i64 0) := ⟨by kernel_rfl, by kernel_rfl, by kernel_rfl⟩
theorem k10_sl22 : SlIs Tryz.prog 22 111 4 32 (.agg #[.int .i64 0, .int .i64 0, .int .i64 0, .bool false]) := ⟨by kernel_rfl, by kernel_rfl, by kernel_rfl⟩
theorem k10_sl76 : SlIs Tryz.prog 76 3 1 8 (.int .i64 0) := ⟨by kernel_rfl, by kernel_rfl, by kernel_rfl⟩
theorem k10_ty115 : TyIs Tryz.prog 115 true 2 := ⟨by kernel_rfl, by kernel_rfl⟩
theorem k10_ty178 : TyIs Tryz.prog 178 true 5 := ⟨by kernel_rfl, by kernel_rfl⟩
theorem k10_ty22 : TyIs Tryz.prog 22 false 1 := ⟨by kernel_rfl, by kernel_rfl⟩
theorem k10_ty24 : TyIs Tryz.prog 24 true 2 := ⟨by kernel_rfl, by kernel_rfl⟩
theorem k10_ty3 : TyIs Tryz.prog 3 false 1 := ⟨by kernel_rfl, by kernel_rfl⟩
theorem k10_ty62 : TyIs Tryz.prog 62 true 2 := ⟨by kernel_rfl, by kernel_rfl⟩
theorem k10_ty81 : TyIs Tryz.prog 81 true 3 := ⟨by kernel_rfl, by kernel_rfl⟩
theorem k10_ty85 : TyIs Tryz.prog 85 true 2 := ⟨by kernel_rfl, by kernel_rfl⟩
theorem Ok.len {ps : List Piece} (h : Ok ps) {i : Nat} (hi : i < ps.length) : 1 ≤ (ps.getD i default).len := by
 have h1 := h (ps.getD i default) (by rw [List.getD_eq_getElem?_getD, List.getElem?_eq_getElem hi, Option.getD_some]; exact List.getElem_mem hi)
 simp only [pieceB, withinB, Bool.and_eq_true, decide_eq_true_eq] at h1
 omega
def stG (ps : List Piece) (b : Int) : Nat → Nat → Int → Option (Int × Int)
 | 0, _, _ => none
 | k + 1, i, s => if losW b (ps.getD i default) > 0 ∧ losW b (ps.getD i default) ≥ s then
  some (sumL ps i + s.tdiv ((losW b (ps.getD i default)).tdiv (ps.getD i default).len), sumL ps i + (s + (losW b (ps.getD i default)).tdiv (ps.getD i default).len - 1).tdiv ((losW b (ps.getD i default)).tdiv (ps.getD i default).len))
  else stG ps b k (i + 1) (s - losW b (ps.getD i default))
def stW (ps : List Piece) (b post sq : Int) : (Int × Int) × Int := match stG ps b (ps.length - post.toNat) post.toNat sq with
 | some x => (x, 0)
 | none => ((0, 0), 12)
theorem los_by {dec : Int} {p : Piece} (hl : 1 ≤ p.len) : (losW dec p).tdiv p.len = 2 * (dec + 10 * p.grad) := by
 unfold losW
 exact Int.mul_tdiv_cancel _ (by omega)
theorem los_pos {dec : Int} {p : Piece} (hl : 1 ≤ p.len) (h : losW dec p > 0) : 2 * (dec + 10 * p.grad) ≥ 1 := by
 unfold losW at h
 by_cases hc : 2 * (dec + 10 * p.grad) ≥ 1
 ·exact hc
 ·have : 2 * (dec + 10 * p.grad) * p.len ≤ 0 := Int.mul_nonpos_of_nonpos_of_nonneg (by omega) (by omega)
  omega
theorem tdiv_bound {x y : Int} (hx : 0 ≤ x) (hy : 1 ≤ y) : 0 ≤ x.tdiv y ∧ x.tdiv y ≤ x := by
 rw [Int.tdiv_eq_ediv_of_nonneg hx]
 exact ⟨Int.ediv_nonneg hx (by omega), Int.ediv_le_self _ hx⟩
def stE (nm : ByteArray) (ps : List Piece) (b d v post sq : Int) : Int := firstE [firstE [(chk nm ps).2, sysE b d v], stateE ps post sq]
theorem stE_right {nm : ByteArray} {ps : List Piece} {b d v post sq : Int} (h : stE nm ps b d v post sq = 0) : trackR ps ∧ sysR b d v ∧ (0 ≤ post ∧ post ≤ ps.length) ∧ (0 ≤ sq ∧ sq ≤ 20000000000) := by
 obtain ⟨h1, h2, h3⟩ := ride_right h
 obtain ⟨h4, h5⟩ := firstE_cons h3
 obtain ⟨h8, h9⟩ := firstE_cons h4
 have a1 := unlessE_zero h8 (by decide)
 have a2 := unlessE_zero (firstE_cons h9).1 (by decide)
 simp only [withinB, Bool.and_eq_true, decide_eq_true_eq] at a1 a2
 exact ⟨h1, h2, a1, a2⟩
section
variable (nm : ByteArray) (ps : List Piece) (hs : nm.size ≤ 1000000000) (hp : ps.length ≤ 1000000000) (b d v : Int)
include hs hp
set_option maxRecDepth 100000 in
set_option maxHeartbeats 4000000 in
theorem standsAt_ok (post sq : Int) : FnOk Tryz.prog 36 [trA nm ps, syA b d v, .agg [iA post, iA sq]] (fun q => q = .tuple [.agg [iA (if stE nm ps b d v post sq = 0 then (stW ps b post sq).1 else (0, 0)).1, iA (if stE nm ps b d v post sq = 0 then (stW ps b post sq).1 else (0, 0)).2], iA (if stE nm ps b d v post sq = 0 then (stW ps b post sq).2 else stE nm ps b d v post sq)]) := by
 refine fnOk_of (fn := Tryz.f36) 91 (by kernel_rfl) rfl (by kernel_rfl) (Nat.le_of_ble_eq_true rfl) ?_
 intro e_0 m_0 hA hm_0
 have s0_0 : evA e_0 (.tmp 0) = _ := hA 0 _ rfl
 have s1_0 : evA e_0 (.tmp 1) = _ := hA 1 _ rfl
 have s2_0 : evA e_0 (.tmp 2) = _ := hA 2 _ rfl
 have ml_0 : m_0.length = 0 := by rw [hm_0]; rfl
 clear hA hm_0
 refine aw_seq <| at_ <| al_stm (st_box s0_0 rfl ml_0) trivial rfl (fun m_1 hm_1 => ?_)
 have mo0_1 := m_push hm_1 ml_0
 have ml_1 := m_push_l hm_1 ml_0
 have ml_1 : _ = 1 := ml_1
 clear hm_1
 refine al_stm (st_box (up_m rfl s1_0) rfl ml_1) trivial rfl (fun m_2 hm_2 => ?_)
 have mo1_2 := m_push hm_2 ml_1
 have mo0_2 := m_push_o hm_2 mo0_1
 have ml_2 := m_push_l hm_2 ml_1
 have ml_2 : _ = 2 := ml_2
 clear hm_2 mo0_1
 refine al_stm (st_box (u2 rfl s2_0) rfl ml_2) trivial rfl (fun m_3 hm_3 => ?_)
 have mo2_3 := m_push hm_3 ml_2
 have mo1_3 := m_push_o hm_3 mo1_2
 have mo0_3 := m_push_o hm_3 mo0_2
 have ml_3 := m_push_l hm_3 ml_2
 have ml_3 : _ = 3 := ml_3
 clear hm_3 mo1_2 mo0_2
 refine al_stm (st_alloc qaz62 rfl ml_3) trivial rfl (fun m_4 hm_4 => ?_)
 have mo3_4 := m_push hm_4 ml_3
 simp only [pS, Value.cells, Nat.reduceAdd] at mo3_4
 have mo2_4 := m_push_o hm_4 mo2_3
 have mo1_4 := m_push_o hm_4 mo1_3
 have mo0_4 := m_push_o hm_4 mo0_3
 have ml_4 := m_push_l hm_4 ml_3
 have ml_4 : _ = 4 := ml_4
 clear hm_4 mo2_3 mo1_3 mo0_3
 refine ar (ro_assign ev_c) rfl <| ae4 (u4 rfl up_h) (up_m rfl (u2 rfl up_h)) (u2 rfl up_h) (up_m rfl up_h) ?_; clear s0_0 s1_0 s2_0; intro e_5 s3_5 s4_5 s5_5 s6_5
 refine then_n <| aw_seq <| at_ <| ar (ro_eq (ro_ld_ptr k10_ty24 rfl mo0_4 s3_5 (nle rfl)) (by simp only [pS, Value.cells, Nat.reduceAdd] <;> rfl)) rfl ?_
 refine ar (ro_eq (ro_ld_ptr k10_ty81 rfl mo1_4 (up_m rfl s4_5) (nle rfl)) (by simp only [pS, Value.cells, Nat.reduceAdd] <;> rfl)) rfl ?_
 refine ar (ro_call (evL_cons (up_m rfl up_h) (evL_cons up_h evL_nil)) rfl (openRide_ok nm ps hs hp b d v) qhcf84) rfl <| ar (ro_move up_h) rfl <| ar (ro_extract up_h rfl) rfl <| ar (ro_extract (up_m rfl up_h) rfl) rfl <| al_stm (st_alloc qaz178 rfl ml_4) trivial rfl (fun m_6 hm_6 => ?_)
 have mo4_6 := m_push hm_6 ml_4
 simp only [pS, Value.cells, Nat.reduceAdd] at mo4_6
 have mo3_6 := m_push_o hm_6 mo3_4
 have mo2_6 := m_push_o hm_6 mo2_4
 have mo1_6 := m_push_o hm_6 mo1_4
 have mo0_6 := m_push_o hm_6 mo0_4
 have ml_6 := m_push_l hm_6 ml_4
 have ml_6 : _ = 5 := ml_6
 clear hm_6 mo3_4 mo2_4 mo1_4 mo0_4
 refine al_stm (st_store up_h (u2 rfl up_h) rfl rfl mo4_6 qsz178 rfl (nle rfl)) trivial rfl (fun m_7 hm_7 => ?_)
 have mo4_7 := m_set hm_7 mo4_6
 simp only [pS, Value.cells, Nat.reduceAdd] at mo4_7
 have mo3_7 := m_set_o hm_7 mo3_6 (by decide)
 have mo2_7 := m_set_o hm_7 mo2_6 (by decide)
 have mo1_7 := m_set_o hm_7 mo1_6 (by decide)
 have mo0_7 := m_set_o hm_7 mo0_6 (by decide)
 have ml_7 := m_set_l hm_7 ml_6
 clear hm_7 mo4_6 mo3_6 mo2_6 mo1_6 mo0_6
 refine ar (ro_assign (up_n (up_m rfl up_h))) rfl <| ae4 (up_m rfl (up_n (up_m rfl (u2 rfl (u4 rfl s5_5))))) (up_m rfl (up_n (up_m rfl (u2 rfl (u4 rfl s6_5))))) (up_m rfl (up_n up_h)) up_h ?_; clear s3_5 s4_5 s5_5 s6_5; intro e_8 s5_8 s6_8 s8_8 s9_8
 refine then_n <| aw_seq <| aw_seq <| at_ <| ar (ro_move s9_8) rfl <| ar (ro_eq (ro_ld_ptr k10_ty178 rfl mo4_7 (up_m rfl s8_8) (nle rfl)) (by simp only [pS, Value.cells, Nat.reduceAdd] <;> rfl)) rfl ?_
 refine ar (ro_eq (ro_ld_ptr k10_ty85 rfl mo2_7 (u2 rfl s5_8) (nle rfl)) (by simp only [pS, Value.cells, Nat.reduceAdd] <;> rfl)) rfl ?_
 refine ar (ro_call (evL_cons (up_m rfl up_h) (evL_cons up_h evL_nil)) rfl (stateErr_ok nm ps hp b d v post sq) qhcf90) rfl <| ar (ro_lit k10_sl219 (evP_cons (up_m rfl (u2 rfl up_h)) (evP_cons up_h evP_nil)) rfl rfl rfl rfl) rfl <| ar (ro_call (evL_cons up_h evL_nil) rfl (first_ok [_, _] (by simp)) qhcf85) rfl ?_
 refine ar (ro_assign up_h) rfl <| ae4 (up_m rfl (u2 rfl (u4 rfl s5_8))) (up_m rfl (u2 rfl (u4 rfl s6_8))) (up_m rfl (u2 rfl (u4 rfl s8_8))) up_h ?_; clear s5_8 s6_8 s8_8 s9_8; intro e_9 s5_9 s6_9 s8_9 s9_9
 refine then_n <| aw_seq <| at_ <| ar (ro_move s9_9) rfl <| ar (ro_neq up_h ev_c) rfl <| ae5 (u2 rfl s5_9) (u2 rfl s6_9) (u2 rfl s8_9) (u2 rfl s9_9) up_h ?_; clear s5_9 s6_9 s8_9 s9_9; intro e_10 s5_10 s6_10 s8_10 s9_10 s28_10
 refine then_n <| aw_case s28_10 (fun hq_11 => ?_) (fun hq_11 => ?_)
 ·replace hq_11 := bnt hq_11
  refine aw_seq <| at_ <| ar (ro_build evP_nil qbz62 qbu62 qbp62 rfl) rfl ?_
  refine ar (ro_move (up_m rfl s9_10)) rfl <| al_stm (st_store (u2 rfl s6_10) (up_m rfl up_h) rfl rfl mo3_7 qsz62 rfl (nle rfl)) trivial rfl (fun m_12 hm_12 => ?_)
  have mo3_12 := m_set hm_12 mo3_7
  simp only [pS, Value.cells, Nat.reduceAdd] at mo3_12
  have mo4_12 := m_set_o hm_12 mo4_7 (by decide)
  have mo2_12 := m_set_o hm_12 mo2_7 (by decide)
  have mo1_12 := m_set_o hm_12 mo1_7 (by decide)
  have mo0_12 := m_set_o hm_12 mo0_7 (by decide)
  have ml_12 := m_set_l hm_12 ml_7
  clear hm_12 mo4_7 mo3_7 mo2_7 mo1_7 mo0_7
  refine ar (ro_assign (up_n up_h)) rfl <| ae2 (up_m rfl (up_n (u2 rfl s6_10))) up_h ?_; clear s28_10 s5_10 s6_10 s8_10 s9_10; intro e_13 s6_13 s7_13
  refine then_n <| aw_ret <| then_r <| ret2 (.inr rfl) (by kernel_rfl) (resV_cell s6_13 mo3_12 k10_ty62 (nle rfl) (by simp)) (resV_tmp s7_13) (vw_r (.ro _ rfl)) (.ro _ rfl) ?_
  clear s6_13 s7_13 mo3_12 mo4_12 mo2_12 mo1_12 mo0_12 ml_12
  (have hq : ¬ stE nm ps b d v post sq = 0 := (by assumption); rw [if_neg hq, if_neg hq]; rfl)
 replace hq_11 := bnf hq_11
 (have hq : stE nm ps b d v post sq = 0 := (by assumption); have hR := stE_right hq; have hlen := hR.1.2; have hpl := plW_len ps ps.length; have hpo := hR.2.2.1; have hsq := hR.2.2.2; have hbb := hR.2.1.1)
 refine aw_skip <| then_n <| aw_seq <| aw_draw 7 (by kernel_rfl) (by kernel_rfl) (by kernel_rfl) (by kernel_rfl) ?_
 refine dr (ro_fld_ptr qfl178_0 rfl s8_10) rfl <| dr (ro_eq (ro_ld_ptr k10_ty115 rfl mo4_7 up_h (nle rfl)) (by simp only [pS, Value.cells, Nat.reduceAdd] <;> rfl)) rfl ?_
 refine dr (ro_call (evL_cons up_h evL_nil) rfl (places_ok nm ps hR.1.1 (by have := hR.1.2; omega)) k10_hcf91) rfl ?_
 refine dr (ro_fld_ptr qfl85_1 rfl (up_m rfl (u2 rfl s5_10))) rfl <| dr (ro_eq (ro_ld_ptr k10_ty3 rfl mo2_7 up_h (nle rfl)) (by simp only [pS, Value.cells, Nat.reduceAdd] <;> rfl)) rfl ?_
 refine dr (ro_assign (u2 rfl up_h)) rfl <| dr (ro_assign (up_m rfl up_h)) rfl <| ds_nil <| ae5 (up_m rfl (u2 rfl (u4 rfl s5_10))) (up_m rfl (u2 rfl (u4 rfl s6_10))) (up_m rfl (u2 rfl (u4 rfl s8_10))) (up_m rfl up_h) up_h ?_; clear s28_10 s5_10 s6_10 s8_10 s9_10; intro e_14 s5_14 s6_14 s8_14 s10_14 s11_14
 refine then_n <| aw_seq <| aw_seq <| at_ <| ar (ro_fld_ptr qfl85_0 rfl s5_14) rfl <| ar (ro_eq (ro_ld_ptr k10_ty3 rfl mo2_7 up_h (nle rfl)) (by simp only [pS, Value.cells, Nat.reduceAdd] <;> rfl)) rfl ?_
 refine ar (ro_assign up_h) rfl <| ae5 (up_m rfl (u2 rfl s6_14)) (up_m rfl (u2 rfl s8_14)) (up_m rfl (u2 rfl s10_14)) (up_m rfl (u2 rfl s11_14)) up_h ?_; clear s10_14 s11_14 s5_14 s6_14 s8_14; intro e_15 s6_15 s8_15 s10_15 s11_15 s12_15
 refine then_n <| aw_block <| aw_loop (S := (Int × Int)) (fun s e mem => match s with | ⟨i, s⟩ => (evA e (.tmp 12) = .v (.int .i64 i)) ∧ (evA e (.tmp 11) = .v (.int .i64 s)) ∧ (evA e (.tmp 6) = evA e_15 (.tmp 6)) ∧ (evA e (.tmp 8) = evA e_15 (.tmp 8)) ∧ (evA e (.tmp 10) = evA e_15 (.tmp 10)) ∧ (mem[4]? = m_7[4]?) ∧ (mem[3]? = m_7[3]?) ∧ (mem[2]? = m_7[2]?) ∧ (mem[1]? = m_7[1]?) ∧ (mem[0]? = m_7[0]?) ∧ (mem.length = 5) ∧ ((post ≤ i ∧ i ≤ ps.length ∧ 0 ≤ s ∧ s ≤ 20000000000 + 80000000000 * i ∧ stG ps b (ps.length - post.toNat) post.toNat sq = stG ps b (ps.length - i.toNat) i.toNat s))) (fun s => match s with | ⟨i, s⟩ => (ps.length - i).toNat) ⟨_, _⟩ ⟨s12_15, s11_15, rfl, rfl, rfl, rfl, rfl, rfl, rfl, rfl, ml_7, ?_⟩ ?_
 ·(refine ⟨by omega, by omega, by omega, by omega, rfl⟩)
 ·rintro ⟨i, s⟩ e_16 m_16 ⟨s12_16, s11_16, k6_16, k8_16, k10_16, mk4_16, mk3_16, mk2_16, mk1_16, mk0_16, ml_16, hinv⟩
  have s6_16 := k6_16.trans s6_15
  have s8_16 := k8_16.trans s8_15
  have s10_16 := k10_16.trans s10_15
  have mo4_16 := mk4_16.trans mo4_7
  have mo3_16 := mk3_16.trans mo3_7
  have mo2_16 := mk2_16.trans mo2_7
  have mo1_16 := mk1_16.trans mo1_7
  have mo0_16 := mk0_16.trans mo0_7
  refine aw_seq <| aw_seq <| at_ <| ar (ro_move s12_16) rfl <| ar (ro_fld_ptr qfl178_0 rfl (up_m rfl s8_16)) rfl <| ar (ro_fld_ptr qfl115_0 rfl up_h) rfl <| ar (ro_fld_ptr qfl24_1 rfl up_h) rfl <| ar (ro_eq (ro_ld_ptr k10_ty22 rfl mo4_16 up_h (nle rfl)) (by simp only [pS, Value.cells, Nat.reduceAdd] <;> rfl)) rfl ?_
  refine ar (ro_eq (ro_len_row up_h rfl k10_sl22.1) (by simp only [lnS] <;> rfl)) rfl ?_
  refine ar (ro_lss (up_m rfl (u4 rfl up_h)) up_h) rfl <| ae6 (up_m rfl (u2 rfl (u4 rfl s6_16))) (up_m rfl (u2 rfl (u4 rfl s8_16))) (up_m rfl (u2 rfl (u4 rfl s10_16))) (up_m rfl (u2 rfl (u4 rfl s11_16))) (up_m rfl (u2 rfl (u4 rfl s12_16))) up_h ?_; clear s10_16 s11_16 s12_16 s6_16 s8_16; intro e_17 s6_17 s8_17 s10_17 s11_17 s12_17 s44_17
  refine then_n <| aw_case s44_17 (fun hq_18 => ?_) (fun hq_18 => ?_)
  ·replace hq_18 := bt hq_18
   (obtain ⟨p1, p2, p3, p4, p5⟩ := hinv; have hpa := hR.1.1.at i.toNat; have hle := hR.1.1.len (i := i.toNat) (by omega); have hlos := los_bound (dec := b) (p := ps.getD i.toNat default) (by omega) hpa.1 hpa.2.1; have hsu := sumL_bound hR.1.1 i.toNat; have hat : (plW ps ps.length).getD i.toNat default = sumL ps i.toNat := plW_at ps (by omega); have hby := los_by (dec := b) hle)
   refine aw_skip <| then_n <| aw_seq <| aw_block <| aw_seq <| at_ <| ar (ro_eq (ro_ld_ptr k10_ty178 rfl mo4_16 s8_17 (nle rfl)) (by simp only [pS, Value.cells, Nat.reduceAdd] <;> rfl)) rfl ?_
   refine ar (ro_move (up_m rfl s12_17)) rfl <| ar (ro_call (evL_cons (up_m rfl up_h) (evL_cons up_h evL_nil)) rfl (braked_ok nm ps hR.1.1 b d v i (by omega) (by omega) (by have := hR.2.1.1; omega)) qhcf92) rfl ?_
   refine ar (ro_assign up_h) rfl <| ae6 (u4 rfl s6_17) (u4 rfl s8_17) (u4 rfl s10_17) (u4 rfl s11_17) (u4 rfl s12_17) up_h ?_; clear s10_17 s11_17 s12_17 s44_17 s6_17 s8_17; intro e_19 s6_19 s8_19 s10_19 s11_19 s12_19 s13_19
   refine then_n <| aw_seq <| aw_seq <| at_ <| ar (ro_move s13_19) rfl <| ar (ro_gtr up_h ev_c) rfl <| ar (ro_move up_h) rfl <| al_case up_h (fun hb_20 hq_20 => ?_) (fun hb_20 hq_20 => ?_)
   ·replace hq_20 := bt hq_20
    refine al_ro' (ro_move (up_m rfl (u2 rfl s13_19))) ⟨_, rfl, hb_20⟩ rfl ?_
    refine al_ro' (ro_move (u4 rfl s11_19)) ⟨_, rfl, (up_m rfl hb_20)⟩ rfl ?_
    refine al_ro' (ro_geq (up_m rfl up_h) up_h) ⟨_, rfl, (u2 rfl hb_20)⟩ rfl ?_
    refine ar (ro_pickT (up_m rfl (u2 rfl hb_20)) up_h) rfl <| ae7 (up_m rfl (u2 rfl (u4 rfl s6_19))) (up_m rfl (u2 rfl (u4 rfl s8_19))) (up_m rfl (u2 rfl (u4 rfl s10_19))) (up_m rfl (u2 rfl (u4 rfl s11_19))) (up_m rfl (u2 rfl (u4 rfl s12_19))) (up_m rfl (u2 rfl (u4 rfl s13_19))) up_h ?_; clear hb_20 s10_19 s11_19 s12_19 s13_19 s6_19 s8_19; intro e_21 s6_21 s8_21 s10_21 s11_21 s12_21 s13_21 s56_21
    refine then_n <| aw_case s56_21 (fun hq_22 => ?_) (fun hq_22 => ?_)
    ·replace hq_22 := bt hq_22
     (have hgt : losW b (ps.getD i.toNat default) > 0 ∧ losW b (ps.getD i.toNat default) ≥ s := (by omega); have hps := los_pos hle hgt.1; have ht1 := tdiv_bound (x := s) (y := (losW b (ps.getD i.toNat default)).tdiv (ps.getD i.toNat default).len) (by omega) (by omega); have ht2 := tdiv_bound (x := s + (losW b (ps.getD i.toNat default)).tdiv (ps.getD i.toNat default).len - 1) (y := (losW b (ps.getD i.toNat default)).tdiv (ps.getD i.toNat default).len) (by omega) (by omega))
     refine aw_seq <| at_ <| ar (ro_move s13_21) rfl <| ar (ro_fld_ptr qfl178_0 rfl (up_m rfl s8_21)) rfl <| ar (ro_fld_ptr qfl115_0 rfl up_h) rfl <| ar (ro_fld_ptr qfl24_1 rfl up_h) rfl <| ar (ro_eq (ro_ld_ptr k10_ty22 rfl mo4_16 up_h (nle rfl)) (by simp only [pS, Value.cells, Nat.reduceAdd] <;> rfl)) rfl ?_
     refine ar (ro_move (up_m rfl (u4 rfl s12_21))) rfl <| ar (ro_eq (ro_ix k10_sl22 (up_m rfl up_h) up_h (by omega) (by first | (refine idx_map ?_; first | omega | (simp only [lnS]; omega)) | (refine idx_mapI ?_; first | omega | (simp only [lnS]; omega)) | (refine idx_mapN ?_; first | omega | (simp only [lnS]; omega)) | rfl)) (by rfl)) rfl ?_
     refine ar (ro_eq (ro_fld_ref qfl111_0 rfl up_h) (by simp only [pS, Value.cells, Nat.reduceAdd] <;> rfl)) rfl ?_
     refine ar (ro_eq (ro_ld_ref k10_ty3 rfl up_h (nle rfl)) (by simp only [pS, Value.cells, Nat.reduceAdd] <;> rfl)) rfl ?_
     (refine ar (ro_quo' (u8 rfl up_h) up_h (by omega) ?_) rfl ?_; · (unfold In64; omega))
     refine ar (ro_assign up_h) rfl <| ae5 (up_m rfl (u2 rfl (u8 rfl s6_21))) (up_m rfl (u2 rfl (u8 rfl s10_21))) (up_m rfl (u2 rfl (u8 rfl s11_21))) (up_m rfl (u2 rfl (u8 rfl s12_21))) up_h ?_; clear s10_21 s11_21 s12_21 s13_21 s56_21 s6_21 s8_21; intro e_23 s6_23 s10_23 s11_23 s12_23 s14_23
     refine then_n <| aw_seq <| aw_draw 20 (by kernel_rfl) (by kernel_rfl) (by kernel_rfl) (by kernel_rfl) ?_
     refine dr (ro_move s10_23) rfl <| dr (ro_move (up_m rfl s12_23)) rfl <| dr (ro_eq (ro_ix k10_sl76 (up_m rfl up_h) up_h (by omega) (by first | (refine idx_map ?_; first | omega | (simp only [lnS]; omega)) | (refine idx_mapI ?_; first | omega | (simp only [lnS]; omega)) | (refine idx_mapN ?_; first | omega | (simp only [lnS]; omega)) | rfl)) (by simp only [pS, Value.cells, Nat.reduceAdd] <;> rfl)) rfl ?_
     refine dr (ro_eq (ro_ld_ref k10_ty3 rfl up_h (nle rfl)) (by simp only [pS, Value.cells, Nat.reduceAdd] <;> rfl)) rfl ?_
     refine dr (ro_move (u4 rfl s11_23)) rfl <| dr (ro_move (up_m rfl (u4 rfl s14_23))) rfl ?_
     (refine dr (ro_quo' (up_m rfl up_h) up_h (by omega) ?_) rfl ?_; · (unfold In64; omega))
     (refine dr (ro_add' (up_m rfl (u2 rfl up_h)) up_h ?_) rfl ?_; · (unfold In64; omega))
     refine dr (ro_move (u8 rfl s10_23)) rfl <| dr (ro_move (up_m rfl (u8 rfl s12_23))) rfl <| dr (ro_eq (ro_ix k10_sl76 (up_m rfl up_h) up_h (by omega) (by first | (refine idx_map ?_; first | omega | (simp only [lnS]; omega)) | (refine idx_mapI ?_; first | omega | (simp only [lnS]; omega)) | (refine idx_mapN ?_; first | omega | (simp only [lnS]; omega)) | rfl)) (by simp only [pS, Value.cells, Nat.reduceAdd] <;> rfl)) rfl ?_
     refine dr (ro_eq (ro_ld_ref k10_ty3 rfl up_h (nle rfl)) (by simp only [pS, Value.cells, Nat.reduceAdd] <;> rfl)) rfl ?_
     refine dr (ro_move (u4 rfl (u8 rfl s11_23))) rfl <| dr (ro_move (up_m rfl (u4 rfl (u8 rfl s14_23)))) rfl ?_
     (refine dr (ro_add' (up_m rfl up_h) up_h ?_) rfl ?_; · (unfold In64; omega))
     (refine dr (ro_sub' up_h ev_c ?_) rfl ?_; · (unfold In64; omega))
     refine dr (ro_move (u16 rfl s14_23)) rfl ?_
     (refine dr (ro_quo' (up_m rfl up_h) up_h (by omega) ?_) rfl ?_; · (unfold In64; omega))
     (refine dr (ro_add' (u2 rfl (u4 rfl up_h)) up_h ?_) rfl ?_; · (unfold In64; omega))
     refine dr (ro_build (evP_cons (up_m rfl (u2 rfl (u8 rfl up_h))) (evP_cons up_h evP_nil)) qbz62 qbu62 qbp62 rfl) rfl ?_
     refine ds_nil <| al_stm (st_store (u4 rfl (u16 rfl s6_23)) up_h rfl rfl mo3_16 qsz62 rfl (nle rfl)) trivial rfl (fun m_24 hm_24 => ?_)
     have mo3_24 := m_set hm_24 mo3_16
     simp only [pS, Value.cells, Nat.reduceAdd] at mo3_24
     have mo4_24 := m_set_o hm_24 mo4_16 (by decide)
     have mo2_24 := m_set_o hm_24 mo2_16 (by decide)
     have mo1_24 := m_set_o hm_24 mo1_16 (by decide)
     have mo0_24 := m_set_o hm_24 mo0_16 (by decide)
     have ml_24 := m_set_l hm_24 ml_16
     clear hm_24 mo4_16 mo3_16 mo2_16 mo1_16 mo0_16
     refine ar (ro_assign ev_c) rfl <| ae2 (up_m rfl (up_n (u4 rfl (u16 rfl s6_23)))) up_h ?_; clear s10_23 s11_23 s12_23 s14_23 s6_23; intro e_25 s6_25 s7_25
     refine then_n <| aw_ret <| then_r <| block_r <| then_r <| then_r <| block_r <| then_r <| ret2 (.inr rfl) (by kernel_rfl) (resV_cell s6_25 mo3_24 k10_ty62 (nle rfl) (by simp)) (resV_tmp s7_25) (vw_r (.ro _ rfl)) (.ro _ rfl) ?_
     clear s6_25 s7_25 mo3_24 mo4_24 mo2_24 mo1_24 mo0_24 ml_24
     (have hst : stG ps b (ps.length - post.toNat) post.toNat sq = some (_, _) := (by rw [p5, show ps.length - i.toNat = (ps.length - (i + 1).toNat) + 1 by omega]; simp only [stG]; rw [if_pos hgt]); rw [if_pos hq, if_pos hq, stW, hst, hat]; rfl)
    replace hq_22 := bf hq_22
    refine aw_skip <| then_n <| at_ <| ar (ro_move s11_21) rfl <| ar (ro_move (up_m rfl s13_21)) rfl ?_
    (refine ar (ro_sub' (up_m rfl up_h) up_h ?_) rfl ?_; · (unfold In64; omega))
    refine ar (ro_assign up_h) rfl <| ae5 (u4 rfl s6_21) (u4 rfl s8_21) (u4 rfl s10_21) up_h (u4 rfl s12_21) ?_; clear s10_21 s11_21 s12_21 s13_21 s56_21 s6_21 s8_21; intro e_26 s6_26 s8_26 s10_26 s11_26 s12_26
    refine block_n <| then_n <| at_ <| ar (ro_move s12_26) rfl ?_
    (refine ar (ro_add' up_h ev_c ?_) rfl ?_; · (unfold In64; omega))
    refine ar (ro_assign up_h) rfl <| ae5 (up_m rfl (u2 rfl s6_26)) (up_m rfl (u2 rfl s8_26)) (up_m rfl (u2 rfl s10_26)) (up_m rfl (u2 rfl s11_26)) up_h ?_; clear s10_26 s11_26 s12_26 s6_26 s8_26; intro e_27 s6_27 s8_27 s10_27 s11_27 s12_27
    refine then_n <| ⟨⟨_, _⟩, ⟨s12_27, s11_27, (s6_27.trans s6_15.symm), (s8_27.trans s8_15.symm), (s10_27.trans s10_15.symm), (mo4_16.trans mo4_7.symm), (mo3_16.trans mo3_7.symm), (mo2_16.trans mo2_7.symm), (mo1_16.trans mo1_7.symm), (mo0_16.trans mo0_7.symm), ml_16, ?_⟩, ?_⟩
    ·(refine ⟨by omega, by omega, by omega, by omega, ?_⟩; rw [p5, show ps.length - i.toNat = (ps.length - (i + 1).toNat) + 1 by omega, show (i + 1).toNat = i.toNat + 1 by omega]; simp only [stG]; rw [if_neg (by omega)])
    ·((try dsimp only); omega)
   replace hq_20 := bf hq_20
   refine al_skip' ⟨_, rfl, .inl hb_20⟩ rfl ?_
   refine al_skip' ⟨_, rfl, .inl (up_m rfl hb_20)⟩ rfl ?_
   refine al_skip' ⟨_, rfl, .inl (u2 rfl hb_20)⟩ rfl ?_
   refine ar (ro_pickF (up_m rfl (u2 rfl hb_20)) ev_c) rfl <| ae7 (up_m rfl (u2 rfl (u4 rfl s6_19))) (up_m rfl (u2 rfl (u4 rfl s8_19))) (up_m rfl (u2 rfl (u4 rfl s10_19))) (up_m rfl (u2 rfl (u4 rfl s11_19))) (up_m rfl (u2 rfl (u4 rfl s12_19))) (up_m rfl (u2 rfl (u4 rfl s13_19))) up_h ?_; clear hb_20 s10_19 s11_19 s12_19 s13_19 s6_19 s8_19; intro e_28 s6_28 s8_28 s10_28 s11_28 s12_28 s13_28 s56_28
   refine then_n <| aw_false s56_28 <| aw_skip <| then_n <| at_ <| ar (ro_move s11_28) rfl <| ar (ro_move (up_m rfl s13_28)) rfl ?_
   (refine ar (ro_sub' (up_m rfl up_h) up_h ?_) rfl ?_; · (unfold In64; omega))
   refine ar (ro_assign up_h) rfl <| ae5 (u4 rfl s6_28) (u4 rfl s8_28) (u4 rfl s10_28) up_h (u4 rfl s12_28) ?_; clear s10_28 s11_28 s12_28 s13_28 s56_28 s6_28 s8_28; intro e_30 s6_30 s8_30 s10_30 s11_30 s12_30
   refine block_n <| then_n <| at_ <| ar (ro_move s12_30) rfl ?_
   (refine ar (ro_add' up_h ev_c ?_) rfl ?_; · (unfold In64; omega))
   refine ar (ro_assign up_h) rfl <| ae5 (up_m rfl (u2 rfl s6_30)) (up_m rfl (u2 rfl s8_30)) (up_m rfl (u2 rfl s10_30)) (up_m rfl (u2 rfl s11_30)) up_h ?_; clear s10_30 s11_30 s12_30 s6_30 s8_30; intro e_31 s6_31 s8_31 s10_31 s11_31 s12_31
   refine then_n <| ⟨⟨_, _⟩, ⟨s12_31, s11_31, (s6_31.trans s6_15.symm), (s8_31.trans s8_15.symm), (s10_31.trans s10_15.symm), (mo4_16.trans mo4_7.symm), (mo3_16.trans mo3_7.symm), (mo2_16.trans mo2_7.symm), (mo1_16.trans mo1_7.symm), (mo0_16.trans mo0_7.symm), ml_16, ?_⟩, ?_⟩
   ·(refine ⟨by omega, by omega, by omega, by omega, ?_⟩; rw [p5, show ps.length - i.toNat = (ps.length - (i + 1).toNat) + 1 by omega, show (i + 1).toNat = i.toNat + 1 by omega]; simp only [stG]; rw [if_neg (by omega)])
   ·((try dsimp only); omega)
  replace hq_18 := bf hq_18
  refine aw_exit <| then_x <| then_x <| block_hit <| then_n <| aw_seq <| at_ <| ar (ro_build evP_nil qbz62 qbu62 qbp62 rfl) rfl ?_
  refine al_stm (st_store (up_m rfl s6_17) up_h rfl rfl mo3_16 qsz62 rfl (nle rfl)) trivial rfl (fun m_32 hm_32 => ?_)
  have mo3_32 := m_set hm_32 mo3_16
  simp only [pS, Value.cells, Nat.reduceAdd] at mo3_32
  have mo4_32 := m_set_o hm_32 mo4_16 (by decide)
  have mo2_32 := m_set_o hm_32 mo2_16 (by decide)
  have mo1_32 := m_set_o hm_32 mo1_16 (by decide)
  have mo0_32 := m_set_o hm_32 mo0_16 (by decide)
  have ml_32 := m_set_l hm_32 ml_16
  clear hm_32 mo4_16 mo3_16 mo2_16 mo1_16 mo0_16
  refine ar (ro_assign ev_c) rfl <| ae2 (up_m rfl (up_n (up_m rfl s6_17))) up_h ?_; clear s10_17 s11_17 s12_17 s44_17 s6_17 s8_17; intro e_33 s6_33 s7_33
  refine then_n <| aw_ret <| ret2 (.inr rfl) (by kernel_rfl) (resV_cell s6_33 mo3_32 k10_ty62 (nle rfl) (by simp)) (resV_tmp s7_33) (vw_r (.ro _ rfl)) (.ro _ rfl) ?_
  clear s6_33 s7_33 mo3_32 mo4_32 mo2_32 mo1_32 mo0_32 ml_32
  (obtain ⟨p1, p2, p3, p4, p5⟩ := hinv; have hst : stG ps b (ps.length - post.toNat) post.toNat sq = none := (by rw [p5, show ps.length - i.toNat = 0 by omega]; rfl); rw [if_pos hq, if_pos hq, stW, hst]; rfl)
end
end Go.Proofs.YtjhcfpdgldpicaaGreatDoor
namespace Go.Proofs.YtjhcfpdgldpicaaGreatDoor
open Go Go.RowKit Go.Proofs
theorem k11_sl76 : SlIs Tryz.prog 76 3 1 8 (.int .i64 0) := ⟨by kernel_rfl, by kernel_rfl, by kernel_rfl⟩
theorem k11_ty3 : TyIs Tryz.prog 3 false 1 := ⟨by kernel_rfl, by kernel_rfl⟩
theorem getD_ext {a b : List Int} (hl : a.length = b.length) (h : ∀ j : Nat, j < a.length → a.getD j default = b.getD j default) : a = b := by
 apply List.ext_getElem hl
 intro j h1 h2
 have := h j h1
 simpa [List.getD_eq_getElem?_getD, List.getElem?_eq_getElem h1, List.getElem?_eq_getElem h2] using this
set_option maxRecDepth 100000 in
set_option maxHeartbeats 1000000 in
theorem ints_ok (a b : List Int) (ha : a.length ≤ 1000000000) (hb : b.length ≤ 1000000000) : FnOk Tryz.prog 38 [.row 1 (a.map iE), .row 1 (b.map iE)] (fun q => q = bA (decide (a = b))) := by
 refine fnOk_of (fn := Tryz.f38) 26 (by kernel_rfl) rfl (by kernel_rfl) (Nat.le_of_ble_eq_true rfl) ?_
 intro e_0 m_0 hA hm_0
 have s0_0 : evA e_0 (.tmp 0) = _ := hA 0 _ rfl
 have s1_0 : evA e_0 (.tmp 1) = _ := hA 1 _ rfl
 have ml_0 : m_0.length = 0 := by rw [hm_0]; rfl
 clear hA hm_0
 refine aw_seq <| at_ <| ar (ro_assign ev_c) rfl <| ae2 (up_m rfl s0_0) (up_m rfl s1_0) ?_; clear s0_0 s1_0; intro e_1 s0_1 s1_1
 refine then_n <| aw_seq <| aw_seq <| at_ <| ar (ro_move s0_1) rfl <| ar (ro_eq (ro_len_row up_h rfl k11_sl76.1) (by simp only [lnS] <;> rfl)) rfl ?_
 refine ar (ro_move (u2 rfl s1_1)) rfl <| ar (ro_eq (ro_len_row up_h rfl k11_sl76.1) (by simp only [lnS] <;> rfl)) rfl ?_
 refine ar (ro_neq (u2 rfl up_h) up_h) rfl <| ae3 (up_m rfl (u4 rfl s0_1)) (up_m rfl (u4 rfl s1_1)) up_h ?_; clear s0_1 s1_1; intro e_2 s0_2 s1_2 s10_2
 refine then_n <| aw_case s10_2 (fun hq_3 => ?_) (fun hq_3 => ?_)
 ·replace hq_3 := bnt hq_3
  refine aw_seq <| at_ <| ar (ro_assign ev_c) rfl <| ae1 up_h ?_; clear s0_2 s10_2 s1_2; intro e_4 s4_4
  refine then_n <| aw_ret <| then_r <| ret1 (.inr rfl) (by kernel_rfl) (resV_tmp s4_4) (.ro _ rfl) ?_
  clear s4_4 ml_0
  (have hne : ¬ a = b := (fun hc => absurd (congrArg List.length hc) (by omega)); rw [decide_eq_false hne])
 replace hq_3 := bnf hq_3
 (have hl : a.length = b.length := (by omega))
 refine aw_skip <| then_n <| aw_seq <| aw_seq <| at_ <| ar (ro_assign ev_c) rfl <| ae3 (up_m rfl s0_2) (up_m rfl s1_2) up_h ?_; clear s0_2 s10_2 s1_2; intro e_5 s0_5 s1_5 s5_5
 refine then_n <| aw_block <| aw_loop (S := Int) (fun i e mem => (evA e (.tmp 5) = .v (.int .i64 i)) ∧ (evA e (.tmp 0) = evA e_5 (.tmp 0)) ∧ (evA e (.tmp 1) = evA e_5 (.tmp 1)) ∧ (mem.length = 0) ∧ ((0 ≤ i ∧ i ≤ a.length ∧ a.length = b.length ∧ ∀ j : Nat, j < i → a.getD j default = b.getD j default))) (fun i => (a.length - i).toNat) _ ⟨s5_5, rfl, rfl, ml_0, ?_⟩ ?_
 ·(refine ⟨by omega, by omega, by omega, fun j hj => absurd hj (by omega)⟩)
 ·rintro i e_6 m_6 ⟨s5_6, k0_6, k1_6, ml_6, hinv⟩
  have s0_6 := k0_6.trans s0_5
  have s1_6 := k1_6.trans s1_5
  (have hl := hinv.2.2.1)
  refine aw_seq <| aw_seq <| at_ <| ar (ro_move s5_6) rfl <| ar (ro_move (up_m rfl s0_6)) rfl <| ar (ro_eq (ro_len_row up_h rfl k11_sl76.1) (by simp only [lnS] <;> rfl)) rfl ?_
  refine ar (ro_lss (u2 rfl up_h) up_h) rfl <| ae4 (u4 rfl s0_6) (u4 rfl s1_6) (u4 rfl s5_6) up_h ?_; clear s0_6 s1_6 s5_6; intro e_7 s0_7 s1_7 s5_7 s14_7
  refine then_n <| aw_case s14_7 (fun hq_8 => ?_) (fun hq_8 => ?_)
  ·replace hq_8 := bt hq_8
   (have hx := hinv.2.1)
   refine aw_skip <| then_n <| aw_seq <| aw_block <| aw_seq <| aw_draw 9 (by kernel_rfl) (by kernel_rfl) (by kernel_rfl) (by kernel_rfl) ?_
   refine dr (ro_move s0_7) rfl <| dr (ro_move (up_m rfl s5_7)) rfl <| dr (ro_eq (ro_ix k11_sl76 (up_m rfl up_h) up_h (by omega) (by first | (refine idx_map ?_; first | omega | (simp only [lnS]; omega)) | (refine idx_mapI ?_; first | omega | (simp only [lnS]; omega)) | (refine idx_mapN ?_; first | omega | (simp only [lnS]; omega)) | rfl)) (by simp only [pS, Value.cells, Nat.reduceAdd] <;> rfl)) rfl ?_
   refine dr (ro_eq (ro_ld_ref k11_ty3 rfl up_h (nle rfl)) (by simp only [pS, Value.cells, Nat.reduceAdd] <;> rfl)) rfl ?_
   refine dr (ro_move (u4 rfl s1_7)) rfl <| dr (ro_move (up_m rfl (u4 rfl s5_7))) rfl <| dr (ro_eq (ro_ix k11_sl76 (up_m rfl up_h) up_h (by omega) (by first | (refine idx_map ?_; first | omega | (simp only [lnS]; omega)) | (refine idx_mapI ?_; first | omega | (simp only [lnS]; omega)) | (refine idx_mapN ?_; first | omega | (simp only [lnS]; omega)) | rfl)) (by simp only [pS, Value.cells, Nat.reduceAdd] <;> rfl)) rfl ?_
   refine dr (ro_eq (ro_ld_ref k11_ty3 rfl up_h (nle rfl)) (by simp only [pS, Value.cells, Nat.reduceAdd] <;> rfl)) rfl ?_
   refine dr (ro_neq (u4 rfl up_h) up_h) rfl <| ds_nil <| ae4 (up_m rfl (u8 rfl s0_7)) (up_m rfl (u8 rfl s1_7)) (up_m rfl (u8 rfl s5_7)) up_h ?_; clear s0_7 s14_7 s1_7 s5_7; intro e_9 s0_9 s1_9 s5_9 s25_9
   refine then_n <| aw_case s25_9 (fun hq_10 => ?_) (fun hq_10 => ?_)
   ·replace hq_10 := bnt hq_10
    refine aw_seq <| at_ <| ar (ro_assign ev_c) rfl <| ae1 up_h ?_; clear s0_9 s1_9 s25_9 s5_9; intro e_11 s4_11
    refine then_n <| aw_ret <| block_r <| then_r <| then_r <| block_r <| then_r <| ret1 (.inr rfl) (by kernel_rfl) (resV_tmp s4_11) (.ro _ rfl) ?_
    clear s4_11 ml_6
    (have hne : ¬ a = b := (fun hc => absurd (congrArg (fun l => l.getD i.toNat default) hc) (by assumption)); rw [decide_eq_false hne])
   replace hq_10 := bnf hq_10
   refine aw_skip <| block_n <| then_n <| at_ <| ar (ro_move s5_9) rfl ?_
   (refine ar (ro_add' up_h ev_c ?_) rfl ?_; · (unfold In64; omega))
   refine ar (ro_assign up_h) rfl <| ae3 (up_m rfl (u2 rfl s0_9)) (up_m rfl (u2 rfl s1_9)) up_h ?_; clear s0_9 s1_9 s25_9 s5_9; intro e_12 s0_12 s1_12 s5_12
   refine then_n <| ⟨_, ⟨s5_12, (s0_12.trans s0_5.symm), (s1_12.trans s1_5.symm), ml_6, ?_⟩, ?_⟩
   ·(obtain ⟨p1, p2, p3, p4⟩ := hinv; refine ⟨by omega, by omega, p3, fun j hj => ?_⟩; by_cases hji : j = i.toNat; (rw [hji]; assumption); exact p4 j (by omega))
   ·((try dsimp only); omega)
  replace hq_8 := bf hq_8
  refine aw_exit <| then_x <| then_x <| block_hit <| then_n <| aw_seq <| at_ <| ar (ro_assign ev_c) rfl <| ae1 up_h ?_; clear s0_7 s14_7 s1_7 s5_7; intro e_13 s4_13
  refine then_n <| aw_ret <| ret1 (.inr rfl) (by kernel_rfl) (resV_tmp s4_13) (.ro _ rfl) ?_
  clear s4_13 ml_6
  (obtain ⟨p1, p2, p3, p4⟩ := hinv; refine congrArg bA ?_; simp; exact getD_ext p3 fun j hj => p4 j (by omega))
theorem k12_az81 : (Tryz.prog.info? 81).bind (·.zero) = some (.agg #[.int .i64 0, .int .i64 0, .int .i64 0]) := by kernel_rfl
theorem k12_bz89 : (Tryz.prog.info? 89).bind (·.zero) = some (.agg #[.int .i64 0, .int .i64 0]) := by kernel_rfl
theorem k12_bu89 : Tryz.prog.underlying 89 = some (.array 2 3) := by kernel_rfl
theorem k12_bp89 : (Tryz.prog.info? 3).map (·.size) = some 1 := by kernel_rfl
theorem k12_bz81 : (Tryz.prog.info? 81).bind (·.zero) = some (.agg #[.int .i64 0, .int .i64 0, .int .i64 0]) := by kernel_rfl
theorem k12_bu81 : Tryz.prog.underlying 81 = some (.struct (fsOf Tryz.prog 81)) := by kernel_rfl
theorem k12_bp81 : ∀ w, ((fsOf Tryz.prog 81).mapM fun f => Prod.mk f.offset <$> sizeOf f.type : Sem (Array (Nat × Nat))).run Tryz.prog w = .ok (#[(0, 1), (1, 1), (2, 1)]) w := fun _ => by kernel_rfl
theorem k12_bz85 : (Tryz.prog.info? 85).bind (·.zero) = some (.agg #[.int .i64 0, .int .i64 0]) := by kernel_rfl
theorem k12_bu85 : Tryz.prog.underlying 85 = some (.struct (fsOf Tryz.prog 85)) := by kernel_rfl
theorem k12_bp85 : ∀ w, ((fsOf Tryz.prog 85).mapM fun f => Prod.mk f.offset <$> sizeOf f.type : Sem (Array (Nat × Nat))).run Tryz.prog w = .ok (#[(0, 1), (1, 1)]) w := fun _ => by kernel_rfl
theorem k12_hcf32 : ∀ args w, (callFunc 32 args).run Tryz.prog w = .ok (.enter 32 args) w := fun _ _ => by kernel_rfl
theorem k12_hcf33 : ∀ args w, (callFunc 33 args).run Tryz.prog w = .ok (.enter 33 args) w := fun _ _ => by kernel_rfl
theorem k12_hcf34 : ∀ args w, (callFunc 34 args).run Tryz.prog w = .ok (.enter 34 args) w := fun _ _ => by kernel_rfl
theorem k12_hcf35 : ∀ args w, (callFunc 35 args).run Tryz.prog w = .ok (.enter 35 args) w := fun _ _ => by kernel_rfl
theorem k12_hcf36 : ∀ args w, (callFunc 36 args).run Tryz.prog w = .ok (.enter 36 args) w := fun _ _ => by kernel_rfl
theorem k12_hcf37 : ∀ args w, (callFunc 37 args).run Tryz.prog w = .ok (.enter 37 args) w := fun _ _ => by kernel_rfl
theorem k12_hcf38 : ∀ args w, (callFunc 38 args).run Tryz.prog w = .ok (.enter 38 args) w := fun _ _ => by kernel_rfl
theorem k12_sl22 : SlIs Tryz.prog 22 111 4 32 (.agg #[.int .i64 0, .int .i64 0, .int .i64 0, .bool false]) := ⟨by kernel_rfl, by kernel_rfl, by kernel_rfl⟩
theorem k12_sl76 : SlIs Tryz.prog 76 3 1 8 (.int .i64 0) := ⟨by kernel_rfl, by kernel_rfl, by kernel_rfl⟩
theorem k12_sz81 : (Tryz.prog.info? 81).map (·.size) = some 3 := by kernel_rfl
theorem k12_ty22 : TyIs Tryz.prog 22 false 1 := ⟨by kernel_rfl, by kernel_rfl⟩
theorem k12_ty24 : TyIs Tryz.prog 24 true 2 := ⟨by kernel_rfl, by kernel_rfl⟩
theorem k12_ty62 : TyIs Tryz.prog 62 true 2 := ⟨by kernel_rfl, by kernel_rfl⟩
theorem k12_ty81 : TyIs Tryz.prog 81 true 3 := ⟨by kernel_rfl, by kernel_rfl⟩
theorem k12_ty9 : TyIs Tryz.prog 9 false 1 := ⟨by kernel_rfl, by kernel_rfl⟩
set_option maxRecDepth 100000 in
set_option maxHeartbeats 1000000 in
theorem rCopy_ok (nm : ByteArray) (ps : List Piece) (hp : ps.length ≤ 1000000000) : FnOk Tryz.prog 13 [trA nm ps] (fun q => q = trA nm ps) := by
 refine fnOk_of (fn := Tryz.f13) 10 (by kernel_rfl) rfl (by kernel_rfl) (Nat.le_of_ble_eq_true rfl) ?_
 intro e_0 m_0 hA hm_0
 have s0_0 : evA e_0 (.tmp 0) = _ := hA 0 _ rfl
 have ml_0 : m_0.length = 0 := by rw [hm_0]; rfl
 clear hA hm_0
 refine aw_seq <| at_ <| al_stm (st_box s0_0 rfl ml_0) trivial rfl (fun m_1 hm_1 => ?_)
 have mo0_1 := m_push hm_1 ml_0
 have ml_1 := m_push_l hm_1 ml_0
 have ml_1 : _ = 1 := ml_1
 clear hm_1
 refine al_stm (st_alloc qaz24 rfl ml_1) trivial rfl (fun m_2 hm_2 => ?_)
 have mo1_2 := m_push hm_2 ml_1
 simp only [pS, Value.cells, Nat.reduceAdd] at mo1_2
 have mo0_2 := m_push_o hm_2 mo0_1
 have ml_2 := m_push_l hm_2 ml_1
 have ml_2 : _ = 2 := ml_2
 clear hm_2 mo0_1
 refine ae2 (up_m rfl up_h) up_h ?_; clear s0_0; intro e_3 s1_3 s2_3
 refine then_n <| aw_seq <| aw_draw 7 (by kernel_rfl) (by kernel_rfl) (by kernel_rfl) (by kernel_rfl) ?_
 refine dr (ro_fld_ptr qfl24_0 rfl s1_3) rfl <| dr (ro_eq (ro_ld_ptr k12_ty9 rfl mo0_2 up_h (nle rfl)) (by simp only [pS, Value.cells, Nat.reduceAdd] <;> rfl)) rfl ?_
 refine dr (ro_lit0 k12_sl22) rfl <| dr (ro_fld_ptr qfl24_1 rfl (up_m rfl (u2 rfl s1_3))) rfl <| dr (ro_eq (ro_ld_ptr k12_ty22 rfl mo0_2 up_h (nle rfl)) (by simp only [pS, Value.cells, Nat.reduceAdd] <;> rfl)) rfl ?_
 refine dr (ro_ape k12_sl22 rfl (u2 rfl up_h) up_h (by simp only [lnS] <;> omega)) rfl ?_
 refine dr (ro_build (evP_cons (u4 rfl up_h) (evP_cons up_h evP_nil)) qbz24 qbu24 qbp24 rfl) rfl ?_
 refine ds_nil <| al_stm (st_store (up_m rfl (u2 rfl (u4 rfl s2_3))) up_h rfl rfl mo1_2 qsz24 rfl (nle rfl)) trivial rfl (fun m_4 hm_4 => ?_)
 have mo1_4 := m_set hm_4 mo1_2
 simp only [pS, Value.cells, Nat.reduceAdd] at mo1_4
 have mo0_4 := m_set_o hm_4 mo0_2 (by decide)
 have ml_4 := m_set_l hm_4 ml_2
 clear hm_4 mo1_2 mo0_2
 refine ae1 (up_n (up_m rfl (u2 rfl (u4 rfl s2_3)))) ?_; clear s1_3 s2_3; intro e_5 s2_5
 refine then_n <| aw_ret <| ret1 (.inr rfl) (by kernel_rfl) (resV_cell s2_5 mo1_4 k12_ty24 (nle rfl) (by simp)) (vw_r (.ro _ rfl)) ?_
 clear s2_5 mo1_4 mo0_4 ml_4
 rfl
set_option maxRecDepth 100000 in
set_option maxHeartbeats 1000000 in
theorem short_ok (nm : ByteArray) (ps : List Piece) : FnOk Tryz.prog 8 [trA nm ps] (fun q => q = bA (decide (nm.size ≤ 30 ∧ ps.length ≤ 14))) := by
 refine fnOk_of (fn := Tryz.f8) 13 (by kernel_rfl) rfl (by kernel_rfl) (Nat.le_of_ble_eq_true rfl) ?_
 intro e_0 m_0 hA hm_0
 have s0_0 : evA e_0 (.tmp 0) = _ := hA 0 _ rfl
 have ml_0 : m_0.length = 0 := by rw [hm_0]; rfl
 clear hA hm_0
 refine aw_seq <| at_ <| al_stm (st_box s0_0 rfl ml_0) trivial rfl (fun m_1 hm_1 => ?_)
 have mo0_1 := m_push hm_1 ml_0
 have ml_1 := m_push_l hm_1 ml_0
 have ml_1 : _ = 1 := ml_1
 clear hm_1
 refine ar (ro_assign ev_c) rfl <| ae1 (up_m rfl up_h) ?_; clear s0_0; intro e_2 s1_2
 refine then_n <| aw_seq <| at_ <| ar (ro_fld_ptr qfl24_0 rfl s1_2) rfl <| ar (ro_eq (ro_ld_ptr k12_ty9 rfl mo0_1 up_h (nle rfl)) (by simp only [pS, Value.cells, Nat.reduceAdd] <;> rfl)) rfl ?_
 refine ar (ro_len_str up_h rfl qun9) rfl <| ar (ro_leq up_h ev_c) rfl <| ar (ro_move up_h) rfl <| al_case up_h (fun hb_3 hq_3 => ?_) (fun hb_3 hq_3 => ?_)
 ·replace hq_3 := bt hq_3
  refine al_ro' (ro_fld_ptr qfl24_1 rfl (up_m rfl (u4 rfl s1_2))) ⟨_, rfl, hb_3⟩ rfl ?_
  refine al_ro' (ro_eq (ro_ld_ptr k12_ty22 rfl mo0_1 up_h (nle rfl)) (by simp only [pS, Value.cells, Nat.reduceAdd] <;> rfl)) ⟨_, rfl, (up_m rfl hb_3)⟩ rfl ?_
  refine al_ro' (ro_eq (ro_len_row up_h rfl k12_sl22.1) (by simp only [lnS] <;> rfl)) ⟨_, rfl, (u2 rfl hb_3)⟩ rfl ?_
  refine al_ro' (ro_leq up_h ev_c) ⟨_, rfl, (up_m rfl (u2 rfl hb_3))⟩ rfl ?_
  refine ar (ro_pickT (u4 rfl hb_3) up_h) rfl <| ar (ro_assign up_h) rfl <| ae1 up_h ?_; clear hb_3 s1_2; intro e_4 s2_4
  refine then_n <| aw_ret <| ret1 (.inr rfl) (by kernel_rfl) (resV_tmp s2_4) (.ro _ rfl) ?_
  clear s2_4 mo0_1 ml_1
  (refine avb ?_; simp only [decide_eq_true_eq, Bool.false_eq_true, true_iff, false_iff]; omega)
 replace hq_3 := bf hq_3
 refine al_skip' ⟨_, rfl, .inl hb_3⟩ rfl ?_
 refine al_skip' ⟨_, rfl, .inl (up_m rfl hb_3)⟩ rfl ?_
 refine al_skip' ⟨_, rfl, .inl (u2 rfl hb_3)⟩ rfl ?_
 refine al_skip' ⟨_, rfl, .inl (up_m rfl (u2 rfl hb_3))⟩ rfl ?_
 refine ar (ro_pickF (u4 rfl hb_3) ev_c) rfl <| ar (ro_assign up_h) rfl <| ae1 up_h ?_; clear hb_3 s1_2; intro e_5 s2_5
 refine then_n <| aw_ret <| ret1 (.inr rfl) (by kernel_rfl) (resV_tmp s2_5) (.ro _ rfl) ?_
 clear s2_5 mo0_1 ml_1
 (refine avb ?_; simp only [decide_eq_true_eq, Bool.false_eq_true, true_iff, false_iff]; omega)
def nm0 : ByteArray := ⟨#[116]⟩
def tr0 : List Piece := [⟨100, 0, 10000, false⟩, ⟨100, 0, 8000, true⟩, ⟨50, -10, 10000, false⟩, ⟨200, 0, 10000, true⟩]
set_option maxRecDepth 100000 in
set_option maxHeartbeats 1000000 in
theorem track0_ok : FnOk Tryz.prog 33 [] (fun q => q = trA nm0 tr0) := by
 refine fnOk_of (fn := Tryz.f33) 7 (by kernel_rfl) rfl (by kernel_rfl) (Nat.le_of_ble_eq_true rfl) ?_
 intro e_0 m_0 hA hm_0
 have ml_0 : m_0.length = 0 := by rw [hm_0]; rfl
 clear hA hm_0
 refine aw_seq <| at_ <| al_stm (st_alloc qaz24 rfl ml_0) trivial rfl (fun m_1 hm_1 => ?_)
 have mo0_1 := m_push hm_1 ml_0
 simp only [pS, Value.cells, Nat.reduceAdd] at mo0_1
 have ml_1 := m_push_l hm_1 ml_0
 have ml_1 : _ = 1 := ml_1
 clear hm_1
 refine ae1 up_h ?_; intro e_2 s0_2
 refine then_n <| aw_seq <| at_ <| ar (ro_build (evP_cons ev_c (evP_cons ev_c evP_nil)) qbz111 qbu111 qbp111 rfl) rfl ?_
 refine ar (ro_build (evP_cons ev_c (evP_cons ev_c (evP_cons ev_c evP_nil))) qbz111 qbu111 qbp111 rfl) rfl ?_
 refine ar (ro_build (evP_cons ev_c (evP_cons ev_c (evP_cons ev_c evP_nil))) qbz111 qbu111 qbp111 rfl) rfl ?_
 refine ar (ro_build (evP_cons ev_c (evP_cons ev_c (evP_cons ev_c evP_nil))) qbz111 qbu111 qbp111 rfl) rfl ?_
 refine ar (ro_lit k12_sl22 (evP_cons (up_m rfl (u2 rfl up_h)) (evP_cons (u2 rfl up_h) (evP_cons (up_m rfl up_h) (evP_cons up_h evP_nil)))) rfl rfl rfl rfl) rfl <| ar (ro_build (evP_cons ev_c (evP_cons up_h evP_nil)) qbz24 qbu24 qbp24 rfl) rfl ?_
 refine al_stm (st_store (u2 rfl (u4 rfl s0_2)) up_h rfl rfl mo0_1 qsz24 rfl (nle rfl)) trivial rfl (fun m_3 hm_3 => ?_)
 have mo0_3 := m_set hm_3 mo0_1
 simp only [pS, Value.cells, Nat.reduceAdd] at mo0_3
 have ml_3 := m_set_l hm_3 ml_1
 clear hm_3 mo0_1
 refine ae1 (up_n (u2 rfl (u4 rfl s0_2))) ?_; clear s0_2; intro e_4 s0_4
 refine then_n <| aw_ret <| ret1 (.inr rfl) (by kernel_rfl) (resV_cell s0_4 mo0_3 k12_ty24 (nle rfl) (by simp)) (vw_r (.ro _ rfl)) ?_
 clear s0_4 mo0_3 ml_3
 rfl
set_option maxRecDepth 100000 in
set_option maxHeartbeats 1000000 in
theorem system0_ok : FnOk Tryz.prog 34 [] (fun q => q = syA 100 10 50) := by
 refine fnOk_of (fn := Tryz.f34) 2 (by kernel_rfl) rfl (by kernel_rfl) (Nat.le_of_ble_eq_true rfl) ?_
 intro e_0 m_0 hA hm_0
 have ml_0 : m_0.length = 0 := by rw [hm_0]; rfl
 clear hA hm_0
 refine aw_seq <| at_ <| al_stm (st_alloc k12_az81 rfl ml_0) trivial rfl (fun m_1 hm_1 => ?_)
 have mo0_1 := m_push hm_1 ml_0
 simp only [pS, Value.cells, Nat.reduceAdd] at mo0_1
 have ml_1 := m_push_l hm_1 ml_0
 have ml_1 : _ = 1 := ml_1
 clear hm_1
 refine ae1 up_h ?_; intro e_2 s0_2
 refine then_n <| aw_seq <| at_ <| ar (ro_build (evP_cons ev_c (evP_cons ev_c (evP_cons ev_c evP_nil))) k12_bz81 k12_bu81 k12_bp81 rfl) rfl ?_
 refine al_stm (st_store (up_m rfl s0_2) up_h rfl rfl mo0_1 k12_sz81 rfl (nle rfl)) trivial rfl (fun m_3 hm_3 => ?_)
 have mo0_3 := m_set hm_3 mo0_1
 simp only [pS, Value.cells, Nat.reduceAdd] at mo0_3
 have ml_3 := m_set_l hm_3 ml_1
 clear hm_3 mo0_1
 refine ae1 (up_n (up_m rfl s0_2)) ?_; clear s0_2; intro e_4 s0_4
 refine then_n <| aw_ret <| ret1 (.inr rfl) (by kernel_rfl) (resV_cell s0_4 mo0_3 k12_ty81 (nle rfl) (by simp)) (vw_r (.ro _ rfl)) ?_
 clear s0_4 mo0_3 ml_3
 rfl
theorem curve0_ok : FnOk Tryz.prog 32 [trA nm0 tr0, syA 100 10 50, iA 1] (fun q => q = .tuple [.row 1 ([10000, 8000, 0].map iE), iA 0]) :=
 (curveOf_ok nm0 tr0 (by decide) (by decide) 100 10 50 1).mono fun q h => h.trans (by kernel_rfl)
theorem run0_ok : FnOk Tryz.prog 35 [trA nm0 tr0, syA 100 10 50, .agg [iA 0, iA 5000], iA 3] (fun q => q = .tuple [.row 1 ([5000, 3000, 1000, 10000].map iE), iA 0]) :=
 (runTo_ok nm0 tr0 (by decide) (by decide) 100 10 50 0 5000 3).mono fun q h => h.trans (by kernel_rfl)
theorem stands0_ok : FnOk Tryz.prog 36 [trA nm0 tr0, syA 100 10 50, .agg [iA 0, iA 25000]] (fun q => q = .tuple [.agg [iA 125, iA 125], iA 0]) :=
 (standsAt_ok nm0 tr0 (by decide) (by decide) 100 10 50 0 25000).mono fun q h => h.trans (by kernel_rfl)
theorem fast0_ok : FnOk Tryz.prog 37 [trA nm0 tr0, syA 100 10 50, .agg [iA 0, iA 0]] (fun q => q = .tuple [.row 1 ([0, 8000, 8000, 10000, 0].map iE), iA 0]) :=
 (fastest_ok nm0 tr0 (by decide) (by decide) 100 10 50 0 0).mono fun q h => h.trans (by kernel_rfl)
theorem same_ok (l : List Int) (h : l.length ≤ 1000000000) : FnOk Tryz.prog 38 [.row 1 (l.map iE), .row 1 (l.map iE)] (fun q => q = bA true) :=
 (ints_ok l l h h).mono fun q h => h.trans (by simp)
set_option maxRecDepth 100000 in
set_option maxHeartbeats 1000000 in
theorem awake_ok : FnOk Tryz.prog 7 [] (fun q => q = bA true) := by
 refine fnOk_of (fn := Tryz.f7) 70 (by kernel_rfl) rfl (by kernel_rfl) (Nat.le_of_ble_eq_true rfl) ?_
 intro e_0 m_0 hA hm_0
 have ml_0 : m_0.length = 0 := by rw [hm_0]; rfl
 clear hA hm_0
 refine aw_seq <| at_ <| ar (ro_assign ev_c) rfl <| ae0 ?_; intro e_1
 refine then_n <| aw_seq <| at_ <| ar (ro_call evL_nil rfl (track0_ok) k12_hcf33) rfl <| ar (ro_call evL_nil rfl (system0_ok) k12_hcf34) rfl <| ar (ro_call (evL_cons (up_m rfl up_h) (evL_cons up_h (evL_cons ev_c evL_nil))) rfl (curve0_ok) k12_hcf32) rfl <| ar (ro_move up_h) rfl <| ar (ro_extract up_h rfl) rfl <| ar (ro_extract (up_m rfl up_h) rfl) rfl <| ar (ro_assign (up_m rfl up_h)) rfl <| ar (ro_assign (up_m rfl up_h)) rfl <| ae2 (up_m rfl up_h) up_h ?_; intro e_2 s1_2 s2_2
 refine then_n <| aw_seq <| at_ <| ar (ro_call evL_nil rfl (track0_ok) k12_hcf33) rfl <| ar (ro_call evL_nil rfl (system0_ok) k12_hcf34) rfl <| ar (ro_build (evP_cons ev_c evP_nil) k12_bz85 k12_bu85 k12_bp85 rfl) rfl ?_
 refine ar (ro_call (evL_cons (u2 rfl up_h) (evL_cons (up_m rfl up_h) (evL_cons up_h (evL_cons ev_c evL_nil)))) rfl (run0_ok) k12_hcf35) rfl <| ar (ro_move up_h) rfl <| ar (ro_extract up_h rfl) rfl <| ar (ro_extract (up_m rfl up_h) rfl) rfl <| ar (ro_assign (up_m rfl up_h)) rfl <| ar (ro_assign (up_m rfl up_h)) rfl <| ae4 (up_m rfl (u8 rfl s1_2)) (up_m rfl (u8 rfl s2_2)) (up_m rfl up_h) up_h ?_; clear s1_2 s2_2; intro e_3 s1_3 s2_3 s3_3 s4_3
 refine then_n <| aw_seq <| at_ <| ar (ro_call evL_nil rfl (track0_ok) k12_hcf33) rfl <| ar (ro_call evL_nil rfl (system0_ok) k12_hcf34) rfl <| ar (ro_build (evP_cons ev_c evP_nil) k12_bz85 k12_bu85 k12_bp85 rfl) rfl ?_
 refine ar (ro_call (evL_cons (u2 rfl up_h) (evL_cons (up_m rfl up_h) (evL_cons up_h evL_nil))) rfl (stands0_ok) k12_hcf36) rfl <| ar (ro_move up_h) rfl <| ar (ro_extract up_h rfl) rfl <| ar (ro_extract (up_m rfl up_h) rfl) rfl <| al_stm (st_alloc qaz62 rfl ml_0) trivial rfl (fun m_4 hm_4 => ?_)
 have mo0_4 := m_push hm_4 ml_0
 simp only [pS, Value.cells, Nat.reduceAdd] at mo0_4
 have ml_4 := m_push_l hm_4 ml_0
 have ml_4 : _ = 1 := ml_4
 clear hm_4
 refine al_stm (st_store up_h (u2 rfl up_h) rfl rfl mo0_4 qsz62 rfl (nle rfl)) trivial rfl (fun m_5 hm_5 => ?_)
 have mo0_5 := m_set hm_5 mo0_4
 simp only [pS, Value.cells, Nat.reduceAdd] at mo0_5
 have ml_5 := m_set_l hm_5 ml_4
 clear hm_5 mo0_4
 refine ar (ro_assign (up_n (up_m rfl up_h))) rfl <| ae6 (up_m rfl (up_n (u8 rfl s1_3))) (up_m rfl (up_n (u8 rfl s2_3))) (up_m rfl (up_n (u8 rfl s3_3))) (up_m rfl (up_n (u8 rfl s4_3))) (up_m rfl (up_n up_h)) up_h ?_; clear s1_3 s2_3 s3_3 s4_3; intro e_6 s1_6 s2_6 s3_6 s4_6 s5_6 s6_6
 refine then_n <| aw_seq <| at_ <| ar (ro_call evL_nil rfl (track0_ok) k12_hcf33) rfl <| ar (ro_call evL_nil rfl (system0_ok) k12_hcf34) rfl <| ar (ro_buildA evP_nil k12_bz89 k12_bu89 k12_bp89 rfl) rfl ?_
 refine ar (ro_call (evL_cons (u2 rfl up_h) (evL_cons (up_m rfl up_h) (evL_cons up_h evL_nil))) rfl (fast0_ok) k12_hcf37) rfl <| ar (ro_move up_h) rfl <| ar (ro_extract up_h rfl) rfl <| ar (ro_extract (up_m rfl up_h) rfl) rfl <| ar (ro_assign (up_m rfl up_h)) rfl <| ar (ro_assign (up_m rfl up_h)) rfl <| ae8 (up_m rfl (u8 rfl s1_6)) (up_m rfl (u8 rfl s2_6)) (up_m rfl (u8 rfl s3_6)) (up_m rfl (u8 rfl s4_6)) (up_m rfl (u8 rfl s5_6)) (up_m rfl (u8 rfl s6_6)) (up_m rfl up_h) up_h ?_; clear s1_6 s2_6 s3_6 s4_6 s5_6 s6_6; intro e_7 s1_7 s2_7 s3_7 s4_7 s5_7 s6_7 s7_7 s8_7
 refine then_n <| aw_seq <| at_ <| ar (ro_move s2_7) rfl <| ar (ro_eql up_h ev_c) rfl ?_
 refine ar (ro_move up_h) rfl <| al_case up_h (fun hb_8 hq_8 => ?_) (fun hb_8 hq_8 => ?_)
 ·replace hq_8 := bt hq_8
  refine al_ro' (ro_move (up_m rfl (u2 rfl s1_7))) ⟨_, rfl, hb_8⟩ rfl ?_
  refine al_ro' (ro_lit k12_sl76 (evP_cons ev_c (evP_cons ev_c (evP_cons ev_c evP_nil))) rfl rfl rfl rfl) ⟨_, rfl, (up_m rfl hb_8)⟩ rfl ?_
  refine al_ro' (ro_call (evL_cons (up_m rfl up_h) (evL_cons up_h evL_nil)) rfl (same_ok [10000, 8000, 0] (by decide)) k12_hcf38) ⟨_, rfl, (u2 rfl hb_8)⟩ rfl ?_
  refine ar (ro_pickT (up_m rfl (u2 rfl hb_8)) up_h) rfl <| ar (ro_move up_h) rfl <| al_case up_h (fun hb_9 hq_9 => ?_) (fun hb_9 hq_9 => ?_)
  ·skip
   refine al_ro' (ro_move (u8 rfl s4_7)) ⟨_, rfl, hb_9⟩ rfl ?_
   refine al_ro' (ro_eql up_h ev_c) ⟨_, rfl, (up_m rfl hb_9)⟩ rfl ?_
   refine ar (ro_pickT (u2 rfl hb_9) up_h) rfl <| ar (ro_move up_h) rfl <| al_case up_h (fun hb_10 hq_10 => ?_) (fun hb_10 hq_10 => ?_)
   ·replace hq_10 := bt hq_10
    refine al_ro' (ro_move (u4 rfl (u8 rfl s3_7))) ⟨_, rfl, hb_10⟩ rfl ?_
    refine al_ro' (ro_lit k12_sl76 (evP_cons ev_c (evP_cons ev_c (evP_cons ev_c (evP_cons ev_c evP_nil)))) rfl rfl rfl rfl) ⟨_, rfl, (up_m rfl hb_10)⟩ rfl ?_
    refine al_ro' (ro_call (evL_cons (up_m rfl up_h) (evL_cons up_h evL_nil)) rfl (same_ok [5000, 3000, 1000, 10000] (by decide)) k12_hcf38) ⟨_, rfl, (u2 rfl hb_10)⟩ rfl ?_
    refine ar (ro_pickT (up_m rfl (u2 rfl hb_10)) up_h) rfl <| ar (ro_move up_h) rfl <| al_case up_h (fun hb_11 hq_11 => ?_) (fun hb_11 hq_11 => ?_)
    ·skip
     refine al_ro' (ro_move (up_m rfl (u16 rfl s6_7))) ⟨_, rfl, hb_11⟩ rfl ?_
     refine al_ro' (ro_eql up_h ev_c) ⟨_, rfl, (up_m rfl hb_11)⟩ rfl ?_
     refine ar (ro_pickT (u2 rfl hb_11) up_h) rfl <| ar (ro_move up_h) rfl <| al_case up_h (fun hb_12 hq_12 => ?_) (fun hb_12 hq_12 => ?_)
     ·replace hq_12 := bt hq_12
      refine al_ro' (ro_eq (ro_ld_ptr k12_ty62 rfl mo0_5 (up_m rfl (u4 rfl (u16 rfl s5_7))) (nle rfl)) (by simp only [pS, Value.cells, Nat.reduceAdd] <;> rfl)) ⟨_, rfl, hb_12⟩ rfl ?_
      refine al_ro' (ro_build (evP_cons ev_c (evP_cons ev_c evP_nil)) qbz62 qbu62 qbp62 rfl) ⟨_, rfl, (up_m rfl hb_12)⟩ rfl ?_
      refine al_ro' (ro_aeql (up_m rfl up_h) up_h (xs := [.int .i64 125, .int .i64 125]) (ys := [.int .i64 125, .int .i64 125]) (b := true) ⟨rfl, by kernel_rfl, fun _ => by kernel_rfl⟩) ⟨_, rfl, (u2 rfl hb_12)⟩ rfl ?_
      refine ar (ro_pickT (up_m rfl (u2 rfl hb_12)) up_h) rfl <| ar (ro_move up_h) rfl <| al_case up_h (fun hb_13 hq_13 => ?_) (fun hb_13 hq_13 => ?_)
      ·skip
       refine al_ro' (ro_move (u2 rfl (u8 rfl (u16 rfl s8_7)))) ⟨_, rfl, hb_13⟩ rfl ?_
       refine al_ro' (ro_eql up_h ev_c) ⟨_, rfl, (up_m rfl hb_13)⟩ rfl ?_
       refine ar (ro_pickT (u2 rfl hb_13) up_h) rfl <| ar (ro_move up_h) rfl <| al_case up_h (fun hb_14 hq_14 => ?_) (fun hb_14 hq_14 => ?_)
       ·replace hq_14 := bt hq_14
        refine al_ro' (ro_move (u2 rfl (u4 rfl (u8 rfl (u16 rfl s7_7))))) ⟨_, rfl, hb_14⟩ rfl ?_
        refine al_ro' (ro_lit k12_sl76 (evP_cons ev_c (evP_cons ev_c (evP_cons ev_c (evP_cons ev_c (evP_cons ev_c evP_nil))))) rfl rfl rfl rfl) ⟨_, rfl, (up_m rfl hb_14)⟩ rfl ?_
        refine al_ro' (ro_call (evL_cons (up_m rfl up_h) (evL_cons up_h evL_nil)) rfl (same_ok [0, 8000, 8000, 10000, 0] (by decide)) k12_hcf38) ⟨_, rfl, (u2 rfl hb_14)⟩ rfl ?_
        refine ar (ro_pickT (up_m rfl (u2 rfl hb_14)) up_h) rfl <| ar (ro_assign up_h) rfl <| ae1 up_h ?_; clear hb_10 hb_11 hb_12 hb_13 hb_14 hb_8 hb_9 s1_7 s2_7 s3_7 s4_7 s5_7 s6_7 s7_7 s8_7; intro e_15 s0_15
        refine then_n <| aw_ret <| ret1 (.inr rfl) (by kernel_rfl) (resV_tmp s0_15) (.ro _ rfl) ?_
        clear s0_15 mo0_5 ml_5
        rfl
       ·replace hq_14 := bf hq_14; exfalso; omega
      ·cases hq_13
     ·replace hq_12 := bf hq_12; exfalso; omega
    ·cases hq_11
   ·replace hq_10 := bf hq_10; exfalso; omega
  ·cases hq_9
 ·replace hq_8 := bf hq_8; exfalso; omega
end Go.Proofs.YtjhcfpdgldpicaaGreatDoor
namespace Go.Proofs.YtjhcfpdgldpicaaGreatDoor
open Go Go.RowKit Go.Proofs Go.Lib
theorem itoa_len {n : Int} (h : In64 n) : (itoa n).length ≤ 21 := itoa_length_le n (by unfold In64 at h; omega) (by unfold In64 at h; omega)
section
variable (es er : Value) (hes : isE es) (her : isE er)
include hes her
end
end Go.Proofs.YtjhcfpdgldpicaaGreatDoor
namespace Go.Proofs.YtjhcfpdgldpicaaGreatDoor
open Go Go.RowKit Go.Proofs Go.Shelf Go.Lib
theorem z28_az121 : (Tryz.prog.info? 121).bind (·.zero) = some (.agg #[.pointer none, .slice none 0 0]) := by kernel_rfl
theorem z28_hcf50 : ∀ args w, (callFunc 50 args).run Tryz.prog w = .ok (.enter 50 args) w := fun _ _ => by kernel_rfl
theorem z28_hcf52 : ∀ args w, (callFunc 52 args).run Tryz.prog w = .ok (.enter 52 args) w := fun _ _ => by kernel_rfl
theorem z28_hcf53 : ∀ args w, (callFunc 53 args).run Tryz.prog w = .ok (.enter 53 args) w := fun _ _ => by kernel_rfl
theorem z28_sl104 : SlIs Tryz.prog 104 9 1 16 (.string ByteArray.empty) := ⟨by kernel_rfl, by kernel_rfl, by kernel_rfl⟩
theorem z28_sl22 : SlIs Tryz.prog 22 111 4 32 (.agg #[.int .i64 0, .int .i64 0, .int .i64 0, .bool false]) := ⟨by kernel_rfl, by kernel_rfl, by kernel_rfl⟩
theorem z28_ty111 : TyIs Tryz.prog 111 true 4 := ⟨by kernel_rfl, by kernel_rfl⟩
theorem z28_ty22 : TyIs Tryz.prog 22 false 1 := ⟨by kernel_rfl, by kernel_rfl⟩
theorem z28_ty24 : TyIs Tryz.prog 24 true 2 := ⟨by kernel_rfl, by kernel_rfl⟩
theorem z28_ty3 : TyIs Tryz.prog 3 false 1 := ⟨by kernel_rfl, by kernel_rfl⟩
theorem z28_ty4 : TyIs Tryz.prog 4 false 1 := ⟨by kernel_rfl, by kernel_rfl⟩
theorem z28_ty9 : TyIs Tryz.prog 9 false 1 := ⟨by kernel_rfl, by kernel_rfl⟩
def pcT (p : Piece) : List UInt8 := wPiece ++ [32] ++ itoa p.len ++ [32] ++ itoa p.grad ++ [32] ++ itoa p.lim ++ (if p.leave then [32] ++ wLeave else [])
def hdT (nm : List UInt8) : List UInt8 := wTrack ++ [32] ++ nm
def trT (nm : List UInt8) (ps : List Piece) : List UInt8 := (hdT nm ++ [10]) ++ (ps.map fun p => pcT p ++ [10]).flatten
theorem chk_zero {nm : ByteArray} {ps : List Piece} (h : (chk nm ps).2 = 0) : isNameB nm = true ∧ 0 < ps.length ∧ ps.length ≤ 12 ∧ ∀ p ∈ ps, pieceB p = true := by
 unfold chk at h
 split at h
 ·rename_i h2; exact absurd h h2
 ·rename_i h2
  have h3 : err0 nm ps = 0 := by simpa using h2
  unfold err0 at h3
  obtain ⟨a1, a2⟩ := firstE_cons h3
  obtain ⟨a3, a4⟩ := firstE_cons a2
  have b1 := unlessE_zero a1 (by decide)
  have b2 := unlessE_zero a3 (by decide)
  have b3 := unlessE_zero (firstE_cons a4).1 (by decide)
  simp only [decide_eq_true_eq] at b2 b3
  refine ⟨b1, by omega, by omega, fun p hp => ?_⟩
  split at h
  ·cases h
  ·rename_i h4
   rw [List.findIdx?_eq_none_iff] at h4
   have := h4 p hp
   simpa using this
theorem pieceB_bd {p : Piece} (h : pieceB p = true) : (1 ≤ p.len ∧ p.len ≤ 10000000) ∧ (-100 ≤ p.grad ∧ p.grad ≤ 100) ∧ 0 ≤ p.lim ∧ p.lim ≤ 20000000000 := by
 unfold pieceB withinB at h
 simp only [Bool.and_eq_true, decide_eq_true_eq] at h
 omega
theorem pcT_len {p : Piece} (h : pieceB p = true) : (pcT p).length ≤ 100 := by
 obtain ⟨h1, h2, h3⟩ := pieceB_bd h
 have a1 := itoa_len (n := p.len) (by unfold In64; omega)
 have a2 := itoa_len (n := p.grad) (by unfold In64; omega)
 have a3 := itoa_len (n := p.lim) (by unfold In64; omega)
 have a4 : wPiece.length = 5 := rfl
 have a5 : wLeave.length = 5 := rfl
 unfold pcT
 split <;> simp only [List.length_append, List.length_cons, List.length_nil] <;> omega
def trK (nm : List UInt8) (ps : List Piece) (k : Nat) : List UInt8 := (hdT nm ++ [10]) ++ ((ps.take k).map fun p => pcT p ++ [10]).flatten
theorem trK_step {nm : List UInt8} {ps : List Piece} {k : Nat} {p : Piece} (h : ps[k]? = some p) : trK nm ps (k + 1) = trK nm ps k ++ (pcT p ++ [10]) := by
 unfold trK
 rw [List.take_add_one, h]
 simp
theorem trK_pos (nm : List UInt8) (ps : List Piece) (k : Nat) : 0 < (trK nm ps k).length := by unfold trK hdT; simp [wTrack]
theorem trK_len {nm : List UInt8} {ps : List Piece} {k : Nat} (hn : nm.length ≤ 1000) (h : ∀ p ∈ ps, pieceB p = true) (hk : k ≤ 12) : (trK nm ps k).length ≤ 10000 := by
 have key : ∀ k, (trK nm ps k).length ≤ 1007 + 101 * k := by
  intro k
  induction k with
  | zero => unfold trK hdT; simp [wTrack]; omega
  | succ k ih =>
   cases hq : ps[k]? with
   | none =>
    have : trK nm ps (k + 1) = trK nm ps k := by
     have hl : ps.length ≤ k := by simpa using hq
     unfold trK; rw [List.take_of_length_le (by omega), List.take_of_length_le hl]
    rw [this]; omega
   | some p =>
    have := pcT_len (h p (List.mem_of_getElem? hq))
    rw [trK_step hq]
    simp only [List.length_append, List.length_cons, List.length_nil]; omega
 have := key k; omega
theorem trK_all (nm : List UInt8) (ps : List Piece) : trK nm ps ps.length = trT nm ps := by unfold trK trT; rw [List.take_length]
theorem join4 (a b c d : List UInt8) : Go.Lib.join [a, b, c, d] [32] = a ++ [32] ++ b ++ [32] ++ c ++ [32] ++ d := by
 simp [Go.Lib.join, List.intercalate, List.intersperse]
theorem join5 (a b c d e : List UInt8) : Go.Lib.join [a, b, c, d, e] [32] = a ++ [32] ++ b ++ [32] ++ c ++ [32] ++ d ++ ([32] ++ e) := by
 simp [Go.Lib.join, List.intercalate, List.intersperse]
def pcW (p : Piece) : List ByteArray := [bs wPiece, bs (itoa p.len), bs (itoa p.grad), bs (itoa p.lim)]
theorem pcW_join (p : Piece) (h : p.leave = false) : Go.Lib.join ((pcW p).map (·.data.toList)) [32] = pcT p := by
 simp only [pcW, List.map_cons, List.map_nil, bs_list, join4, pcT, h, Bool.false_eq_true, if_false, List.append_nil]
theorem pcW_join2 (p : Piece) (h : p.leave = true) : Go.Lib.join ((pcW p ++ [bs wLeave]).map (·.data.toList)) [32] = pcT p := by
 simp only [pcW, List.cons_append, List.nil_append, List.map_cons, List.map_nil, bs_list, join5, pcT, h, if_true]
theorem byt (a b : List UInt8) : (a.map bE) ++ ((bs b).data.toList.map bE) = (a ++ b).map bE := by rw [bs_list, List.map_append]
section
variable (es er : Value) (hes : isE es) (her : isE er)
set_option maxRecDepth 100000 in
set_option maxHeartbeats 4000000 in
theorem kPrint_ok (nm : List UInt8) (ps : List Piece) (hn : nm.length ≤ 1000) (hp : ps.length ≤ 1000) : FnOkG Tryz.prog (gX es er) 12 [trA (bs nm) ps] (fun q => q = .tuple [.v (.string (if (chk (bs nm) ps).2 = 0 then bs (trT nm ps) else ⟨#[]⟩)), iA (chk (bs nm) ps).2]) := by
 have hz : (bs nm).size = nm.length := rfl
 have hh : (hdT nm).length = nm.length + 6 := by
  have : wTrack.length = 5 := rfl
  unfold hdT; simp only [List.length_append, List.length_cons, List.length_nil]; omega
 have hW0 := writeString_fresh (bs (hdT nm ++ [10])) (by rw [bs_size]; simp only [List.length_append, List.length_cons, List.length_nil]; omega)
 rw [show (bs (hdT nm ++ [10])).data.toList.map bE = (trK nm ps (Int.toNat 0)).map bE by rw [bs_list]; simp [trK]] at hW0
 have w0 : (⟨#[116, 114, 97, 99, 107, 32]⟩ : ByteArray) = bs (wTrack ++ [32]) := rfl
 have w1 : (⟨#[10]⟩ : ByteArray) = bs [10] := rfl
 refine fnOkG_of (fn := Tryz.f12) (gX es er) 51 (by kernel_rfl) rfl (by kernel_rfl) (Nat.le_of_ble_eq_true rfl) ?_
 intro e_0 m_0 hA hm_0
 have s0_0 : evA e_0 (.tmp 0) = _ := hA 0 _ rfl
 have ml_0 : m_0.length = 1 := by rw [hm_0]; rfl
 have mo0_0 : m_0[0]? = some (.glob (gX es er)) := by rw [hm_0]; rfl
 clear hA hm_0
 refine aw_seq <| at_ <| al_stm (st_box s0_0 rfl ml_0) trivial rfl (fun m_1 hm_1 => ?_)
 have mo1_1 := m_push hm_1 ml_0
 have mo0_1 := m_push_o hm_1 mo0_0
 have ml_1 := m_push_l hm_1 ml_0
 have ml_1 : _ = 2 := ml_1
 clear hm_1 mo0_0
 refine ar (ro_assign ev_c) rfl <| ar (ro_assign ev_c) rfl <| ae1 (u2 rfl up_h) ?_; clear s0_0; intro e_2 s1_2
 refine then_n <| aw_seq <| aw_seq <| at_ <| ar (ro_eq (ro_ld_ptr z28_ty24 rfl mo1_1 s1_2 (nle rfl)) (by simp only [pS, Value.cells, Nat.reduceAdd, bs_app, w0, w1, byt] <;> rfl)) rfl ?_
 refine ar (ro_call (evL_cons up_h evL_nil) rfl (open_ok (bs nm) ps (by omega) (by omega)) qhcf49) rfl ?_
 refine ar (ro_move up_h) rfl <| ar (ro_extract up_h rfl) rfl <| ar (ro_extract (up_m rfl up_h) rfl) rfl <| al_stm (st_alloc qaz115 rfl ml_1) trivial rfl (fun m_3 hm_3 => ?_)
 have mo2_3 := m_push hm_3 ml_1
 simp only [pS, Value.cells, Nat.reduceAdd, bs_app, w0, w1, byt] at mo2_3
 have mo1_3 := m_push_o hm_3 mo1_1
 have mo0_3 := m_push_o hm_3 mo0_1
 have ml_3 := m_push_l hm_3 ml_1
 have ml_3 : _ = 3 := ml_3
 clear hm_3 mo1_1 mo0_1
 refine al_stm (st_store up_h (u2 rfl up_h) rfl rfl mo2_3 qsz115 rfl (nle rfl)) trivial rfl (fun m_4 hm_4 => ?_)
 have mo2_4 := m_set hm_4 mo2_3
 simp only [pS, Value.cells, Nat.reduceAdd, bs_app, w0, w1, byt] at mo2_4
 have mo1_4 := m_set_o hm_4 mo1_3 (by decide)
 have mo0_4 := m_set_o hm_4 mo0_3 (by decide)
 have ml_4 := m_set_l hm_4 ml_3
 clear hm_4 mo2_3 mo1_3 mo0_3
 refine ar (ro_assign (up_n (up_m rfl up_h))) rfl <| ae2 (up_m rfl (up_n (u2 rfl (u4 rfl s1_2)))) up_h ?_; clear s1_2; intro e_5 s1_5 s5_5
 refine then_n <| aw_seq <| at_ <| ar (ro_move s5_5) rfl <| ar (ro_neq up_h ev_c) rfl <| ae3 (u2 rfl s1_5) (u2 rfl s5_5) up_h ?_; clear s1_5 s5_5; intro e_6 s1_6 s5_6 s16_6
 refine then_n <| aw_case s16_6 (fun hq_7 => ?_) (fun hq_7 => ?_)
 ·replace hq_7 := bnt hq_7
  refine aw_seq <| at_ <| ar (ro_move s5_6) rfl <| ar (ro_assign ev_c) rfl <| ar (ro_assign (up_m rfl up_h)) rfl <| ae2 (up_m rfl up_h) up_h ?_; clear s16_6 s1_6 s5_6; intro e_8 s2_8 s3_8
  refine then_n <| aw_ret <| then_r <| ret2 (.inr rfl) (by kernel_rfl) (resV_tmp s2_8) (resV_tmp s3_8) (.ro _ rfl) (.ro _ rfl) ?_
  clear s2_8 s3_8 mo2_4 mo1_4 mo0_4 ml_4
  first | rfl | (simp; done) | (simp_all; done) | omega
 replace hq_7 := bnf hq_7
 (have hz0 := chk_zero hq_7; have hc0 := hq_7)
 refine aw_skip <| then_n <| aw_seq <| at_ <| al_stm (st_alloc z28_az121 rfl ml_4) trivial rfl (fun m_9 hm_9 => ?_)
 have mo3_9 := m_push hm_9 ml_4
 simp only [pS, Value.cells, Nat.reduceAdd, bs_app, w0, w1, byt] at mo3_9
 have mo2_9 := m_push_o hm_9 mo2_4
 have mo1_9 := m_push_o hm_9 mo1_4
 have mo0_9 := m_push_o hm_9 mo0_4
 have ml_9 := m_push_l hm_9 ml_4
 have ml_9 : _ = 4 := ml_9
 clear hm_9 mo2_4 mo1_4 mo0_4
 refine ae2 (up_m rfl s1_6) up_h ?_; clear s16_6 s1_6 s5_6; intro e_10 s1_10 s6_10
 refine then_n <| aw_seq <| at_ <| ar (ro_fld_ptr qfl24_0 rfl s1_10) rfl <| ar (ro_eq (ro_ld_ptr z28_ty9 rfl mo1_9 up_h (nle rfl)) (by simp only [pS, Value.cells, Nat.reduceAdd, bs_app, w0, w1, byt] <;> rfl)) rfl ?_
 (refine ar (ro_sadd ev_c up_h ?_) rfl ?_; · (first | ((first | unfold In64 | unfold InU64 | unfold InU8); omega) | (simp only [ByteArray.size_append, size_mk, List.length_cons, List.length_nil] <;> omega) | omega))
 (refine ar (ro_sadd up_h ev_c ?_) rfl ?_; · (first | ((first | unfold In64 | unfold InU64 | unfold InU8); omega) | (simp only [ByteArray.size_append, size_mk, List.length_cons, List.length_nil] <;> omega) | omega))
 refine al_stm (st_muE (st_mu' (hW0) [3] ml_9 (evL_cons (u4 rfl s6_10) (evL_cons up_h evL_nil)) (by first | exact .nil | exact .refl mo0_9 | exact .at_ mo0_9 (by simp [*])) (by decide) (.ob mo3_9 .nil) rfl z28_hcf50) (rn_ro rfl)) trivial rfl (fun m_11 hm_11 => ?_)
 have mo3_11 : m_11[3]? = some _ := m_ups_t hm_11 (Nat.le_of_ble_eq_true rfl) (by decide) (lt_cons mo3_9 lt_nil) 0 rfl rfl
 (try simp only [Ob.rn, rn, rn.rnL, rho, List.length_cons, List.length_nil, List.getElem?_cons_zero, List.getElem?_cons_succ, List.getElem?_nil, Nat.reduceAdd, Nat.reduceSub, Nat.add_zero, Nat.sub_self, bs_app, w0, w1, byt] at mo3_11)
 have mo2_11 := m_ups_o hm_11 (Nat.le_of_ble_eq_true rfl) mo2_9 (by decide)
 have mo1_11 := m_ups_o hm_11 (Nat.le_of_ble_eq_true rfl) mo1_9 (by decide)
 have mo0_11 := m_ups_o hm_11 (Nat.le_of_ble_eq_true rfl) mo0_9 (by decide)
 have mo4_11 : m_11[4]? = some _ := m_ups_n hm_11 (Nat.le_of_ble_eq_true rfl) ml_9 0 rfl
 (try simp only [Ob.rn, rn, rn.rnL, rho, List.length_cons, List.length_nil, List.getElem?_cons_zero, List.getElem?_cons_succ, List.getElem?_nil, Nat.reduceAdd, Nat.reduceSub, Nat.add_zero, Nat.sub_self, bs_app, w0, w1, byt] at mo4_11)
 have ml_11 : _ = 5 := m_ups_l hm_11 ml_9 1 rfl
 clear hm_11 mo3_9 mo2_9 mo1_9 mo0_9 ml_9
 refine ae2 (up_m rfl (u4 rfl s1_10)) (up_m rfl (u4 rfl s6_10)) ?_; clear s1_10 s6_10; intro e_12 s1_12 s6_12
 refine then_n <| aw_seq <| aw_seq <| at_ <| ar (ro_fld_ptr qfl24_1 rfl s1_12) rfl <| ar (ro_eq (ro_ld_ptr z28_ty22 rfl mo1_11 up_h (nle rfl)) (by simp only [pS, Value.cells, Nat.reduceAdd, bs_app, w0, w1, byt] <;> rfl)) rfl ?_
 refine ar (ro_eq (ro_len_row up_h rfl z28_sl22.1) (by simp only [lnS] <;> rfl)) rfl ?_
 refine ar (ro_move ev_c) rfl <| ae4 (u4 rfl s6_12) (u2 rfl up_h) (up_m rfl up_h) up_h ?_; clear s1_12 s6_12; intro e_13 s6_13 s24_13 s25_13 s26_13
 refine then_n <| aw_block <| aw_loop (S := (Int × Nat)) (fun s e mem => match s with | ⟨i, jr⟩ => (evA e (.tmp 26) = .v (.int .i64 i)) ∧ (evA e (.tmp 6) = evA e_13 (.tmp 6)) ∧ (evA e (.tmp 24) = evA e_13 (.tmp 24)) ∧ (evA e (.tmp 25) = evA e_13 (.tmp 25)) ∧ (mem[3]? = some (.box 121 [.ptr 3 0, .own jr])) ∧ (mem[jr]? = some (.row 5 1 ((trK nm ps i.toNat).map bE))) ∧ (mem[2]? = m_11[2]?) ∧ (mem[1]? = m_11[1]?) ∧ (mem[0]? = m_11[0]?) ∧ (∃ n, mem.length = n ∧ 5 ≤ n) ∧ ((0 ≤ i ∧ i ≤ ps.length ∧ 4 ≤ jr))) (fun s => match s with | ⟨i, jr⟩ => (ps.length - i).toNat) ⟨0, 4⟩ ⟨s26_13, rfl, rfl, rfl, mo3_11, mo4_11, rfl, rfl, rfl, ⟨_, ml_11, Nat.le_refl _⟩, ?_⟩ ?_
 ·exact ⟨by omega, by omega, by omega⟩
 ·rintro ⟨i, jr⟩ e_14 m_14 ⟨s26_14, k6_14, k24_14, k25_14, mo3_14, mojr_14, mk2_14, mk1_14, mk0_14, ⟨n_14, ml_14, hn_14⟩, hinv⟩
  have s6_14 := k6_14.trans s6_13
  have s24_14 := k24_14.trans s24_13
  have s25_14 := k25_14.trans s25_13
  have mo2_14 := mk2_14.trans mo2_11
  have mo1_14 := mk1_14.trans mo1_11
  have mo0_14 := mk0_14.trans mo0_11
  have jljr_14 := m_lt mojr_14 ml_14
  (obtain ⟨p1, p2, p3⟩ := hinv; have hK0 := trK_pos nm ps i.toNat; have hK1 := trK_len hn hz0.2.2.2 (k := i.toNat) (by have := hz0.2.2.1; omega))
  refine aw_seq <| at_ <| ar (ro_lss s26_14 s25_14) rfl <| ae5 (up_m rfl s6_14) (up_m rfl s24_14) (up_m rfl s25_14) (up_m rfl s26_14) up_h ?_; clear s24_14 s25_14 s26_14 s6_14; intro e_15 s6_15 s24_15 s25_15 s26_15 s27_15
  refine then_n <| aw_seq <| aw_case s27_15 (fun hq_16 => ?_) (fun hq_16 => ?_)
  ·replace hq_16 := bt hq_16
   (obtain ⟨-, -, z1, z2⟩ := hz0; have hmem : ps[i.toNat]? = some (ps.getD i.toNat default) := (by rw [List.getElem?_eq_getElem (show i.toNat < ps.length by omega), List.getD_eq_getElem?_getD, List.getElem?_eq_getElem (show i.toNat < ps.length by omega)]; rfl); have hpb := z2 _ (List.mem_of_getElem? hmem); obtain ⟨c1, c2, c3⟩ := pieceB_bd hpb; have b1 : In64 (ps.getD i.toNat default).len := (by unfold In64; omega); have b2 : In64 (ps.getD i.toNat default).grad := (by unfold In64; omega); have b3 : In64 (ps.getD i.toNat default).lim := (by unfold In64; omega); have hpl := pcT_len hpb; have hstep := trK_step (nm := nm) hmem; rw [← show (i + 1).toNat = i.toNat + 1 by omega] at hstep; have hz1 : (bs (pcT (ps.getD i.toNat default))).size = (pcT (ps.getD i.toNat default)).length := rfl; have hz2 : (⟨#[10]⟩ : ByteArray).size = 1 := rfl; have hW := writeString_used (bs (pcT (ps.getD i.toNat default) ++ [10])) ((trK nm ps i.toNat).map bE) (by rw [bs_size]; simp only [List.length_append, List.length_cons, List.length_nil]; omega) (by rw [List.length_map]; omega); rw [byt, ← hstep] at hW)
   refine aw_skip <| then_n <| aw_seq <| aw_block <| aw_seq <| at_ <| ar (ro_eq (ro_ix z28_sl22 s24_15 s26_15 (by omega) (by first | (refine idx_map ?_; first | omega | (simp only [lnS]; omega)) | (refine idx_mapI ?_; first | omega | (simp only [lnS]; omega)) | (refine idx_mapN ?_; first | omega | (simp only [lnS]; omega)) | rfl)) (by rfl)) rfl ?_
   refine ar (ro_eq (ro_ld_ref z28_ty111 rfl up_h (nle rfl)) (by simp only [pS, Value.cells, Nat.reduceAdd, bs_app, w0, w1, byt] <;> rfl)) rfl ?_
   refine al_stm (st_alloc qaz111 rfl ml_14) trivial rfl (fun m_17 hm_17 => ?_)
   have mon_14_17 := m_push hm_17 ml_14
   simp only [pS, Value.cells, Nat.reduceAdd, bs_app, w0, w1, byt] at mon_14_17
   have mo3_17 := m_push_o hm_17 mo3_14
   have mojr_17 := m_push_o hm_17 mojr_14
   have mo2_17 := m_push_o hm_17 mo2_14
   have mo1_17 := m_push_o hm_17 mo1_14
   have mo0_17 := m_push_o hm_17 mo0_14
   have ml_17 := m_push_l hm_17 ml_14
   clear hm_17 mo3_14 mojr_14 mo2_14 mo1_14 mo0_14
   refine al_stm (st_store up_h (up_m rfl up_h) rfl rfl mon_14_17 qsz111 rfl (nle rfl)) trivial rfl (fun m_18 hm_18 => ?_)
   have mon_14_18 := m_set hm_18 mon_14_17
   simp only [pS, Value.cells, Nat.reduceAdd, bs_app, w0, w1, byt] at mon_14_18
   have mo3_18 := m_set_o hm_18 mo3_17 (by omega)
   have mojr_18 := m_set_o hm_18 mojr_17 (by omega)
   have mo2_18 := m_set_o hm_18 mo2_17 (by omega)
   have mo1_18 := m_set_o hm_18 mo1_17 (by omega)
   have mo0_18 := m_set_o hm_18 mo0_17 (by omega)
   have ml_18 := m_set_l hm_18 ml_17
   clear hm_18 mon_14_17 mo3_17 mojr_17 mo2_17 mo1_17 mo0_17
   refine ae5 (up_n (up_m rfl (u2 rfl s6_15))) (up_n up_h) (up_n (up_m rfl (u2 rfl s24_15))) (up_n (up_m rfl (u2 rfl s25_15))) (up_n (up_m rfl (u2 rfl s26_15))) ?_; clear s24_15 s25_15 s26_15 s27_15 s6_15; intro e_19 s6_19 s8_19 s24_19 s25_19 s26_19
   refine then_n <| aw_seq <| aw_draw 9 (by kernel_rfl) (by kernel_rfl) (by kernel_rfl) (by kernel_rfl) ?_
   refine dr (ro_fld_ptr qfl111_0 rfl s8_19) rfl <| dr (ro_eq (ro_ld_ptr z28_ty3 rfl mon_14_18 up_h (nle rfl)) (by simp only [pS, Value.cells, Nat.reduceAdd, bs_app, w0, w1, byt] <;> rfl)) rfl ?_
   refine dr (ro_callG (evL_cons up_h evL_nil) rfl mo0_18 (itoa_ok es er (ps.getD i.toNat default).len b1) qhcf51) rfl <| dr (ro_fld_ptr qfl111_1 rfl (up_m rfl (u2 rfl s8_19))) rfl <| dr (ro_eq (ro_ld_ptr z28_ty3 rfl mon_14_18 up_h (nle rfl)) (by simp only [pS, Value.cells, Nat.reduceAdd, bs_app, w0, w1, byt] <;> rfl)) rfl ?_
   refine dr (ro_callG (evL_cons up_h evL_nil) rfl mo0_18 (itoa_ok es er (ps.getD i.toNat default).grad b2) qhcf51) rfl <| dr (ro_fld_ptr qfl111_2 rfl (u2 rfl (u4 rfl s8_19))) rfl <| dr (ro_eq (ro_ld_ptr z28_ty3 rfl mon_14_18 up_h (nle rfl)) (by simp only [pS, Value.cells, Nat.reduceAdd, bs_app, w0, w1, byt] <;> rfl)) rfl ?_
   refine dr (ro_callG (evL_cons up_h evL_nil) rfl mo0_18 (itoa_ok es er (ps.getD i.toNat default).lim b3) qhcf51) rfl <| ds_nil <| al_stm (st_lit z28_sl104 ml_18 (evP_cons ev_c (evP_cons (u2 rfl (u4 rfl up_h)) (evP_cons (up_m rfl (u2 rfl up_h)) (evP_cons up_h evP_nil)))) rfl rfl rfl rfl) trivial rfl (fun m_20 hm_20 => ?_)
   have mon_14_1_20 := m_push hm_20 ml_18
   have mon_14_20 := m_push_o hm_20 mon_14_18
   have mo3_20 := m_push_o hm_20 mo3_18
   have mojr_20 := m_push_o hm_20 mojr_18
   have mo2_20 := m_push_o hm_20 mo2_18
   have mo1_20 := m_push_o hm_20 mo1_18
   have mo0_20 := m_push_o hm_20 mo0_18
   have ml_20 := m_push_l hm_20 ml_18
   clear hm_20 mon_14_18 mo3_18 mojr_18 mo2_18 mo1_18 mo0_18
   refine ar (ro_assign up_h) rfl <| ae6 (up_m rfl (u2 rfl (u8 rfl s6_19))) (up_m rfl (u2 rfl (u8 rfl s8_19))) up_h (up_m rfl (u2 rfl (u8 rfl s24_19))) (up_m rfl (u2 rfl (u8 rfl s25_19))) (up_m rfl (u2 rfl (u8 rfl s26_19))) ?_; clear s24_19 s25_19 s26_19 s6_19 s8_19; intro e_21 s6_21 s8_21 s9_21 s24_21 s25_21 s26_21
   refine then_n <| aw_seq <| aw_seq <| at_ <| ar (ro_fld_ptr qfl111_3 rfl s8_21) rfl <| ar (ro_eq (ro_ld_ptr z28_ty4 rfl mon_14_20 up_h (nle rfl)) (by simp only [pS, Value.cells, Nat.reduceAdd, bs_app, w0, w1, byt] <;> rfl)) rfl ?_
   refine ae6 (u2 rfl s6_21) (u2 rfl s9_21) (u2 rfl s24_21) (u2 rfl s25_21) (u2 rfl s26_21) up_h ?_; clear s24_21 s25_21 s26_21 s6_21 s8_21 s9_21; intro e_22 s6_22 s9_22 s24_22 s25_22 s26_22 s41_22
   refine then_n <| aw_case s41_22 (fun hq_23 => ?_) (fun hq_23 => ?_)
   ·skip
    (have hJ := join_ok (pcW (ps.getD i.toNat default) ++ [bs wLeave]) (bs [32]) (by simp [pcW]) (by simp [pcW]) (by rw [bs_list, pcW_join2 _ hq_23]; omega); rw [bs_list, pcW_join2 _ hq_23] at hJ)
    refine at_ <| ar (ro_move s9_22) rfl <| ar (ro_lit z28_sl104 (evP_cons ev_c evP_nil) rfl rfl rfl rfl) rfl <| al_stm (st_app z28_sl104 rfl ml_20 mon_14_1_20 (up_m rfl up_h) up_h (by rfl) (by simp only [lnS] <;> omega)) trivial rfl (fun m_24 hm_24 => ?_)
    have mon_14_1_1_24 := m_swap hm_24 ml_20
    simp only [pS, Value.cells, Nat.reduceAdd, bs_app, w0, w1, byt] at mon_14_1_1_24
    have mon_14_24 := m_swap_o hm_24 mon_14_20 (by omega)
    have mo3_24 := m_swap_o hm_24 mo3_20 (by omega)
    have mojr_24 := m_swap_o hm_24 mojr_20 (by omega)
    have mo2_24 := m_swap_o hm_24 mo2_20 (by omega)
    have mo1_24 := m_swap_o hm_24 mo1_20 (by omega)
    have mo0_24 := m_swap_o hm_24 mo0_20 (by omega)
    have ml_24 := m_swap_l hm_24 ml_20
    clear hm_24 mon_14_1_20 mon_14_20 mo3_20 mojr_20 mo2_20 mo1_20 mo0_20
    refine ar (ro_assign up_h) rfl <| ae5 (u4 rfl s6_22) up_h (u4 rfl s24_22) (u4 rfl s25_22) (u4 rfl s26_22) ?_; clear s24_22 s25_22 s26_22 s41_22 s6_22 s9_22; intro e_25 s6_25 s9_25 s24_25 s25_25 s26_25
    refine then_n <| aw_freezeR s9_25 mon_14_1_1_24 (fun m_26 e_26 hm_26 he_26 => ?_)
    have mon_14_26 := m_set_o hm_26 mon_14_24 (by omega)
    have mo3_26 := m_set_o hm_26 mo3_24 (by omega)
    have mojr_26 := m_set_o hm_26 mojr_24 (by omega)
    have mo2_26 := m_set_o hm_26 mo2_24 (by omega)
    have mo1_26 := m_set_o hm_26 mo1_24 (by omega)
    have mo0_26 := m_set_o hm_26 mo0_24 (by omega)
    have ml_26 := m_set_l hm_26 ml_24
    have s6_26 : evA e_26 (.tmp 6) = _ := (congrArg (fun q => evA q (.tmp 6)) he_26).trans (up_m rfl s6_25)
    have s9_26 : evA e_26 (.tmp 9) = _ := (congrArg (fun q => evA q (.tmp 9)) he_26).trans up_h
    have s24_26 : evA e_26 (.tmp 24) = _ := (congrArg (fun q => evA q (.tmp 24)) he_26).trans (up_m rfl s24_25)
    have s25_26 : evA e_26 (.tmp 25) = _ := (congrArg (fun q => evA q (.tmp 25)) he_26).trans (up_m rfl s25_25)
    have s26_26 : evA e_26 (.tmp 26) = _ := (congrArg (fun q => evA q (.tmp 26)) he_26).trans (up_m rfl s26_25)
    clear hm_26 he_26
    refine at_ <| ar (ro_move s9_26) rfl <| ar (ro_call (evL_cons up_h (evL_cons ev_c evL_nil)) rfl (hJ) z28_hcf52) rfl ?_
    (refine ar (ro_sadd up_h ev_c ?_) rfl ?_; · (first | ((first | unfold In64 | unfold InU64 | unfold InU8); omega) | (simp only [ByteArray.size_append, size_mk, List.length_cons, List.length_nil] <;> omega) | omega))
    refine al_stm (st_muE (st_mu' (hW) [3, jr] ml_26 (evL_cons (up_m rfl (u2 rfl s6_26)) (evL_cons up_h evL_nil)) (by first | exact .nil | exact .refl mo0_26 | exact .at_ mo0_26 (by simp [*])) (by simp <;> omega) (.ob mo3_26 (.ob mojr_26 .nil)) rfl z28_hcf50) (rn_ro rfl)) trivial rfl (fun m_27 hm_27 => ?_)
    have mo3_27 : m_27[3]? = some _ := m_ups_t hm_27 (Nat.le_of_ble_eq_true rfl) (by simp <;> omega) (lt_cons mo3_26 (lt_cons mojr_26 lt_nil)) 0 rfl rfl
    (try simp only [Ob.rn, rn, rn.rnL, rho, List.length_cons, List.length_nil, List.getElem?_cons_zero, List.getElem?_cons_succ, List.getElem?_nil, Nat.reduceAdd, Nat.reduceSub, Nat.add_zero, Nat.sub_self, bs_app, w0, w1, byt] at mo3_27)
    have mon_14_27 := m_ups_o hm_27 (Nat.le_of_ble_eq_true rfl) mon_14_26 (by simp <;> omega)
    have mo2_27 := m_ups_o hm_27 (Nat.le_of_ble_eq_true rfl) mo2_26 (by simp <;> omega)
    have mo1_27 := m_ups_o hm_27 (Nat.le_of_ble_eq_true rfl) mo1_26 (by simp <;> omega)
    have mo0_27 := m_ups_o hm_27 (Nat.le_of_ble_eq_true rfl) mo0_26 (by simp <;> omega)
    have mon_14_1_1_1_27 : m_27[n_14 + 1 + 1 + 1]? = some _ := m_ups_n hm_27 (Nat.le_of_ble_eq_true rfl) ml_26 0 rfl
    (try simp only [Ob.rn, rn, rn.rnL, rho, List.length_cons, List.length_nil, List.getElem?_cons_zero, List.getElem?_cons_succ, List.getElem?_nil, Nat.reduceAdd, Nat.reduceSub, Nat.add_zero, Nat.sub_self, bs_app, w0, w1, byt] at mon_14_1_1_1_27)
    have ml_27 : _ = n_14 + 1 + 1 + 1 + 1 := m_ups_l hm_27 ml_26 1 rfl
    clear hm_27 mon_14_26 mo3_26 mojr_26 mo2_26 mo1_26 mo0_26 ml_26
    refine ae4 (u4 rfl s6_26) (u4 rfl s24_26) (u4 rfl s25_26) (u4 rfl s26_26) ?_; clear s24_26 s25_26 s26_26 s6_26 s9_26; intro e_28 s6_28 s24_28 s25_28 s26_28
    refine block_n <| then_n <| at_ ?_
    (refine ar (ro_add' s26_28 ev_c ?_) rfl ?_; · (first | ((first | unfold In64 | unfold InU64 | unfold InU8); omega) | (simp only [ByteArray.size_append, size_mk, List.length_cons, List.length_nil] <;> omega) | omega))
    refine ar (ro_move up_h) rfl <| ae4 (u2 rfl s6_28) (u2 rfl s24_28) (u2 rfl s25_28) up_h ?_; clear s24_28 s25_28 s26_28 s6_28; intro e_29 s6_29 s24_29 s25_29 s26_29
    refine then_n <| ⟨⟨_, _⟩, ⟨s26_29, (s6_29.trans s6_13.symm), (s24_29.trans s24_13.symm), (s25_29.trans s25_13.symm), mo3_27, mon_14_1_1_1_27, (mo2_27.trans mo2_11.symm), (mo1_27.trans mo1_11.symm), (mo0_27.trans mo0_11.symm), ⟨_, ml_27, by omega⟩, ?_⟩, ?_⟩
    ·exact ⟨by omega, by omega, by omega⟩
    ·((try dsimp only); omega)
   (have hJ := join_ok (pcW (ps.getD i.toNat default)) (bs [32]) (by simp [pcW]) (by simp [pcW]) (by rw [bs_list, pcW_join _ hq_23]; omega); rw [bs_list, pcW_join _ hq_23] at hJ)
   refine aw_skip <| then_n <| aw_freezeR s9_22 mon_14_1_20 (fun m_30 e_30 hm_30 he_30 => ?_)
   have mon_14_30 := m_set_o hm_30 mon_14_20 (by omega)
   have mo3_30 := m_set_o hm_30 mo3_20 (by omega)
   have mojr_30 := m_set_o hm_30 mojr_20 (by omega)
   have mo2_30 := m_set_o hm_30 mo2_20 (by omega)
   have mo1_30 := m_set_o hm_30 mo1_20 (by omega)
   have mo0_30 := m_set_o hm_30 mo0_20 (by omega)
   have ml_30 := m_set_l hm_30 ml_20
   have s6_30 : evA e_30 (.tmp 6) = _ := (congrArg (fun q => evA q (.tmp 6)) he_30).trans (up_m rfl s6_22)
   have s9_30 : evA e_30 (.tmp 9) = _ := (congrArg (fun q => evA q (.tmp 9)) he_30).trans up_h
   have s24_30 : evA e_30 (.tmp 24) = _ := (congrArg (fun q => evA q (.tmp 24)) he_30).trans (up_m rfl s24_22)
   have s25_30 : evA e_30 (.tmp 25) = _ := (congrArg (fun q => evA q (.tmp 25)) he_30).trans (up_m rfl s25_22)
   have s26_30 : evA e_30 (.tmp 26) = _ := (congrArg (fun q => evA q (.tmp 26)) he_30).trans (up_m rfl s26_22)
   have s41_30 : evA e_30 (.tmp 41) = _ := (congrArg (fun q => evA q (.tmp 41)) he_30).trans (up_m rfl s41_22)
   clear hm_30 he_30
   refine at_ <| ar (ro_move s9_30) rfl <| ar (ro_call (evL_cons up_h (evL_cons ev_c evL_nil)) rfl (hJ) z28_hcf52) rfl ?_
   (refine ar (ro_sadd up_h ev_c ?_) rfl ?_; · (first | ((first | unfold In64 | unfold InU64 | unfold InU8); omega) | (simp only [ByteArray.size_append, size_mk, List.length_cons, List.length_nil] <;> omega) | omega))
   refine al_stm (st_muE (st_mu' (hW) [3, jr] ml_30 (evL_cons (up_m rfl (u2 rfl s6_30)) (evL_cons up_h evL_nil)) (by first | exact .nil | exact .refl mo0_30 | exact .at_ mo0_30 (by simp [*])) (by simp <;> omega) (.ob mo3_30 (.ob mojr_30 .nil)) rfl z28_hcf50) (rn_ro rfl)) trivial rfl (fun m_31 hm_31 => ?_)
   have mo3_31 : m_31[3]? = some _ := m_ups_t hm_31 (Nat.le_of_ble_eq_true rfl) (by simp <;> omega) (lt_cons mo3_30 (lt_cons mojr_30 lt_nil)) 0 rfl rfl
   (try simp only [Ob.rn, rn, rn.rnL, rho, List.length_cons, List.length_nil, List.getElem?_cons_zero, List.getElem?_cons_succ, List.getElem?_nil, Nat.reduceAdd, Nat.reduceSub, Nat.add_zero, Nat.sub_self, bs_app, w0, w1, byt] at mo3_31)
   have mon_14_31 := m_ups_o hm_31 (Nat.le_of_ble_eq_true rfl) mon_14_30 (by simp <;> omega)
   have mo2_31 := m_ups_o hm_31 (Nat.le_of_ble_eq_true rfl) mo2_30 (by simp <;> omega)
   have mo1_31 := m_ups_o hm_31 (Nat.le_of_ble_eq_true rfl) mo1_30 (by simp <;> omega)
   have mo0_31 := m_ups_o hm_31 (Nat.le_of_ble_eq_true rfl) mo0_30 (by simp <;> omega)
   have mon_14_1_1_31 : m_31[n_14 + 1 + 1]? = some _ := m_ups_n hm_31 (Nat.le_of_ble_eq_true rfl) ml_30 0 rfl
   (try simp only [Ob.rn, rn, rn.rnL, rho, List.length_cons, List.length_nil, List.getElem?_cons_zero, List.getElem?_cons_succ, List.getElem?_nil, Nat.reduceAdd, Nat.reduceSub, Nat.add_zero, Nat.sub_self, bs_app, w0, w1, byt] at mon_14_1_1_31)
   have ml_31 : _ = n_14 + 1 + 1 + 1 := m_ups_l hm_31 ml_30 1 rfl
   clear hm_31 mon_14_30 mo3_30 mojr_30 mo2_30 mo1_30 mo0_30 ml_30
   refine ae4 (u4 rfl s6_30) (u4 rfl s24_30) (u4 rfl s25_30) (u4 rfl s26_30) ?_; clear s24_30 s25_30 s26_30 s41_30 s6_30 s9_30; intro e_32 s6_32 s24_32 s25_32 s26_32
   refine block_n <| then_n <| at_ ?_
   (refine ar (ro_add' s26_32 ev_c ?_) rfl ?_; · (first | ((first | unfold In64 | unfold InU64 | unfold InU8); omega) | (simp only [ByteArray.size_append, size_mk, List.length_cons, List.length_nil] <;> omega) | omega))
   refine ar (ro_move up_h) rfl <| ae4 (u2 rfl s6_32) (u2 rfl s24_32) (u2 rfl s25_32) up_h ?_; clear s24_32 s25_32 s26_32 s6_32; intro e_33 s6_33 s24_33 s25_33 s26_33
   refine then_n <| ⟨⟨_, _⟩, ⟨s26_33, (s6_33.trans s6_13.symm), (s24_33.trans s24_13.symm), (s25_33.trans s25_13.symm), mo3_31, mon_14_1_1_31, (mo2_31.trans mo2_11.symm), (mo1_31.trans mo1_11.symm), (mo0_31.trans mo0_11.symm), ⟨_, ml_31, by omega⟩, ?_⟩, ?_⟩
   ·exact ⟨by omega, by omega, by omega⟩
   ·((try dsimp only); omega)
  replace hq_16 := bf hq_16
  have hend : trK nm ps i.toNat = trT nm ps := (by rw [← trK_all]; congr 1; omega)
  refine aw_exit <| then_x <| then_x <| block_hit <| then_n <| aw_seq <| at_ <| al_stm (st_muE (st_mu' (string_ok (trK nm ps i.toNat) hK0 (by omega)) [3, jr] ml_14 (evL_cons s6_15 evL_nil) (by first | exact .nil | exact .refl mo0_14 | exact .at_ mo0_14 (by simp [*])) (by simp <;> omega) (.ob mo3_14 (.ob mojr_14 .nil)) rfl z28_hcf53) (rn_ro rfl)) trivial rfl (fun m_34 hm_34 => ?_)
  have mo3_34 : m_34[3]? = some _ := m_ups_t hm_34 (Nat.le_of_ble_eq_true rfl) (by simp <;> omega) (lt_cons mo3_14 (lt_cons mojr_14 lt_nil)) 0 rfl rfl
  (try simp only [Ob.rn, rn, rn.rnL, rho, List.length_cons, List.length_nil, List.getElem?_cons_zero, List.getElem?_cons_succ, List.getElem?_nil, Nat.reduceAdd, Nat.reduceSub, Nat.add_zero, Nat.sub_self, bs_app, w0, w1, byt] at mo3_34)
  have mo2_34 := m_ups_o hm_34 (Nat.le_of_ble_eq_true rfl) mo2_14 (by simp <;> omega)
  have mo1_34 := m_ups_o hm_34 (Nat.le_of_ble_eq_true rfl) mo1_14 (by simp <;> omega)
  have mo0_34 := m_ups_o hm_34 (Nat.le_of_ble_eq_true rfl) mo0_14 (by simp <;> omega)
  have ml_34 : _ = n_14 := m_ups_l hm_34 ml_14 0 rfl
  clear hm_34 mo3_14 mojr_14 mo2_14 mo1_14 mo0_14 ml_14
  refine ar (ro_assign up_h) rfl <| ar (ro_assign ev_c) rfl <| ae2 (up_m rfl up_h) up_h ?_; clear s24_15 s25_15 s26_15 s27_15 s6_15; intro e_35 s2_35 s3_35
  refine then_n <| aw_ret <| ret2 (.inr rfl) (by kernel_rfl) (resV_tmp s2_35) (resV_tmp s3_35) (.ro _ rfl) (.ro _ rfl) ?_
  clear s2_35 s3_35 mo3_34 mo2_34 mo1_34 mo0_34 ml_34
  (rw [if_pos hc0, hc0, hend])
end
end Go.Proofs.YtjhcfpdgldpicaaGreatDoor
namespace Go.Proofs.YtjhcfpdgldpicaaGreatDoor
open Go Go.RowKit Go.Proofs Go.Shelf Go.Lib
theorem z29_bz198 : (Tryz.prog.info? 198).bind (·.zero) = some (.agg #[.string ByteArray.empty, .int .i64 0]) := by kernel_rfl
theorem z29_bu198 : Tryz.prog.underlying 198 = some (.struct (fsOf Tryz.prog 198)) := by kernel_rfl
theorem z29_bp198 : ∀ w, ((fsOf Tryz.prog 198).mapM fun f => Prod.mk f.offset <$> sizeOf f.type : Sem (Array (Nat × Nat))).run Tryz.prog w = .ok (#[(0, 1), (1, 1)]) w := fun _ => by kernel_rfl
theorem z29_sl106 : SlIs Tryz.prog 106 198 2 24 (.agg #[.string ByteArray.empty, .int .i64 0]) := ⟨by kernel_rfl, by kernel_rfl, by kernel_rfl⟩
structure Wd where
 t : List UInt8
 c : Int
 deriving Inhabited
def wE (w : Wd) : List AV := [.v (.string (bs w.t)), .v (.int .i64 w.c)]
theorem one_wE (s : List UInt8) (c : Int) : [[AV.v (.string (bs s)), AV.v (.int .i64 c)]] = [(⟨s, c⟩ : Wd)].map wE := rfl
def wdsF (l : List UInt8) : Nat → Nat → List Wd
 | 0, _ => []
 | f + 1, a => if rstW l a = [] then [] else ⟨nxtW l a, posW l a + 1⟩ :: wdsF l f (posW l a + (nxtW l a).length)
def wdsAt (l : List UInt8) (a : Nat) : List Wd := wdsF l (l.length + 1 - a) a
theorem rst_ne {l : List UInt8} {a : Nat} (h : rstW l a ≠ []) : nxtW l a ≠ [] ∧ a ≤ posW l a ∧ posW l a < l.length := by
 have h1 := rstW_len l a
 have h2 := List.length_pos_iff.2 h
 refine ⟨?_, by unfold posW; omega, by unfold posW; omega⟩
 unfold nxtW wrd
 unfold rstW skp at h ⊢
 generalize hq : List.dropWhile blk (List.drop a l) = q at h ⊢
 cases q with
 | nil => exact absurd rfl h
 | cons x q =>
  have : blk x = false := by
   have h3 := List.head?_dropWhile_not blk (List.drop a l)
   rw [hq] at h3
   simpa using h3
  simp [List.takeWhile, nblk, this]
theorem nxt_nil {l : List UInt8} {a : Nat} : nxtW l a = [] ↔ rstW l a = [] := by
 constructor
 ·intro h
  by_cases h0 : rstW l a = []
  ·exact h0
  ·exact absurd h (rst_ne h0).1
 ·intro h; unfold nxtW; rw [h]; rfl
theorem wdsF_more (l : List UInt8) : ∀ (f g a : Nat), l.length + 1 ≤ f + a → l.length + 1 ≤ g + a → a ≤ l.length → wdsF l f a = wdsF l g a := by
 intro f
 induction f with
 | zero => intro g a h1 h2 h3; omega
 | succ f ih =>
  intro g a h1 h2 h3
  cases g with
  | zero => omega
  | succ g =>
   simp only [wdsF]
   split
   ·rfl
   ·rename_i h0
    obtain ⟨a1, a2, a3⟩ := rst_ne h0
    have a4 := posW_le l a
    have a5 := List.length_pos_iff.2 a1
    congr 1
    exact ih g _ (by omega) (by omega) a4
theorem wdsAt_nil {l : List UInt8} {a : Nat} (ha : a ≤ l.length) (h : nxtW l a = []) : wdsAt l a = [] := by
 unfold wdsAt
 rw [show l.length + 1 - a = (l.length - a) + 1 by omega, wdsF, if_pos (nxt_nil.1 h)]
theorem wdsAt_cons {l : List UInt8} {a : Nat} (ha : a ≤ l.length) (h : nxtW l a ≠ []) : wdsAt l a = ⟨nxtW l a, posW l a + 1⟩ :: wdsAt l (posW l a + (nxtW l a).length) := by
 have h0 : rstW l a ≠ [] := fun e => h (nxt_nil.2 e)
 obtain ⟨a1, a2, a3⟩ := rst_ne h0
 have a4 := posW_le l a
 have a5 := List.length_pos_iff.2 a1
 unfold wdsAt
 rw [show l.length + 1 - a = (l.length - a) + 1 by omega, wdsF, if_neg h0]
 congr 1
 exact wdsF_more l _ _ _ (by omega) (by omega) a4
theorem wdsAt_end (l : List UInt8) : wdsAt l l.length = [] := by
 refine wdsAt_nil (Nat.le_refl _) (nxt_nil.2 ?_)
 unfold rstW skp; rw [List.drop_length]; rfl
theorem get_blk {l : List UInt8} {i : Nat} (hi : i < l.length) : l.drop i = l.getD i default :: l.drop (i + 1) := by
 rw [List.drop_eq_getElem_cons hi, List.getD_eq_getElem?_getD, List.getElem?_eq_getElem hi]; rfl
theorem rst_skip {l : List UInt8} {i : Nat} (hi : i < l.length) (hb : blk (l.getD i default) = true) : rstW l (i + 1) = rstW l i := by
 unfold rstW skp
 rw [get_blk hi]
 simp only [List.dropWhile, hb]
theorem wds_skip {l : List UInt8} {i : Nat} (hi : i < l.length) (hb : blk (l.getD i default) = true) : wdsAt l (i + 1) = wdsAt l i := by
 have h1 := rst_skip hi hb
 have h2 : nxtW l (i + 1) = nxtW l i := by unfold nxtW; rw [h1]
 have h3 : posW l (i + 1) = posW l i := by unfold posW; rw [h1]
 by_cases h : nxtW l i = []
 ·rw [wdsAt_nil (by omega) h, wdsAt_nil (by omega) (h2.trans h)]
 ·rw [wdsAt_cons (by omega) h, wdsAt_cons (by omega) (by rw [h2]; exact h), h2, h3]
theorem rst_here {l : List UInt8} {i : Nat} (hi : i < l.length) (hb : blk (l.getD i default) = false) : rstW l i = l.drop i ∧ posW l i = i := by
 have h1 : rstW l i = l.drop i := by
  unfold rstW skp
  rw [get_blk hi]
  simp only [List.dropWhile, hb]
 refine ⟨h1, ?_⟩
 unfold posW
 rw [h1, List.length_drop]; omega
theorem nxt_ends {l : List UInt8} {a i : Nat} (ha : a < l.length) (hai : a < i) (hi : i ≤ l.length) (hno : ∀ k : Nat, a ≤ k → k < i → blk (l.getD k default) = false) (hend : i = l.length ∨ blk (l.getD i default) = true) : nxtW l a = (l.drop a).take (i - a) ∧ posW l a = a ∧ (nxtW l a).length = i - a := by
 obtain ⟨h1, h2⟩ := rst_here ha (hno a (Nat.le_refl _) hai)
 have key : nxtW l a = (l.drop a).take (i - a) := by
  unfold nxtW wrd
  rw [h1]
  have hg : ∀ k, (l.drop a).getD k 0 = l.getD (a + k) default := fun k => by simp [List.getD_eq_getElem?_getD, List.getElem?_drop]; rfl
  rcases Nat.lt_or_ge i l.length with hlt | hge
  ·refine (take_first (by rw [List.length_drop]; omega) ?_ fun k hk => ?_).1
   ·rw [hg, show a + (i - a) = i by omega]
    rcases hend with h | h
    ·omega
    ·simp only [nblk, h]; rfl
   ·rw [hg]; simp only [nblk, hno (a + k) (by omega) (by omega)]; rfl
  ·have := (take_none (q := nblk) (l := l.drop a) fun k hk => by
    rw [List.length_drop] at hk
    rw [hg]; simp only [nblk, hno (a + k) (by omega) (by omega)]; rfl).1
   rw [this, List.take_of_length_le (by rw [List.length_drop]; omega)]
 exact ⟨key, h2, by rw [key, List.length_take, List.length_drop]; omega⟩
theorem u8_blk (b : UInt8) : ((b.toNat : Int) = 32 ∨ (b.toNat : Int) = 9) ↔ blk b = true := by
 rw [← blk_nat]
 unfold blkN
 simp only [Bool.or_eq_true, beq_iff_eq]
 omega
theorem nblk_of {b : UInt8} (h1 : ¬ (b.toNat : Int) = 32) (h2 : ¬ (b.toNat : Int) = 9) : blk b = false := by
 cases h : blk b with
 | false => rfl
 | true => rcases (u8_blk b).2 h with h3 | h3; exact absurd h3 h1; exact absurd h3 h2
theorem wds_word {l : List UInt8} {i i2 : Int} {xs : List Wd} (p1 : 0 ≤ i) (p2 : i < l.length) (p3 : xs ++ wdsAt l i.toNat = wdsAt l 0) (hb : blk (l.getD i.toNat default) = false) (r1 : i ≤ i2) (r2 : i2 ≤ l.length) (r3 : ∀ k : Nat, i.toNat ≤ k → k < i2.toNat → blk (l.getD k default) = false)
 (he : i2.toNat = l.length ∨ blk (l.getD i2.toNat default) = true) : i < i2 ∧ (xs ++ [(⟨(l.drop i.toNat).take (i2.toNat - i.toNat), i + 1⟩ : Wd)]) ++ wdsAt l i2.toNat = wdsAt l 0 := by
 have hlt : i < i2 := by
  rcases Int.lt_or_eq_of_le r1 with h | h
  ·exact h
  ·subst h
   rcases he with h | h
   ·omega
   ·rw [hb] at h; cases h
 obtain ⟨e1, e2, e3⟩ := nxt_ends (l := l) (a := i.toNat) (i := i2.toNat) (by omega) (by omega) (by omega) r3 he
 refine ⟨hlt, ?_⟩
 have hne : nxtW l i.toNat ≠ [] := fun h => by rw [h] at e3; simp at e3; omega
 rw [← p3, wdsAt_cons (by omega) hne, e2, e3, show i.toNat + (i2.toNat - i.toNat) = i2.toNat by omega, e1, show ((i.toNat : Nat) : Int) + 1 = i + 1 by omega]
 simp
set_option maxRecDepth 100000 in
set_option maxHeartbeats 4000000 in
theorem split_ok (l : List UInt8) (hl : l.length ≤ 1000000) : FnOk Tryz.prog 46 [.v (.string (bs l))] (fun q => q = .row 2 ((wdsAt l 0).map wE)) := by
 have hz : (bs l).size = l.length := rfl
 refine fnOk_of (fn := Tryz.f46) 52 (by kernel_rfl) rfl (by kernel_rfl) (Nat.le_of_ble_eq_true rfl) ?_
 intro e_0 m_0 hA hm_0
 have s0_0 : evA e_0 (.tmp 0) = _ := hA 0 _ rfl
 have ml_0 : m_0.length = 0 := by rw [hm_0]; rfl
 clear hA hm_0
 refine aw_seq <| at_ <| ar (ro_assign ev_c) rfl <| ae1 (up_m rfl s0_0) ?_; clear s0_0; intro e_1 s0_1
 refine then_n <| aw_seq <| at_ <| ar (ro_assign ev_c) rfl <| ae2 (up_m rfl s0_1) up_h ?_; clear s0_1; intro e_2 s0_2 s3_2
 refine then_n <| aw_seq <| at_ <| ar (ro_assign ev_c) rfl <| ae3 (up_m rfl s0_2) (up_m rfl s3_2) up_h ?_; clear s0_2 s3_2; intro e_3 s0_3 s3_3 s4_3
 refine then_n <| aw_seq <| aw_block <| aw_adopt 198 2 s3_3 ml_0 (fun m_4 e_4 hm_4 he_4 => ?_)
 have mo0_4 := m_push hm_4 ml_0
 have ml_4 := m_push_l hm_4 ml_0
 have ml_4 : _ = 1 := ml_4
 have s0_4 : evA e_4 (.tmp 0) = _ := (congrArg (fun q => evA q (.tmp 0)) he_4).trans (up_m rfl s0_3)
 have s3_4 : evA e_4 (.tmp 3) = _ := (congrArg (fun q => evA q (.tmp 3)) he_4).trans up_h
 have s4_4 : evA e_4 (.tmp 4) = _ := (congrArg (fun q => evA q (.tmp 4)) he_4).trans (up_m rfl s4_3)
 clear hm_4 he_4
 refine aw_loop (S := (Int × List Wd)) (fun s e mem => match s with | ⟨i, xs⟩ => (evA e (.tmp 4) = .v (.int .i64 i)) ∧ (evA e (.tmp 0) = evA e_4 (.tmp 0)) ∧ (∃ j, evA e (.tmp 3) = .own j ∧ mem[j]? = some (.row 198 2 (xs.map wE)) ∧ True) ∧ (∃ n, mem.length = n ∧ 1 ≤ n) ∧ ((0 ≤ i ∧ i ≤ l.length ∧ xs.length ≤ i ∧ xs ++ wdsAt l i.toNat = wdsAt l 0))) (fun s => match s with | ⟨i, xs⟩ => (l.length - i).toNat) ⟨0, []⟩ ⟨s4_4, rfl, ⟨_, s3_4, mo0_4, trivial⟩, ⟨_, ml_4, Nat.le_refl _⟩, ?_⟩ ?_
 ·exact ⟨by omega, by omega, by simp, rfl⟩
 ·rintro ⟨i, xs⟩ e_5 m_5 ⟨s4_5, k0_5, ⟨j3_5, s3_5, mo_j3_5, -⟩, ⟨n_5, ml_5, hn_5⟩, hinv⟩
  have s0_5 := k0_5.trans s0_4
  have jl3_5 := m_lt mo_j3_5 ml_5
  (obtain ⟨p1, p2, p4, p3⟩ := hinv)
  refine aw_seq <| aw_seq <| at_ <| ar (ro_move s4_5) rfl <| ar (ro_move (up_m rfl s0_5)) rfl <| ar (ro_len_str up_h rfl qun9) rfl <| ar (ro_lss (u2 rfl up_h) up_h) rfl <| ae4 (u4 rfl s0_5) (u4 rfl s3_5) (u4 rfl s4_5) up_h ?_; clear s0_5 s3_5 s4_5; intro e_6 s0_6 s3_6 s4_6 s9_6
  refine then_n <| aw_case s9_6 (fun hq_7 => ?_) (fun hq_7 => ?_)
  ·replace hq_7 := bt hq_7
   refine aw_skip <| then_n <| aw_block <| aw_seq <| aw_seq <| at_ <| ar (ro_move s0_6) rfl <| ar (ro_move (up_m rfl s4_6)) rfl <| ar (ro_sindex (up_m rfl up_h) up_h qun9 (by omega) (by refine idx_str ?_; first | omega | (simp <;> omega; done) | (refine Nat.lt_of_lt_of_le (m := 256) ?_ (by decide +kernel); omega))) rfl ?_
   refine ar (ro_eql up_h ev_c) rfl ?_
   refine ar (ro_move up_h) rfl <| al_case up_h (fun hb_8 hq_8 => ?_) (fun hb_8 hq_8 => ?_)
   ·replace hq_8 := bt hq_8
    refine al_skip' ⟨_, rfl, .inl hb_8⟩ rfl ?_
    refine al_skip' ⟨_, rfl, .inl (up_m rfl hb_8)⟩ rfl ?_
    refine al_skip' ⟨_, rfl, .inl (u2 rfl hb_8)⟩ rfl ?_
    refine al_skip' ⟨_, rfl, .inl (up_m rfl (u2 rfl hb_8))⟩ rfl ?_
    refine ar (ro_pickT (u4 rfl hb_8) ev_c) rfl <| ae4 (u2 rfl (u8 rfl s0_6)) (u2 rfl (u8 rfl s3_6)) (u2 rfl (u8 rfl s4_6)) up_h ?_; clear hb_8 s0_6 s3_6 s4_6 s9_6; intro e_9 s0_9 s3_9 s4_9 s19_9
    refine then_n <| aw_true s19_9 <| aw_seq <| at_ <| ar (ro_move s4_9) rfl ?_
    (refine ar (ro_add' up_h ev_c ?_) rfl ?_; · (unfold In64; omega))
    refine ar (ro_assign up_h) rfl <| ae3 (up_m rfl (u2 rfl s0_9)) (up_m rfl (u2 rfl s3_9)) up_h ?_; clear s0_9 s19_9 s3_9 s4_9; intro e_11 s0_11 s3_11 s4_11
    refine then_n <| aw_exit <| then_x <| block_hit <| then_n <| ⟨⟨_, _⟩, ⟨s4_11, (s0_11.trans s0_4.symm), ⟨_, s3_11, mo_j3_5, trivial⟩, ⟨_, ml_5, by omega⟩, ?_⟩, ?_⟩
    ·first | (have hb : blk (l.getD i.toNat default) = true := (u8_blk _).1 (by first | exact .inl (by assumption) | exact .inr (by assumption)); exact ⟨by omega, by omega, by omega, by rw [show (i + 1).toNat = i.toNat + 1 by omega, wds_skip (by omega) hb]; exact p3⟩) | (have hw := wds_word p1 (by omega) p3 hb0 r1 r2 r3 (by first | exact .inl (by omega) | exact .inr ((u8_blk _).1 (.inl (by assumption))) | exact .inr ((u8_blk _).1 (.inr (by assumption)))); exact ⟨by omega, by omega, by (rw [List.length_append, List.length_singleton]; omega), hw.2⟩)
    ·((try dsimp only); first | omega | (have hw := wds_word p1 (by omega) p3 hb0 r1 r2 r3 (by first | exact .inl (by omega) | exact .inr ((u8_blk _).1 (.inl (by assumption))) | exact .inr ((u8_blk _).1 (.inr (by assumption)))); omega))
   replace hq_8 := bf hq_8
   refine al_ro' (ro_move (up_m rfl (u4 rfl s0_6))) ⟨_, rfl, hb_8⟩ rfl ?_
   refine al_ro' (ro_move (u2 rfl (u4 rfl s4_6))) ⟨_, rfl, (up_m rfl hb_8)⟩ rfl ?_
   refine al_ro' (ro_sindex (up_m rfl up_h) up_h qun9 (by omega) (by refine idx_str ?_; first | omega | (simp <;> omega; done) | (refine Nat.lt_of_lt_of_le (m := 256) ?_ (by decide +kernel); omega))) ⟨_, rfl, (u2 rfl hb_8)⟩ rfl ?_
   refine al_ro' (ro_eql up_h ev_c) ⟨_, rfl, (up_m rfl (u2 rfl hb_8))⟩ rfl ?_
   refine ar (ro_pickF (u4 rfl hb_8) up_h) rfl <| ae4 (u2 rfl (u8 rfl s0_6)) (u2 rfl (u8 rfl s3_6)) (u2 rfl (u8 rfl s4_6)) up_h ?_; clear hb_8 s0_6 s3_6 s4_6 s9_6; intro e_12 s0_12 s3_12 s4_12 s19_12
   refine then_n <| aw_case s19_12 (fun hq_13 => ?_) (fun hq_13 => ?_)
   ·replace hq_13 := bt hq_13
    refine aw_seq <| at_ <| ar (ro_move s4_12) rfl ?_
    (refine ar (ro_add' up_h ev_c ?_) rfl ?_; · (unfold In64; omega))
    refine ar (ro_assign up_h) rfl <| ae3 (up_m rfl (u2 rfl s0_12)) (up_m rfl (u2 rfl s3_12)) up_h ?_; clear s0_12 s19_12 s3_12 s4_12; intro e_14 s0_14 s3_14 s4_14
    refine then_n <| aw_exit <| then_x <| block_hit <| then_n <| ⟨⟨_, _⟩, ⟨s4_14, (s0_14.trans s0_4.symm), ⟨_, s3_14, mo_j3_5, trivial⟩, ⟨_, ml_5, by omega⟩, ?_⟩, ?_⟩
    ·first | (have hb : blk (l.getD i.toNat default) = true := (u8_blk _).1 (by first | exact .inl (by assumption) | exact .inr (by assumption)); exact ⟨by omega, by omega, by omega, by rw [show (i + 1).toNat = i.toNat + 1 by omega, wds_skip (by omega) hb]; exact p3⟩) | (have hw := wds_word p1 (by omega) p3 hb0 r1 r2 r3 (by first | exact .inl (by omega) | exact .inr ((u8_blk _).1 (.inl (by assumption))) | exact .inr ((u8_blk _).1 (.inr (by assumption)))); exact ⟨by omega, by omega, by (rw [List.length_append, List.length_singleton]; omega), hw.2⟩)
    ·((try dsimp only); first | omega | (have hw := wds_word p1 (by omega) p3 hb0 r1 r2 r3 (by first | exact .inl (by omega) | exact .inr ((u8_blk _).1 (.inl (by assumption))) | exact .inr ((u8_blk _).1 (.inr (by assumption)))); omega))
   replace hq_13 := bf hq_13
   have hb0 : blk (l.getD i.toNat default) = false := nblk_of (by assumption) (by assumption)
   refine aw_skip <| then_n <| aw_seq <| at_ <| ar (ro_move s4_12) rfl <| ar (ro_assign up_h) rfl <| ae4 (u2 rfl s0_12) (u2 rfl s3_12) (u2 rfl s4_12) up_h ?_; clear s0_12 s19_12 s3_12 s4_12; intro e_15 s0_15 s3_15 s4_15 s5_15
   refine then_n <| aw_seq <| aw_block <| aw_loop (S := Int) (fun i2 e mem => (evA e (.tmp 4) = .v (.int .i64 i2)) ∧ (evA e (.tmp 0) = evA e_15 (.tmp 0)) ∧ (evA e (.tmp 3) = evA e_15 (.tmp 3)) ∧ (evA e (.tmp 5) = evA e_15 (.tmp 5)) ∧ (mem[j3_5]? = m_5[j3_5]?) ∧ (mem.length = n_5) ∧ ((i ≤ i2 ∧ i2 ≤ l.length ∧ ∀ k : Nat, i.toNat ≤ k → k < i2.toNat → blk (l.getD k default) = false))) (fun i2 => (l.length - i2).toNat) i ⟨s4_15, rfl, rfl, rfl, rfl, ml_5, ?_⟩ ?_
   ·exact ⟨by omega, by omega, fun k h1 h2 => by omega⟩
   ·rintro i2 e_16 m_16 ⟨s4_16, k0_16, k3_16, k5_16, mkj3_5_16, ml_16, hinv⟩
    have s0_16 := k0_16.trans s0_15
    have s3_16 := k3_16.trans s3_15
    have s5_16 := k5_16.trans s5_15
    have moj3_5_16 := mkj3_5_16.trans mo_j3_5
    (obtain ⟨r1, r2, r3⟩ := hinv)
    refine aw_seq <| aw_seq <| at_ <| ar (ro_move s4_16) rfl <| ar (ro_move (up_m rfl s0_16)) rfl <| ar (ro_len_str up_h rfl qun9) rfl <| ar (ro_lss (u2 rfl up_h) up_h) rfl <| ar (ro_move up_h) rfl <| al_case up_h (fun hb_17 hq_17 => ?_) (fun hb_17 hq_17 => ?_)
    ·replace hq_17 := bt hq_17
     refine al_ro' (ro_move (up_m rfl (u4 rfl s0_16))) ⟨_, rfl, hb_17⟩ rfl ?_
     refine al_ro' (ro_move (u2 rfl (u4 rfl s4_16))) ⟨_, rfl, (up_m rfl hb_17)⟩ rfl ?_
     refine al_ro' (ro_sindex (up_m rfl up_h) up_h qun9 (by omega) (by refine idx_str ?_; first | omega | (simp <;> omega; done) | (refine Nat.lt_of_lt_of_le (m := 256) ?_ (by decide +kernel); omega))) ⟨_, rfl, (u2 rfl hb_17)⟩ rfl ?_
     refine al_ro' (ro_neq up_h ev_c) ⟨_, rfl, (up_m rfl (u2 rfl hb_17))⟩ rfl ?_
     refine ar (ro_pickT (u4 rfl hb_17) up_h) rfl <| ar (ro_move up_h) rfl <| al_case up_h (fun hb_18 hq_18 => ?_) (fun hb_18 hq_18 => ?_)
     ·replace hq_18 := bnt hq_18
      refine al_ro' (ro_move (up_m rfl (u2 rfl (u8 rfl s0_16)))) ⟨_, rfl, hb_18⟩ rfl ?_
      refine al_ro' (ro_move (u4 rfl (u8 rfl s4_16))) ⟨_, rfl, (up_m rfl hb_18)⟩ rfl ?_
      refine al_ro' (ro_sindex (up_m rfl up_h) up_h qun9 (by omega) (by refine idx_str ?_; first | omega | (simp <;> omega; done) | (refine Nat.lt_of_lt_of_le (m := 256) ?_ (by decide +kernel); omega))) ⟨_, rfl, (u2 rfl hb_18)⟩ rfl ?_
      refine al_ro' (ro_neq up_h ev_c) ⟨_, rfl, (up_m rfl (u2 rfl hb_18))⟩ rfl ?_
      refine ar (ro_pickT (u4 rfl hb_18) up_h) rfl <| ae5 (u16 rfl s0_16) (u16 rfl s3_16) (u16 rfl s4_16) (u16 rfl s5_16) up_h ?_; clear hb_17 hb_18 s0_16 s3_16 s4_16 s5_16; intro e_19 s0_19 s3_19 s4_19 s5_19 s38_19
      refine then_n <| aw_case s38_19 (fun hq_20 => ?_) (fun hq_20 => ?_)
      ·replace hq_20 := bnt hq_20
       refine aw_skip <| then_n <| aw_block <| at_ <| ar (ro_move s4_19) rfl ?_
       (refine ar (ro_add' up_h ev_c ?_) rfl ?_; · (unfold In64; omega))
       refine ar (ro_assign up_h) rfl <| ae4 (up_m rfl (u2 rfl s0_19)) (up_m rfl (u2 rfl s3_19)) up_h (up_m rfl (u2 rfl s5_19)) ?_; clear s0_19 s38_19 s3_19 s4_19 s5_19; intro e_21 s0_21 s3_21 s4_21 s5_21
       refine block_n <| then_n <| ⟨_, ⟨s4_21, (s0_21.trans s0_15.symm), (s3_21.trans s3_15.symm), (s5_21.trans s5_15.symm), (moj3_5_16.trans mo_j3_5.symm), ml_16, ?_⟩, ?_⟩
       ·(have hb : blk (l.getD i2.toNat default) = false := nblk_of (by assumption) (by assumption); exact ⟨by omega, by omega, fun k h1 h2 => if hk : k < i2.toNat then r3 k h1 hk else (by rw [show k = i2.toNat by omega]; exact hb)⟩)
       ·((try dsimp only); omega)
      replace hq_20 := bnf hq_20
      refine aw_exit <| then_x <| then_x <| block_hit <| then_n <| at_ <| ar (ro_move s3_19) rfl <| ar (ro_move (up_m rfl s0_19)) rfl <| ar (ro_move (u2 rfl s5_19)) rfl <| ar (ro_move (up_m rfl (u2 rfl s4_19))) rfl <| ar (ro_sslice (u2 rfl up_h) (up_m rfl up_h) up_h qun9 (by omega) (by omega) (by omega)) rfl ?_
      refine ar (ro_move (up_m rfl (u4 rfl s5_19))) rfl ?_
      (refine ar (ro_add' up_h ev_c ?_) rfl ?_; · (unfold In64; omega))
      refine ar (ro_build (evP_cons (u2 rfl up_h) (evP_cons up_h evP_nil)) z29_bz198 z29_bu198 z29_bp198 rfl) rfl ?_
      refine ar (ro_lit z29_sl106 (evP_cons up_h evP_nil) rfl rfl rfl rfl) rfl <| al_stm (st_app z29_sl106 rfl ml_16 moj3_5_16 (u8 rfl up_h) up_h (by rfl) (by simp only [lnS] <;> omega)) trivial rfl (fun m_22 hm_22 => ?_)
      have mon_5_22 := m_swap hm_22 ml_16
      simp only [pS, Value.cells, Nat.reduceAdd, bs_list, bs_ext, one_wE, app_m] at mon_5_22
      have ml_22 := m_swap_l hm_22 ml_16
      clear hm_22 moj3_5_16
      refine ar (ro_assign up_h) rfl <| ae3 (up_m rfl (u2 rfl (u8 rfl s0_19))) up_h (up_m rfl (u2 rfl (u8 rfl s4_19))) ?_; clear s0_19 s38_19 s3_19 s4_19 s5_19; intro e_23 s0_23 s3_23 s4_23
      refine block_n <| then_n <| ⟨⟨_, _⟩, ⟨s4_23, (s0_23.trans s0_4.symm), ⟨_, s3_23, mon_5_22, trivial⟩, ⟨_, ml_22, by omega⟩, ?_⟩, ?_⟩
      ·first | (have hb : blk (l.getD i.toNat default) = true := (u8_blk _).1 (by first | exact .inl (by assumption) | exact .inr (by assumption)); exact ⟨by omega, by omega, by omega, by rw [show (i + 1).toNat = i.toNat + 1 by omega, wds_skip (by omega) hb]; exact p3⟩) | (have hw := wds_word p1 (by omega) p3 hb0 r1 r2 r3 (by first | exact .inl (by omega) | exact .inr ((u8_blk _).1 (.inl (by assumption))) | exact .inr ((u8_blk _).1 (.inr (by assumption)))); exact ⟨by omega, by omega, by (rw [List.length_append, List.length_singleton]; omega), hw.2⟩)
      ·((try dsimp only); first | omega | (have hw := wds_word p1 (by omega) p3 hb0 r1 r2 r3 (by first | exact .inl (by omega) | exact .inr ((u8_blk _).1 (.inl (by assumption))) | exact .inr ((u8_blk _).1 (.inr (by assumption)))); omega))
     replace hq_18 := bnf hq_18
     refine al_skip' ⟨_, rfl, .inl hb_18⟩ rfl ?_
     refine al_skip' ⟨_, rfl, .inl (up_m rfl hb_18)⟩ rfl ?_
     refine al_skip' ⟨_, rfl, .inl (u2 rfl hb_18)⟩ rfl ?_
     refine al_skip' ⟨_, rfl, .inl (up_m rfl (u2 rfl hb_18))⟩ rfl ?_
     refine ar (ro_pickF (u4 rfl hb_18) ev_c) rfl <| ae5 (u16 rfl s0_16) (u16 rfl s3_16) (u16 rfl s4_16) (u16 rfl s5_16) up_h ?_; clear hb_17 hb_18 s0_16 s3_16 s4_16 s5_16; intro e_24 s0_24 s3_24 s4_24 s5_24 s38_24
     refine then_n <| aw_false s38_24 <| aw_exit <| then_x <| then_x <| block_hit <| then_n <| at_ <| ar (ro_move s3_24) rfl <| ar (ro_move (up_m rfl s0_24)) rfl <| ar (ro_move (u2 rfl s5_24)) rfl <| ar (ro_move (up_m rfl (u2 rfl s4_24))) rfl <| ar (ro_sslice (u2 rfl up_h) (up_m rfl up_h) up_h qun9 (by omega) (by omega) (by omega)) rfl ?_
     refine ar (ro_move (up_m rfl (u4 rfl s5_24))) rfl ?_
     (refine ar (ro_add' up_h ev_c ?_) rfl ?_; · (unfold In64; omega))
     refine ar (ro_build (evP_cons (u2 rfl up_h) (evP_cons up_h evP_nil)) z29_bz198 z29_bu198 z29_bp198 rfl) rfl ?_
     refine ar (ro_lit z29_sl106 (evP_cons up_h evP_nil) rfl rfl rfl rfl) rfl <| al_stm (st_app z29_sl106 rfl ml_16 moj3_5_16 (u8 rfl up_h) up_h (by rfl) (by simp only [lnS] <;> omega)) trivial rfl (fun m_26 hm_26 => ?_)
     have mon_5_26 := m_swap hm_26 ml_16
     simp only [pS, Value.cells, Nat.reduceAdd, bs_list, bs_ext, one_wE, app_m] at mon_5_26
     have ml_26 := m_swap_l hm_26 ml_16
     clear hm_26 moj3_5_16
     refine ar (ro_assign up_h) rfl <| ae3 (up_m rfl (u2 rfl (u8 rfl s0_24))) up_h (up_m rfl (u2 rfl (u8 rfl s4_24))) ?_; clear s0_24 s38_24 s3_24 s4_24 s5_24; intro e_27 s0_27 s3_27 s4_27
     refine block_n <| then_n <| ⟨⟨_, _⟩, ⟨s4_27, (s0_27.trans s0_4.symm), ⟨_, s3_27, mon_5_26, trivial⟩, ⟨_, ml_26, by omega⟩, ?_⟩, ?_⟩
     ·first | (have hb : blk (l.getD i.toNat default) = true := (u8_blk _).1 (by first | exact .inl (by assumption) | exact .inr (by assumption)); exact ⟨by omega, by omega, by omega, by rw [show (i + 1).toNat = i.toNat + 1 by omega, wds_skip (by omega) hb]; exact p3⟩) | (have hw := wds_word p1 (by omega) p3 hb0 r1 r2 r3 (by first | exact .inl (by omega) | exact .inr ((u8_blk _).1 (.inl (by assumption))) | exact .inr ((u8_blk _).1 (.inr (by assumption)))); exact ⟨by omega, by omega, by (rw [List.length_append, List.length_singleton]; omega), hw.2⟩)
     ·((try dsimp only); first | omega | (have hw := wds_word p1 (by omega) p3 hb0 r1 r2 r3 (by first | exact .inl (by omega) | exact .inr ((u8_blk _).1 (.inl (by assumption))) | exact .inr ((u8_blk _).1 (.inr (by assumption)))); omega))
    replace hq_17 := bf hq_17
    refine al_skip' ⟨_, rfl, .inl hb_17⟩ rfl ?_
    refine al_skip' ⟨_, rfl, .inl (up_m rfl hb_17)⟩ rfl ?_
    refine al_skip' ⟨_, rfl, .inl (u2 rfl hb_17)⟩ rfl ?_
    refine al_skip' ⟨_, rfl, .inl (up_m rfl (u2 rfl hb_17))⟩ rfl ?_
    refine ar (ro_pickF (u4 rfl hb_17) ev_c) rfl <| ar (ro_move up_h) rfl <| al_skip' ⟨_, rfl, .inl up_h⟩ rfl ?_
    refine al_skip' ⟨_, rfl, .inl (up_m rfl up_h)⟩ rfl ?_
    refine al_skip' ⟨_, rfl, .inl (u2 rfl up_h)⟩ rfl ?_
    refine al_skip' ⟨_, rfl, .inl (up_m rfl (u2 rfl up_h))⟩ rfl ?_
    refine ar (ro_pickF (u4 rfl up_h) ev_c) rfl <| ae5 (u16 rfl s0_16) (u16 rfl s3_16) (u16 rfl s4_16) (u16 rfl s5_16) up_h ?_; clear hb_17 s0_16 s3_16 s4_16 s5_16; intro e_28 s0_28 s3_28 s4_28 s5_28 s38_28
    refine then_n <| aw_false s38_28 <| aw_exit <| then_x <| then_x <| block_hit <| then_n <| at_ <| ar (ro_move s3_28) rfl <| ar (ro_move (up_m rfl s0_28)) rfl <| ar (ro_move (u2 rfl s5_28)) rfl <| ar (ro_move (up_m rfl (u2 rfl s4_28))) rfl <| ar (ro_sslice (u2 rfl up_h) (up_m rfl up_h) up_h qun9 (by omega) (by omega) (by omega)) rfl ?_
    refine ar (ro_move (up_m rfl (u4 rfl s5_28))) rfl ?_
    (refine ar (ro_add' up_h ev_c ?_) rfl ?_; · (unfold In64; omega))
    refine ar (ro_build (evP_cons (u2 rfl up_h) (evP_cons up_h evP_nil)) z29_bz198 z29_bu198 z29_bp198 rfl) rfl ?_
    refine ar (ro_lit z29_sl106 (evP_cons up_h evP_nil) rfl rfl rfl rfl) rfl <| al_stm (st_app z29_sl106 rfl ml_16 moj3_5_16 (u8 rfl up_h) up_h (by rfl) (by simp only [lnS] <;> omega)) trivial rfl (fun m_30 hm_30 => ?_)
    have mon_5_30 := m_swap hm_30 ml_16
    simp only [pS, Value.cells, Nat.reduceAdd, bs_list, bs_ext, one_wE, app_m] at mon_5_30
    have ml_30 := m_swap_l hm_30 ml_16
    clear hm_30 moj3_5_16
    refine ar (ro_assign up_h) rfl <| ae3 (up_m rfl (u2 rfl (u8 rfl s0_28))) up_h (up_m rfl (u2 rfl (u8 rfl s4_28))) ?_; clear s0_28 s38_28 s3_28 s4_28 s5_28; intro e_31 s0_31 s3_31 s4_31
    refine block_n <| then_n <| ⟨⟨_, _⟩, ⟨s4_31, (s0_31.trans s0_4.symm), ⟨_, s3_31, mon_5_30, trivial⟩, ⟨_, ml_30, by omega⟩, ?_⟩, ?_⟩
    ·first | (have hb : blk (l.getD i.toNat default) = true := (u8_blk _).1 (by first | exact .inl (by assumption) | exact .inr (by assumption)); exact ⟨by omega, by omega, by omega, by rw [show (i + 1).toNat = i.toNat + 1 by omega, wds_skip (by omega) hb]; exact p3⟩) | (have hw := wds_word p1 (by omega) p3 hb0 r1 r2 r3 (by first | exact .inl (by omega) | exact .inr ((u8_blk _).1 (.inl (by assumption))) | exact .inr ((u8_blk _).1 (.inr (by assumption)))); exact ⟨by omega, by omega, by (rw [List.length_append, List.length_singleton]; omega), hw.2⟩)
    ·((try dsimp only); first | omega | (have hw := wds_word p1 (by omega) p3 hb0 r1 r2 r3 (by first | exact .inl (by omega) | exact .inr ((u8_blk _).1 (.inl (by assumption))) | exact .inr ((u8_blk _).1 (.inr (by assumption)))); omega))
  replace hq_7 := bf hq_7
  refine aw_exit <| then_x <| then_x <| block_hit <| then_n <| aw_seq <| at_ <| ar (ro_move s3_6) rfl <| ar (ro_assign up_h) rfl <| ae1 up_h ?_; clear s0_6 s3_6 s4_6 s9_6; intro e_32 s2_32
  refine then_n <| aw_ret <| ret1 (.inr rfl) (by kernel_rfl) (resV_tmp s2_32) (.own _ _ _ _ mo_j3_5) ?_
  clear s2_32 mo_j3_5 ml_5
  (have h0 : i.toNat = l.length := (by omega); rw [h0, wdsAt_end, List.append_nil] at p3; rw [← p3])
end Go.Proofs.YtjhcfpdgldpicaaGreatDoor
