/- Texts of this claim, one behind the other: lemmas for the statement. -/
import Derived.Test.YtfmjmngkgmlghaaDoorT0
import Derived.Test.YtfmjmngkgmlghaaDoorM4
import Derived.Test.YtfmjmngkgmlghaaDoorM8
/- The law of chapter 3 on orders and samples. The variables of the package hold what the text lays. -/
namespace Go.Proofs.YtfmjmngkgmlghaaDoor
open Go Go.RowKit Go.Proofs
set_option linter.unusedSimpArgs false
set_option linter.unusedVariables false
theorem h10_az59 : (Tryd.prog.info? 59).bind (·.zero) = some (.agg #[.slice none 0 0, .slice none 0 0]) := by kernel_rfl
theorem h10_bz52 : (Tryd.prog.info? 52).bind (·.zero) = some (.agg #[.slice none 0 0]) := by kernel_rfl
theorem h10_bu52 : Tryd.prog.underlying 52 = some (.struct (fsOf Tryd.prog 52)) := by kernel_rfl
theorem h10_bp52 : ∀ w, ((fsOf Tryd.prog 52).mapM fun f => Prod.mk f.offset <$> sizeOf f.type : Sem (Array (Nat × Nat))).run Tryd.prog w = .ok (#[(0, 1)]) w := fun _ => by kernel_rfl
theorem h10_bz54 : (Tryd.prog.info? 54).bind (·.zero) = some (.agg #[.int .i64 0, .int .i64 0]) := by kernel_rfl
theorem h10_bu54 : Tryd.prog.underlying 54 = some (.struct (fsOf Tryd.prog 54)) := by kernel_rfl
theorem h10_bp54 : ∀ w, ((fsOf Tryd.prog 54).mapM fun f => Prod.mk f.offset <$> sizeOf f.type : Sem (Array (Nat × Nat))).run Tryd.prog w = .ok (#[(0, 1), (1, 1)]) w := fun _ => by kernel_rfl
theorem h10_bz57 : (Tryd.prog.info? 57).bind (·.zero) = some (.agg #[.slice none 0 0, .int .i64 0, .int .i64 0, .int .i64 0]) := by kernel_rfl
theorem h10_bu57 : Tryd.prog.underlying 57 = some (.struct (fsOf Tryd.prog 57)) := by kernel_rfl
theorem h10_bp57 : ∀ w, ((fsOf Tryd.prog 57).mapM fun f => Prod.mk f.offset <$> sizeOf f.type : Sem (Array (Nat × Nat))).run Tryd.prog w = .ok (#[(0, 1), (1, 2), (3, 1)]) w := fun _ => by kernel_rfl
theorem h10_fl59_0 : FldIs Tryd.prog 59 0 0 false 1 := by unfold FldIs; kernel_rfl
theorem h10_fl59_1 : FldIs Tryd.prog 59 1 1 false 1 := by unfold FldIs; kernel_rfl
theorem h10_hcf19 : ∀ args w, (callFunc 19 args).run Tryd.prog w = .ok (.enter 19 args) w := fun _ _ => by kernel_rfl
theorem h10_hcf20 : ∀ args w, (callFunc 20 args).run Tryd.prog w = .ok (.enter 20 args) w := fun _ _ => by kernel_rfl
theorem h10_hcf21 : ∀ args w, (callFunc 21 args).run Tryd.prog w = .ok (.enter 21 args) w := fun _ _ => by kernel_rfl
theorem h10_hcf22 : ∀ args w, (callFunc 22 args).run Tryd.prog w = .ok (.enter 22 args) w := fun _ _ => by kernel_rfl
theorem h10_hcf23 : ∀ args w, (callFunc 23 args).run Tryd.prog w = .ok (.enter 23 args) w := fun _ _ => by kernel_rfl
theorem h10_sl50 : SlIs Tryd.prog 50 3 1 8 (.int .i64 0) := ⟨by kernel_rfl, by kernel_rfl, by kernel_rfl⟩
theorem h10_sl55 : SlIs Tryd.prog 55 23 2 16 (.agg #[.int .i64 0, .int .i64 0]) := ⟨by kernel_rfl, by kernel_rfl, by kernel_rfl⟩
theorem h10_sz59 : (Tryd.prog.info? 59).map (·.size) = some 2 := by kernel_rfl
theorem h10_ty23 : TyIs Tryd.prog 23 true 2 := ⟨by kernel_rfl, by kernel_rfl⟩
theorem h10_ty3 : TyIs Tryd.prog 3 false 1 := ⟨by kernel_rfl, by kernel_rfl⟩
theorem h10_ty50 : TyIs Tryd.prog 50 false 1 := ⟨by kernel_rfl, by kernel_rfl⟩
theorem h10_ty55 : TyIs Tryd.prog 55 false 1 := ⟨by kernel_rfl, by kernel_rfl⟩

set_option maxRecDepth 100000 in
set_option maxHeartbeats 1000000 in
theorem bInts_ok (a b : List Int) (ha : a.length ≤ 1000000000) (hb : b.length ≤ 1000000000) : FnOk Tryd.prog 22 [.row 1 (a.map iE), .row 1 (b.map iE)] (fun q => q = oA (decide (a = b))) := by
  refine fnOk_of (fn := Tryd.f22) 26 (by kernel_rfl) rfl (by kernel_rfl) (Nat.le_of_ble_eq_true rfl) ?_
  intro e_0 m_0 hA hm_0
  have s0_0 : evA e_0 (.tmp 0) = _ := hA 0 _ rfl
  have s1_0 : evA e_0 (.tmp 1) = _ := hA 1 _ rfl
  have ml_0 : m_0.length = 0 := by rw [hm_0]; rfl
  clear hA hm_0
  refine aw_seq <| at_ <| ar (ro_assign ev_c) rfl <| ae2 (up_m rfl s0_0) (up_m rfl s1_0) ?_; clear s0_0 s1_0; intro e_1 s0_1 s1_1
  refine then_n <| aw_seq <| aw_seq <| at_ <| ar (ro_move s0_1) rfl <| ar (ro_eq (ro_len_row up_h rfl h10_sl50.1) (by simp only [lnS] <;> rfl)) rfl ?_
  refine ar (ro_move (u2 rfl s1_1)) rfl <| ar (ro_eq (ro_len_row up_h rfl h10_sl50.1) (by simp only [lnS] <;> rfl)) rfl ?_
  refine ar (ro_neq (u2 rfl up_h) up_h) rfl <| ae3 (up_m rfl (u4 rfl s0_1)) (up_m rfl (u4 rfl s1_1)) up_h ?_; clear s0_1 s1_1; intro e_2 s0_2 s1_2 s10_2
  refine then_n <| aw_case s10_2 (fun hq_3 => ?_) (fun hq_3 => ?_)
  ·replace hq_3 := bnt hq_3
   refine aw_seq <| at_ <| ar (ro_assign ev_c) rfl <| ae1 up_h ?_; clear s0_2 s10_2 s1_2; intro e_4 s4_4
   refine then_n <| aw_ret <| then_r <| ret1 (.inr rfl) (by kernel_rfl) (resV_tmp s4_4) (.ro _ rfl) ?_
   clear s4_4  ml_0
   (have hne : ¬ a = b := (fun hc => absurd (congrArg List.length hc) (by omega)); rw [decide_eq_false hne])
  replace hq_3 := bnf hq_3
  (have hl : a.length = b.length := (by omega))
  refine aw_skip <| then_n <| aw_seq <| aw_seq <| at_ <| ar (ro_assign ev_c) rfl <| ae3 (up_m rfl s0_2) (up_m rfl s1_2) up_h ?_; clear s0_2 s10_2 s1_2; intro e_5 s0_5 s1_5 s5_5
  refine then_n <| aw_block <| aw_loop (S := Int) (fun i e mem => (evA e (.tmp 5) = .v (.int .i64 i)) ∧ (evA e (.tmp 0) = evA e_5 (.tmp 0)) ∧ (evA e (.tmp 1) = evA e_5 (.tmp 1)) ∧ (mem.length = 0) ∧ ((0 ≤ i ∧ i ≤ a.length ∧ a.length = b.length ∧ ∀ j : Nat, j < i → a.getD j default = b.getD j default))) (fun i => (a.length - i).toNat) _ ⟨s5_5, rfl, rfl, ml_0, ?_⟩ ?_
  · (refine ⟨by omega, by omega, by omega, fun j hj => absurd hj (by omega)⟩)
  · rintro i e_6 m_6 ⟨s5_6, k0_6, k1_6, ml_6, hinv⟩
    have s0_6 := k0_6.trans s0_5
    have s1_6 := k1_6.trans s1_5
    (have hl := hinv.2.2.1)
    refine aw_seq <| aw_seq <| at_ <| ar (ro_move s5_6) rfl <| ar (ro_move (up_m rfl s0_6)) rfl <| ar (ro_eq (ro_len_row up_h rfl h10_sl50.1) (by simp only [lnS] <;> rfl)) rfl ?_
    refine ar (ro_lss (u2 rfl up_h) up_h) rfl <| ae4 (u4 rfl s0_6) (u4 rfl s1_6) (u4 rfl s5_6) up_h ?_; clear s0_6 s1_6 s5_6; intro e_7 s0_7 s1_7 s5_7 s14_7
    refine then_n <| aw_case s14_7 (fun hq_8 => ?_) (fun hq_8 => ?_)
    ·replace hq_8 := bt hq_8
     (have hx := hinv.2.1)
     refine aw_skip <| then_n <| aw_seq <| aw_block <| aw_seq <| aw_draw 9 (by kernel_rfl) (by kernel_rfl) (by kernel_rfl) (by kernel_rfl) ?_
     refine dr (ro_move s0_7) rfl <| dr (ro_move (up_m rfl s5_7)) rfl <| dr (ro_eq (ro_ix h10_sl50 (up_m rfl up_h) up_h (by omega) (by first | (refine idx_map ?_; first | omega | (simp only [lnS]; omega)) | (refine idx_mapI ?_; first | omega | (simp only [lnS]; omega)) | (refine idx_mapN ?_; first | omega | (simp only [lnS]; omega)) | rfl)) (by simp only [pS, Value.cells, Nat.reduceAdd] <;> rfl)) rfl ?_
     refine dr (ro_eq (ro_ld_ref h10_ty3 rfl up_h (nle rfl)) (by simp only [pS, Value.cells, Nat.reduceAdd] <;> rfl)) rfl ?_
     refine dr (ro_move (u4 rfl s1_7)) rfl <| dr (ro_move (up_m rfl (u4 rfl s5_7))) rfl <| dr (ro_eq (ro_ix h10_sl50 (up_m rfl up_h) up_h (by omega) (by first | (refine idx_map ?_; first | omega | (simp only [lnS]; omega)) | (refine idx_mapI ?_; first | omega | (simp only [lnS]; omega)) | (refine idx_mapN ?_; first | omega | (simp only [lnS]; omega)) | rfl)) (by simp only [pS, Value.cells, Nat.reduceAdd] <;> rfl)) rfl ?_
     refine dr (ro_eq (ro_ld_ref h10_ty3 rfl up_h (nle rfl)) (by simp only [pS, Value.cells, Nat.reduceAdd] <;> rfl)) rfl ?_
     refine dr (ro_neq (u4 rfl up_h) up_h) rfl <| ds_nil <| ae4 (up_m rfl (u8 rfl s0_7)) (up_m rfl (u8 rfl s1_7)) (up_m rfl (u8 rfl s5_7)) up_h ?_; clear s0_7 s14_7 s1_7 s5_7; intro e_9 s0_9 s1_9 s5_9 s25_9
     refine then_n <| aw_case s25_9 (fun hq_10 => ?_) (fun hq_10 => ?_)
     ·replace hq_10 := bnt hq_10
      refine aw_seq <| at_ <| ar (ro_assign ev_c) rfl <| ae1 up_h ?_; clear s0_9 s1_9 s25_9 s5_9; intro e_11 s4_11
      refine then_n <| aw_ret <| block_r <| then_r <| then_r <| block_r <| then_r <| ret1 (.inr rfl) (by kernel_rfl) (resV_tmp s4_11) (.ro _ rfl) ?_
      clear s4_11  ml_6
      (have hne : ¬ a = b := (fun hc => absurd (congrArg (fun l => l.getD i.toNat default) hc) (by assumption)); rw [decide_eq_false hne])
     replace hq_10 := bnf hq_10
     refine aw_skip <| block_n <| then_n <| at_ <| ar (ro_move s5_9) rfl ?_
     (refine ar (ro_add' up_h ev_c ?_) rfl ?_; · (unfold In64; omega))
     refine ar (ro_assign up_h) rfl <| ae3 (up_m rfl (u2 rfl s0_9)) (up_m rfl (u2 rfl s1_9)) up_h ?_; clear s0_9 s1_9 s25_9 s5_9; intro e_12 s0_12 s1_12 s5_12
     refine then_n <| ⟨_, ⟨s5_12, (s0_12.trans s0_5.symm), (s1_12.trans s1_5.symm), ml_6, ?_⟩, ?_⟩
     · (obtain ⟨p1, p2, p3, p4⟩ := hinv; refine ⟨by omega, by omega, p3, fun j hj => ?_⟩; by_cases hji : j = i.toNat; (rw [hji]; assumption); exact p4 j (by omega))
     · ((try dsimp only); omega)
    replace hq_8 := bf hq_8
    refine aw_exit <| then_x <| then_x <| block_hit <| then_n <| aw_seq <| at_ <| ar (ro_assign ev_c) rfl <| ae1 up_h ?_; clear s0_7 s14_7 s1_7 s5_7; intro e_13 s4_13
    refine then_n <| aw_ret <| ret1 (.inr rfl) (by kernel_rfl) (resV_tmp s4_13) (.ro _ rfl) ?_
    clear s4_13  ml_6
    (obtain ⟨p1, p2, p3, p4⟩ := hinv; refine congrArg oA ?_; simp; exact list_ext' (by omega) fun j hj => p4 j (by omega))
theorem sameI_ok (l : List Int) (h : l.length ≤ 1000000000) : FnOk Tryd.prog 22 [.row 1 (l.map iE), .row 1 (l.map iE)] (fun q => q = oA true) :=
  (bInts_ok l l h h).mono fun q h => h.trans (by simp)
theorem sameV_ok (l : List V2) (h : l.length ≤ 1000000) : FnOk Tryd.prog 23 [.row 2 (l.map tE), .row 2 (l.map tE)] (fun q => q = oA true) :=
  (same_ok' l l h h).mono fun q h => h.trans (by simp [samV])
set_option maxRecDepth 100000 in
set_option maxHeartbeats 1000000 in
theorem sAwake_ok : FnOkG Tryd.prog gT 5 [] (fun q => q = oA true) := by
  refine fnOkG_of (fn := Tryd.f5) gT 66 (by kernel_rfl) rfl (by kernel_rfl) (Nat.le_of_ble_eq_true rfl) ?_
  intro e_0 m_0 hA hm_0
  have ml_0 : m_0.length = 1 := by rw [hm_0]; rfl
  have mo0_0 : m_0[0]? = some (.glob gT) := by rw [hm_0]; rfl
  clear hA hm_0
  refine aw_seq <| at_ <| ar (ro_assign ev_c) rfl <| ae0 ?_; intro e_1
  refine then_n <| aw_seq <| at_ <| ar (ro_build (evP_cons ev_c evP_nil) qbz23 qbu23 qbp23 rfl) rfl ?_
  refine ar (ro_call (evL_cons up_h (evL_cons ev_c evL_nil)) rfl (turned0_ok) h10_hcf19) rfl <| ar (ro_move up_h) rfl <| ar (ro_extract up_h rfl) rfl <| ar (ro_extract (up_m rfl up_h) rfl) rfl <| al_stm (st_alloc qaz23 rfl ml_0) trivial rfl (fun m_2 hm_2 => ?_)
  have mo1_2 := m_push hm_2 ml_0
  simp only [pS, Value.cells, Nat.reduceAdd] at mo1_2
  have mo0_2 := m_push_o hm_2 mo0_0
  have ml_2 := m_push_l hm_2 ml_0
  have ml_2 : _ = 2 := ml_2
  clear hm_2 mo0_0
  refine al_stm (st_store up_h (u2 rfl up_h) rfl rfl mo1_2 qsz23 rfl (nle rfl)) trivial rfl (fun m_3 hm_3 => ?_)
  have mo1_3 := m_set hm_3 mo1_2
  simp only [pS, Value.cells, Nat.reduceAdd] at mo1_3
  have mo0_3 := m_set_o hm_3 mo0_2 (by decide)
  have ml_3 := m_set_l hm_3 ml_2
  clear hm_3 mo1_2 mo0_2
  refine ar (ro_assign (up_n (up_m rfl up_h))) rfl <| ae2 (up_m rfl (up_n up_h)) up_h ?_; intro e_4 s1_4 s2_4
  refine then_n <| aw_seq <| at_ <| ar (ro_lit h10_sl50 (evP_cons ev_c (evP_cons ev_c evP_nil)) rfl rfl rfl rfl) rfl <| ar (ro_build (evP_cons up_h evP_nil) h10_bz52 h10_bu52 h10_bp52 rfl) rfl ?_
  refine ar (ro_build (evP_cons ev_c (evP_cons ev_c evP_nil)) h10_bz54 h10_bu54 h10_bp54 rfl) rfl ?_
  refine ar (ro_build (evP_cons ev_c evP_nil) qbz23 qbu23 qbp23 rfl) rfl ?_
  refine ar (ro_build (evP_cons ev_c evP_nil) qbz23 qbu23 qbp23 rfl) rfl ?_
  refine ar (ro_lit h10_sl55 (evP_cons (up_m rfl up_h) (evP_cons up_h evP_nil)) rfl rfl rfl rfl) rfl <| ar (ro_build (evP_cons ev_c evP_nil) qbz23 qbu23 qbp23 rfl) rfl ?_
  refine ar (ro_build (evP_cons (up_m rfl up_h) (evP_cons up_h evP_nil)) h10_bz57 h10_bu57 h10_bp57 rfl) rfl ?_
  refine ar (ro_call (evL_cons (u2 rfl (u4 rfl up_h)) (evL_cons (up_m rfl (u4 rfl up_h)) (evL_cons up_h evL_nil))) rfl (forceAt0_ok) h10_hcf20) rfl <| ar (ro_move up_h) rfl <| ar (ro_extract up_h rfl) rfl <| ar (ro_extract (up_m rfl up_h) rfl) rfl <| ar (ro_assign (up_m rfl up_h)) rfl <| ar (ro_assign (up_m rfl up_h)) rfl <| ae4 (u2 rfl (u4 rfl (u8 rfl s1_4))) (u2 rfl (u4 rfl (u8 rfl s2_4))) (up_m rfl up_h) up_h ?_; clear s1_4 s2_4; intro e_5 s1_5 s2_5 s3_5 s4_5
  refine then_n <| aw_seq <| at_ <| ar (ro_build (evP_cons ev_c evP_nil) qbz23 qbu23 qbp23 rfl) rfl ?_
  refine ar (ro_build (evP_cons ev_c evP_nil) qbz23 qbu23 qbp23 rfl) rfl ?_
  refine ar (ro_build (evP_cons ev_c evP_nil) qbz23 qbu23 qbp23 rfl) rfl ?_
  refine ar (ro_lit h10_sl55 (evP_cons (u2 rfl up_h) (evP_cons (up_m rfl up_h) (evP_cons up_h evP_nil))) rfl rfl rfl rfl) rfl <| ar (ro_callG (evL_cons ev_c (evL_cons up_h evL_nil)) rfl mo0_3 (modulated0_ok) h10_hcf21) rfl <| ar (ro_move up_h) rfl <| ar (ro_extract up_h rfl) rfl <| ar (ro_extract (up_m rfl up_h) rfl) rfl <| al_stm (st_alloc h10_az59 rfl ml_3) trivial rfl (fun m_6 hm_6 => ?_)
  have mo2_6 := m_push hm_6 ml_3
  simp only [pS, Value.cells, Nat.reduceAdd] at mo2_6
  have mo1_6 := m_push_o hm_6 mo1_3
  have mo0_6 := m_push_o hm_6 mo0_3
  have ml_6 := m_push_l hm_6 ml_3
  have ml_6 : _ = 3 := ml_6
  clear hm_6 mo1_3 mo0_3
  refine al_stm (st_store up_h (u2 rfl up_h) rfl rfl mo2_6 h10_sz59 rfl (nle rfl)) trivial rfl (fun m_7 hm_7 => ?_)
  have mo2_7 := m_set hm_7 mo2_6
  simp only [pS, Value.cells, Nat.reduceAdd] at mo2_7
  have mo1_7 := m_set_o hm_7 mo1_6 (by decide)
  have mo0_7 := m_set_o hm_7 mo0_6 (by decide)
  have ml_7 := m_set_l hm_7 ml_6
  clear hm_7 mo2_6 mo1_6 mo0_6
  refine ar (ro_assign (up_n (up_m rfl up_h))) rfl <| ae6 (up_m rfl (up_n (up_m rfl (u8 rfl s1_5)))) (up_m rfl (up_n (up_m rfl (u8 rfl s2_5)))) (up_m rfl (up_n (up_m rfl (u8 rfl s3_5)))) (up_m rfl (up_n (up_m rfl (u8 rfl s4_5)))) (up_m rfl (up_n up_h)) up_h ?_; clear s1_5 s2_5 s3_5 s4_5; intro e_8 s1_8 s2_8 s3_8 s4_8 s5_8 s6_8
  refine then_n <| aw_seq <| at_ <| ar (ro_move s2_8) rfl <| ar (ro_eql up_h ev_c) rfl ?_
  refine ar (ro_move up_h) rfl <| al_case up_h (fun hb_9 hq_9 => ?_) (fun hb_9 hq_9 => ?_)
  ·replace hq_9 := bt hq_9
   refine al_ro' (ro_eq (ro_ld_ptr h10_ty23 rfl mo1_7 (up_m rfl (u2 rfl s1_8)) (nle rfl)) (by simp only [pS, Value.cells, Nat.reduceAdd] <;> rfl)) ⟨_, rfl, hb_9⟩ rfl ?_
   refine al_ro' (ro_build (evP_cons ev_c evP_nil) qbz23 qbu23 qbp23 rfl) ⟨_, rfl, (up_m rfl hb_9)⟩ rfl ?_
   refine al_ro' (ro_aeql (up_m rfl up_h) up_h (xs := [.int .i64 (-1), .int .i64 0]) (ys := [.int .i64 (-1), .int .i64 0]) (b := true) ⟨rfl, by kernel_rfl, fun _ => by kernel_rfl⟩) ⟨_, rfl, (u2 rfl hb_9)⟩ rfl ?_
   refine ar (ro_pickT (up_m rfl (u2 rfl hb_9)) up_h) rfl <| ar (ro_move up_h) rfl <| al_case up_h (fun hb_10 hq_10 => ?_) (fun hb_10 hq_10 => ?_)
   ·skip
    refine al_ro' (ro_move (u8 rfl s4_8)) ⟨_, rfl, hb_10⟩ rfl ?_
    refine al_ro' (ro_eql up_h ev_c) ⟨_, rfl, (up_m rfl hb_10)⟩ rfl ?_
    refine ar (ro_pickT (u2 rfl hb_10) up_h) rfl <| ar (ro_move up_h) rfl <| al_case up_h (fun hb_11 hq_11 => ?_) (fun hb_11 hq_11 => ?_)
    ·replace hq_11 := bt hq_11
     refine al_ro' (ro_move (u4 rfl (u8 rfl s3_8))) ⟨_, rfl, hb_11⟩ rfl ?_
     refine al_ro' (ro_eql up_h ev_c) ⟨_, rfl, (up_m rfl hb_11)⟩ rfl ?_
     refine ar (ro_pickT (u2 rfl hb_11) up_h) rfl <| ar (ro_move up_h) rfl <| al_case up_h (fun hb_12 hq_12 => ?_) (fun hb_12 hq_12 => ?_)
     ·replace hq_12 := bt hq_12
      refine al_ro' (ro_move (u16 rfl s6_8)) ⟨_, rfl, hb_12⟩ rfl ?_
      refine al_ro' (ro_eql up_h ev_c) ⟨_, rfl, (up_m rfl hb_12)⟩ rfl ?_
      refine ar (ro_pickT (u2 rfl hb_12) up_h) rfl <| ar (ro_move up_h) rfl <| al_case up_h (fun hb_13 hq_13 => ?_) (fun hb_13 hq_13 => ?_)
      ·replace hq_13 := bt hq_13
       refine al_ro' (ro_fld_ptr h10_fl59_0 rfl (u4 rfl (u16 rfl s5_8))) ⟨_, rfl, hb_13⟩ rfl ?_
       refine al_ro' (ro_eq (ro_ld_ptr h10_ty50 rfl mo2_7 up_h (nle rfl)) (by simp only [pS, Value.cells, Nat.reduceAdd] <;> rfl)) ⟨_, rfl, (up_m rfl hb_13)⟩ rfl ?_
       refine al_ro' (ro_lit h10_sl50 (evP_cons ev_c (evP_cons ev_c (evP_cons ev_c evP_nil))) rfl rfl rfl rfl) ⟨_, rfl, (u2 rfl hb_13)⟩ rfl ?_
       refine al_ro' (ro_call (evL_cons (up_m rfl up_h) (evL_cons up_h evL_nil)) rfl (sameI_ok [0, 4, 0] (by decide)) h10_hcf22) ⟨_, rfl, (up_m rfl (u2 rfl hb_13))⟩ rfl ?_
       refine ar (ro_pickT (u4 rfl hb_13) up_h) rfl <| ar (ro_move up_h) rfl <| al_case up_h (fun hb_14 hq_14 => ?_) (fun hb_14 hq_14 => ?_)
       ·skip
        refine al_ro' (ro_fld_ptr h10_fl59_1 rfl (u2 rfl (u8 rfl (u16 rfl s5_8)))) ⟨_, rfl, hb_14⟩ rfl ?_
        refine al_ro' (ro_eq (ro_ld_ptr h10_ty55 rfl mo2_7 up_h (nle rfl)) (by simp only [pS, Value.cells, Nat.reduceAdd] <;> rfl)) ⟨_, rfl, (up_m rfl hb_14)⟩ rfl ?_
        refine al_ro' (ro_build (evP_cons ev_c evP_nil) qbz23 qbu23 qbp23 rfl) ⟨_, rfl, (u2 rfl hb_14)⟩ rfl ?_
        refine al_ro' (ro_build (evP_cons ev_c evP_nil) qbz23 qbu23 qbp23 rfl) ⟨_, rfl, (up_m rfl (u2 rfl hb_14))⟩ rfl ?_
        refine al_ro' (ro_build (evP_cons ev_c evP_nil) qbz23 qbu23 qbp23 rfl) ⟨_, rfl, (u4 rfl hb_14)⟩ rfl ?_
        refine al_ro' (ro_lit h10_sl55 (evP_cons (u2 rfl up_h) (evP_cons (up_m rfl up_h) (evP_cons up_h evP_nil))) rfl rfl rfl rfl) ⟨_, rfl, (up_m rfl (u4 rfl hb_14))⟩ rfl ?_
        refine al_ro' (ro_call (evL_cons (u4 rfl up_h) (evL_cons up_h evL_nil)) rfl (sameV_ok [(4, 0), (-2, 0), (2, 0)] (by decide)) h10_hcf23) ⟨_, rfl, (u2 rfl (u4 rfl hb_14))⟩ rfl ?_
        refine ar (ro_pickT (up_m rfl (u2 rfl (u4 rfl hb_14))) up_h) rfl <| ar (ro_assign up_h) rfl <| ae1 up_h ?_; clear hb_10 hb_11 hb_12 hb_13 hb_14 hb_9 s1_8 s2_8 s3_8 s4_8 s5_8 s6_8; intro e_15 s0_15
        refine then_n <| aw_ret <| ret1 (.inr rfl) (by kernel_rfl) (resV_tmp s0_15) (.ro _ rfl) ?_
        clear s0_15 mo2_7 mo1_7 mo0_7 ml_7
        rfl
       · cases hq_14
      · replace hq_13 := bf hq_13; exfalso; omega
     · replace hq_12 := bf hq_12; exfalso; omega
    · replace hq_11 := bf hq_11; exfalso; omega
   · cases hq_10
  · replace hq_9 := bf hq_9; exfalso; omega
end Go.Proofs.YtfmjmngkgmlghaaDoor

/- A vector as a text, written and read. No conditions on a program. -/
namespace Go.Proofs.YtfmjmngkgmlghaaDoor
open Go Go.RowKit Go.Proofs Go.Lib
set_option linter.unusedSimpArgs false
set_option linter.unusedVariables false
theorem z10_hcf24 : ∀ args w, (callFunc 24 args).run Tryd.prog w = .ok (.enter 24 args) w := fun _ _ => by kernel_rfl
theorem z10_hcf25 : ∀ args w, (callFunc 25 args).run Tryd.prog w = .ok (.enter 25 args) w := fun _ _ => by kernel_rfl
theorem z10_hcf26 : ∀ args w, (callFunc 26 args).run Tryd.prog w = .ok (.enter 26 args) w := fun _ _ => by kernel_rfl
theorem z10_hcf32 : ∀ args w, (callFunc 32 args).run Tryd.prog w = .ok (.enter 32 args) w := fun _ _ => by kernel_rfl
theorem z10_hcf33 : ∀ args w, (callFunc 33 args).run Tryd.prog w = .ok (.enter 33 args) w := fun _ _ => by kernel_rfl
theorem z10_hcf52 : ∀ args w, (callFunc 52 args).run Tryd.prog w = .ok (.enter 52 args) w := fun _ _ => by kernel_rfl
theorem z10_hcf53 : ∀ args w, (callFunc 53 args).run Tryd.prog w = .ok (.enter 53 args) w := fun _ _ => by kernel_rfl
theorem z10_sl109 : SlIs Tryd.prog 109 26 1 8 (.int .i64 0) := ⟨by kernel_rfl, by kernel_rfl, by kernel_rfl⟩
theorem z10_sl55 : SlIs Tryd.prog 55 23 2 16 (.agg #[.int .i64 0, .int .i64 0]) := ⟨by kernel_rfl, by kernel_rfl, by kernel_rfl⟩
theorem z10_ty23 : TyIs Tryd.prog 23 true 2 := ⟨by kernel_rfl, by kernel_rfl⟩
theorem z10_ty3 : TyIs Tryd.prog 3 false 1 := ⟨by kernel_rfl, by kernel_rfl⟩
theorem z10_uf105 : isIf (Tryd.prog.underlying 105) = true := by kernel_rfl

section
variable (es er : Value) (hes : isE es) (her : isE er) (tx : ByteArray) (hl : tx.size ≤ 1000000)
include hl
set_option maxRecDepth 100000 in
set_option maxHeartbeats 4000000 in
theorem sNumber_good (v : Int) (h : atoiAll tx.data.toList = .ok v) : FnOkG Tryd.prog (gX es er) 26 [.v (.string tx)] (fun q => q = .tuple [.v (.int .i64 (numN tx.data.toList)), .v (.bool (numK tx.data.toList 6))]) := by
  obtain ⟨hk, hn⟩ := numK_good h 6
  have hb := atoiAll_bounds h
  have hc := cmp_bs (itoa v) tx
  rw [hk, hn]
  refine fnOkG_of (fn := Tryd.f26) (gX es er) 26 (by kernel_rfl) rfl (by kernel_rfl) (Nat.le_of_ble_eq_true rfl) ?_
  intro e_0 m_0 hA hm_0
  have s0_0 : evA e_0 (.tmp 0) = _ := hA 0 _ rfl
  have ml_0 : m_0.length = 1 := by rw [hm_0]; rfl
  have mo0_0 : m_0[0]? = some (.glob (gX es er)) := by rw [hm_0]; rfl
  clear hA hm_0
  refine aw_seq <| at_ <| ar (ro_assign ev_c) rfl <| ar (ro_assign ev_c) rfl <| ae1 (u2 rfl s0_0) ?_; clear s0_0; intro e_1 s0_1
  refine then_n <| aw_seq <| at_ <| ar (ro_move s0_1) rfl <| ar (ro_call (evL_cons up_h evL_nil) rfl (atoi_good tx (by omega) v h) z10_hcf52) rfl ?_
  refine ar (ro_move up_h) rfl <| ar (ro_extract up_h rfl) rfl <| ar (ro_extract (up_m rfl up_h) rfl) rfl <| ar (ro_assign (up_m rfl up_h)) rfl <| ar (ro_assign (up_m rfl up_h)) rfl <| ae3 (up_m rfl (u2 rfl (u4 rfl s0_1))) (up_m rfl up_h) up_h ?_; clear s0_1; intro e_2 s0_2 s4_2 s5_2
  refine then_n <| aw_seq <| at_ <| ar (ro_move s4_2) rfl <| ar (ro_move (up_m rfl s5_2)) rfl <| ar (ro_ifnil up_h z10_uf105) rfl <| ar (ro_move up_h) rfl <| al_case up_h (fun hb_3 hq_3 => ?_) (fun hb_3 hq_3 => ?_)
  ·skip
   refine al_ro' (ro_move (u4 rfl s4_2)) ⟨_, rfl, hb_3⟩ rfl ?_
   refine al_ro' (ro_callG (evL_cons up_h evL_nil) rfl mo0_0 (itoa_ok es er v (by unfold In64; omega)) z10_hcf24) ⟨_, rfl, (up_m rfl hb_3)⟩ rfl ?_
   refine al_ro' (ro_move (u2 rfl (u4 rfl s0_2))) ⟨_, rfl, (u2 rfl hb_3)⟩ rfl ?_
   refine al_ro' (ro_seql (up_m rfl up_h) up_h) ⟨_, rfl, (up_m rfl (u2 rfl hb_3))⟩ rfl ?_
   refine ar (ro_pickT (u4 rfl hb_3) up_h) rfl <| ar (ro_move up_h) rfl <| al_case up_h (fun hb_4 hq_4 => ?_) (fun hb_4 hq_4 => ?_)
   ·skip
    refine al_ro' (ro_move (u2 rfl (u8 rfl s0_2))) ⟨_, rfl, hb_4⟩ rfl ?_
    refine al_ro' (ro_call (evL_cons up_h (evL_cons ev_c evL_nil)) rfl (trimPrefix_ok tx _) z10_hcf53) ⟨_, rfl, (up_m rfl hb_4)⟩ rfl ?_
    refine al_ro' (ro_len_str up_h rfl qun9) ⟨_, rfl, (u2 rfl hb_4)⟩ rfl ?_
    refine al_ro' (ro_leq up_h ev_c) ⟨_, rfl, (up_m rfl (u2 rfl hb_4))⟩ rfl ?_
    refine ar (ro_pickT (u4 rfl hb_4) up_h) rfl <| ar (ro_assign (u2 rfl (u4 rfl (u8 rfl up_h)))) rfl <| ar (ro_assign (up_m rfl up_h)) rfl <| ae2 (up_m rfl up_h) up_h ?_; clear hb_3 hb_4 s0_2 s4_2 s5_2; intro e_5 s2_5 s3_5
    refine then_n <| aw_ret <| ret2 (.inr rfl) (by kernel_rfl) (resV_tmp s2_5) (resV_tmp s3_5) (.ro _ rfl) (.ro _ rfl) ?_
    clear s2_5 s3_5 mo0_0 ml_0
    (first | (simp_all [size_mk]; done) | (simp_all [size_mk] <;> omega))
   refine al_skip' ⟨_, rfl, .inl hb_4⟩ rfl ?_
   refine al_skip' ⟨_, rfl, .inl (up_m rfl hb_4)⟩ rfl ?_
   refine al_skip' ⟨_, rfl, .inl (u2 rfl hb_4)⟩ rfl ?_
   refine al_skip' ⟨_, rfl, .inl (up_m rfl (u2 rfl hb_4))⟩ rfl ?_
   refine ar (ro_pickF (u4 rfl hb_4) ev_c) rfl <| ar (ro_assign (u2 rfl (u4 rfl (u8 rfl up_h)))) rfl <| ar (ro_assign (up_m rfl up_h)) rfl <| ae2 (up_m rfl up_h) up_h ?_; clear hb_3 hb_4 s0_2 s4_2 s5_2; intro e_6 s2_6 s3_6
   refine then_n <| aw_ret <| ret2 (.inr rfl) (by kernel_rfl) (resV_tmp s2_6) (resV_tmp s3_6) (.ro _ rfl) (.ro _ rfl) ?_
   clear s2_6 s3_6 mo0_0 ml_0
   (first | (simp_all [size_mk]; done) | (simp_all [size_mk] <;> omega))
  · cases hq_3
include hes her
set_option maxRecDepth 100000 in
set_option maxHeartbeats 4000000 in
theorem sNumber_bad (h : ∀ v, atoiAll tx.data.toList ≠ .ok v) : FnOkG Tryd.prog (gX es er) 26 [.v (.string tx)] (fun q => q = .tuple [.v (.int .i64 (numN tx.data.toList)), .v (.bool (numK tx.data.toList 6))]) := by
  rw [numK_bad h]
  refine fnOkG_of (fn := Tryd.f26) (gX es er) 26 (by kernel_rfl) rfl (by kernel_rfl) (Nat.le_of_ble_eq_true rfl) ?_
  intro e_0 m_0 hA hm_0
  have s0_0 : evA e_0 (.tmp 0) = _ := hA 0 _ rfl
  have ml_0 : m_0.length = 1 := by rw [hm_0]; rfl
  have mo0_0 : m_0[0]? = some (.glob (gX es er)) := by rw [hm_0]; rfl
  clear hA hm_0
  refine aw_seq <| at_ <| ar (ro_assign ev_c) rfl <| ar (ro_assign ev_c) rfl <| ae1 (u2 rfl s0_0) ?_; clear s0_0; intro e_1 s0_1
  refine then_n <| aw_seq <| at_ <| ar (ro_move s0_1) rfl <| al_roE (roE_callG (evL_cons up_h evL_nil) rfl mo0_0 (atoi_bad es er hes her tx (by omega) h) z10_hcf52) trivial rfl (fun r_2 hr_2 => ?_)
  obtain ⟨N_2, rfl⟩ := hr_2
  refine ar (ro_move up_h) rfl <| ar (ro_extract up_h rfl) rfl <| ar (ro_extract (up_m rfl up_h) rfl) rfl <| ar (ro_assign (up_m rfl up_h)) rfl <| ar (ro_assign (up_m rfl up_h)) rfl <| ae3 (up_m rfl (u2 rfl (u4 rfl s0_1))) (up_m rfl up_h) up_h ?_; clear s0_1; intro e_3 s0_3 s4_3 s5_3
  refine then_n <| aw_seq <| at_ <| ar (ro_move s4_3) rfl <| ar (ro_move (up_m rfl s5_3)) rfl <| ar (ro_iferr up_h z10_uf105) rfl <| ar (ro_move up_h) rfl <| al_case up_h (fun hb_4 hq_4 => ?_) (fun hb_4 hq_4 => ?_)
  · cases hq_4
  refine al_skip' ⟨_, rfl, .inl hb_4⟩ rfl ?_
  refine al_skip' ⟨_, rfl, .inl (up_m rfl hb_4)⟩ rfl ?_
  refine al_skip' ⟨_, rfl, .inl (u2 rfl hb_4)⟩ rfl ?_
  refine al_skip' ⟨_, rfl, .inl (up_m rfl (u2 rfl hb_4))⟩ rfl ?_
  refine ar (ro_pickF (u4 rfl hb_4) ev_c) rfl <| ar (ro_move up_h) rfl <| al_skip' ⟨_, rfl, .inl up_h⟩ rfl ?_
  refine al_skip' ⟨_, rfl, .inl (up_m rfl up_h)⟩ rfl ?_
  refine al_skip' ⟨_, rfl, .inl (u2 rfl up_h)⟩ rfl ?_
  refine al_skip' ⟨_, rfl, .inl (up_m rfl (u2 rfl up_h))⟩ rfl ?_
  refine ar (ro_pickF (u4 rfl up_h) ev_c) rfl <| ar (ro_assign (u2 rfl (u4 rfl (u8 rfl up_h)))) rfl <| ar (ro_assign (up_m rfl up_h)) rfl <| ae2 (up_m rfl up_h) up_h ?_; clear hb_4 s0_3 s4_3 s5_3; intro e_8 s2_8 s3_8
  refine then_n <| aw_ret <| ret2 (.inr rfl) (by kernel_rfl) (resV_tmp s2_8) (resV_tmp s3_8) (.ro _ rfl) (.ro _ rfl) ?_
  clear s2_8 s3_8 mo0_0 ml_0
  (first | (simp_all [size_mk]; done) | (simp_all [size_mk] <;> omega))
theorem sNumber_ok : FnOkG Tryd.prog (gX es er) 26 [.v (.string tx)] (fun q => q = .tuple [.v (.int .i64 (numN tx.data.toList)), .v (.bool (numK tx.data.toList 6))]) := by
  by_cases h : ∃ v, atoiAll tx.data.toList = .ok v
  · obtain ⟨v, h⟩ := h
    exact sNumber_good es er tx hl v h
  · exact sNumber_bad es er hes her tx hl fun v hv => h ⟨v, hv⟩
end
set_option maxRecDepth 100000 in
set_option maxHeartbeats 4000000 in
theorem formatVec_ok (es er : Value) (v : V2) (ha : In64 v.1) (hb : In64 v.2) : FnOkG Tryd.prog (gX es er) 6 [tA v] (fun q => q = .v (.string (fmtR v.1 v.2 44))) := by
  have h1 := itoa_len ha
  have h2 := itoa_len hb
  refine fnOkG_of (fn := Tryd.f6) (gX es er) 11 (by kernel_rfl) rfl (by kernel_rfl) (Nat.le_of_ble_eq_true rfl) ?_
  intro e_0 m_0 hA hm_0
  have s0_0 : evA e_0 (.tmp 0) = _ := hA 0 _ rfl
  have ml_0 : m_0.length = 1 := by rw [hm_0]; rfl
  have mo0_0 : m_0[0]? = some (.glob (gX es er)) := by rw [hm_0]; rfl
  clear hA hm_0
  refine aw_seq <| at_ <| al_stm (st_box s0_0 rfl ml_0) trivial rfl (fun m_1 hm_1 => ?_)
  have mo1_1 := m_push hm_1 ml_0
  have mo0_1 := m_push_o hm_1 mo0_0
  have ml_1 := m_push_l hm_1 ml_0
  have ml_1 : _ = 2 := ml_1
  clear hm_1 mo0_0
  refine ar (ro_assign ev_c) rfl <| ae1 (up_m rfl up_h) ?_; clear s0_0; intro e_2 s1_2
  refine then_n <| aw_seq <| aw_draw 9 (by kernel_rfl) (by kernel_rfl) (by kernel_rfl) (by kernel_rfl) ?_
  refine dr (ro_fld_ptr qfl23_0 rfl s1_2) rfl <| dr (ro_eq (ro_ld_ptr z10_ty3 rfl mo1_1 up_h (nle rfl)) (by simp only [pS, Value.cells, Nat.reduceAdd] <;> rfl)) rfl ?_
  refine dr (ro_callG (evL_cons up_h evL_nil) rfl mo0_1 (itoa_ok es er v.1 ha) z10_hcf24) rfl ?_
  (refine dr (ro_sadd up_h ev_c ?_) rfl ?_; · (first | ((first | unfold In64 | unfold InU64 | unfold InU8); omega) | (simp only [ByteArray.size_append, size_mk, List.length_cons, List.length_nil] <;> omega) | omega))
  refine dr (ro_fld_ptr qfl23_1 rfl (u4 rfl s1_2)) rfl <| dr (ro_eq (ro_ld_ptr z10_ty3 rfl mo1_1 up_h (nle rfl)) (by simp only [pS, Value.cells, Nat.reduceAdd] <;> rfl)) rfl ?_
  refine dr (ro_callG (evL_cons up_h evL_nil) rfl mo0_1 (itoa_ok es er v.2 hb) z10_hcf24) rfl ?_
  (refine dr (ro_sadd (up_m rfl (u2 rfl up_h)) up_h ?_) rfl ?_; · (first | ((first | unfold In64 | unfold InU64 | unfold InU8); omega) | (simp only [ByteArray.size_append, size_mk, List.length_cons, List.length_nil] <;> omega) | omega))
  refine dr (ro_assign up_h) rfl <| ds_nil <| ae1 up_h ?_; clear s1_2; intro e_3 s2_3
  refine then_n <| aw_ret <| ret1 (.inr rfl) (by kernel_rfl) (resV_tmp s2_3) (.ro _ rfl) ?_
  clear s2_3 mo1_1 mo0_1 ml_1
  (rw [fmtR_eq])
set_option maxRecDepth 100000 in
set_option maxHeartbeats 4000000 in
theorem rFormatVec_ok (v : V2) (ha : In64 v.1) (hb : In64 v.2) : FnOk Tryd.prog 9 [tA v] (fun q => q = .v (.string (fmtR v.1 v.2 44))) := by
  have h1 := itoa_len ha
  have h2 := itoa_len hb
  refine fnOk_of (fn := Tryd.f9) 11 (by kernel_rfl) rfl (by kernel_rfl) (Nat.le_of_ble_eq_true rfl) ?_
  intro e_0 m_0 hA hm_0
  have s0_0 : evA e_0 (.tmp 0) = _ := hA 0 _ rfl
  have ml_0 : m_0.length = 0 := by rw [hm_0]; rfl
  clear hA hm_0
  refine aw_seq <| at_ <| al_stm (st_box s0_0 rfl ml_0) trivial rfl (fun m_1 hm_1 => ?_)
  have mo0_1 := m_push hm_1 ml_0
  have ml_1 := m_push_l hm_1 ml_0
  have ml_1 : _ = 1 := ml_1
  clear hm_1
  refine ar (ro_assign ev_c) rfl <| ae1 (up_m rfl up_h) ?_; clear s0_0; intro e_2 s1_2
  refine then_n <| aw_seq <| aw_draw 9 (by kernel_rfl) (by kernel_rfl) (by kernel_rfl) (by kernel_rfl) ?_
  refine dr (ro_fld_ptr qfl23_0 rfl s1_2) rfl <| dr (ro_eq (ro_ld_ptr z10_ty3 rfl mo0_1 up_h (nle rfl)) (by simp only [pS, Value.cells, Nat.reduceAdd] <;> rfl)) rfl ?_
  refine dr (ro_call (evL_cons up_h evL_nil) rfl ((decimal_ok v.1 ha).mono (fun q h => show q = .v (.string ⟨(itoa v.1).toArray⟩) from h)) z10_hcf32) rfl ?_
  (refine dr (ro_sadd up_h ev_c ?_) rfl ?_; · (first | ((first | unfold In64 | unfold InU64 | unfold InU8); omega) | (simp only [ByteArray.size_append, size_mk, List.length_cons, List.length_nil] <;> omega) | omega))
  refine dr (ro_fld_ptr qfl23_1 rfl (u4 rfl s1_2)) rfl <| dr (ro_eq (ro_ld_ptr z10_ty3 rfl mo0_1 up_h (nle rfl)) (by simp only [pS, Value.cells, Nat.reduceAdd] <;> rfl)) rfl ?_
  refine dr (ro_call (evL_cons up_h evL_nil) rfl ((decimal_ok v.2 hb).mono (fun q h => show q = .v (.string ⟨(itoa v.2).toArray⟩) from h)) z10_hcf32) rfl ?_
  (refine dr (ro_sadd (up_m rfl (u2 rfl up_h)) up_h ?_) rfl ?_; · (first | ((first | unfold In64 | unfold InU64 | unfold InU8); omega) | (simp only [ByteArray.size_append, size_mk, List.length_cons, List.length_nil] <;> omega) | omega))
  refine dr (ro_assign up_h) rfl <| ds_nil <| ae1 up_h ?_; clear s1_2; intro e_3 s2_3
  refine then_n <| aw_ret <| ret1 (.inr rfl) (by kernel_rfl) (resV_tmp s2_3) (.ro _ rfl) ?_
  clear s2_3 mo0_1 ml_1
  (rw [fmtR_eq])
/-- The vector with a text, and the error. -/
def pvE (l : List UInt8) : Int := firstE [unlessE (numK (cutA l 44) 6 && numK (cutB l 44) 6) 7, rightE [(numN (cutA l 44), numN (cutB l 44))]]
def pvV (l : List UInt8) : V2 × Int := if pvE l = 0 then ((numN (cutA l 44), numN (cutB l 44)), 0) else ((0, 0), pvE l)
theorem pv_T {l : List UInt8} (h : pvE l = 0) : AV.tuple [.agg [iA (numN (cutA l 44)), iA (numN (cutB l 44))], iA 0] = .tuple [tA (pvV l).1, iA (pvV l).2] := by unfold pvV; rw [if_pos h]
theorem pv_F {l : List UInt8} (h : ¬ pvE l = 0) : AV.tuple [.agg [iA 0, iA 0], iA (pvE l)] = .tuple [tA (pvV l).1, iA (pvV l).2] := by unfold pvV; rw [if_neg h]
set_option maxRecDepth 100000 in
set_option maxHeartbeats 4000000 in
theorem parseVec_ok (es er : Value) (hes : isE es) (her : isE er) (tx : ByteArray) (hl : tx.size ≤ 100000) : FnOkG Tryd.prog (gX es er) 7 [.v (.string tx)] (fun q => q = .tuple [tA (pvV tx.data.toList).1, iA (pvV tx.data.toList).2]) := by
  have hsz := size_eq tx
  have l1 := cutA_len tx.data.toList 44
  have l2 := cutB_len tx.data.toList 44
  have z1 := bs_size (cutA tx.data.toList 44)
  have z2 := bs_size (cutB tx.data.toList 44)
  refine fnOkG_of (fn := Tryd.f7) (gX es er) 47 (by kernel_rfl) rfl (by kernel_rfl) (Nat.le_of_ble_eq_true rfl) ?_
  intro e_0 m_0 hA hm_0
  have s0_0 : evA e_0 (.tmp 0) = _ := hA 0 _ rfl
  have ml_0 : m_0.length = 1 := by rw [hm_0]; rfl
  have mo0_0 : m_0[0]? = some (.glob (gX es er)) := by rw [hm_0]; rfl
  clear hA hm_0
  refine aw_seq <| at_ <| al_stm (st_alloc qaz23 rfl ml_0) trivial rfl (fun m_1 hm_1 => ?_)
  have mo1_1 := m_push hm_1 ml_0
  simp only [pS, Value.cells, Nat.reduceAdd, tE] at mo1_1
  have mo0_1 := m_push_o hm_1 mo0_0
  have ml_1 := m_push_l hm_1 ml_0
  have ml_1 : _ = 2 := ml_1
  clear hm_1 mo0_0
  refine ar (ro_assign ev_c) rfl <| ae2 (u2 rfl s0_0) (up_m rfl up_h) ?_; clear s0_0; intro e_2 s0_2 s2_2
  refine then_n <| aw_seq <| at_ <| ar (ro_move s0_2) rfl <| ar (ro_call (evL_cons up_h (evL_cons ev_c evL_nil)) rfl (cutT_ok tx 44 (by omega)) z10_hcf25) rfl ?_
  refine ar (ro_move up_h) rfl <| ar (ro_extract up_h rfl) rfl <| ar (ro_extract (up_m rfl up_h) rfl) rfl <| ar (ro_extract (u2 rfl up_h) rfl) rfl <| ar (ro_assign (u2 rfl up_h)) rfl <| ar (ro_assign (u2 rfl up_h)) rfl <| ar (ro_assign (u2 rfl up_h)) rfl <| ae3 (up_m rfl (u8 rfl s2_2)) (u2 rfl up_h) (up_m rfl up_h) ?_; clear s0_2 s2_2; intro e_3 s2_3 s4_3 s5_3
  refine then_n <| aw_seq <| at_ <| ar (ro_move s4_3) rfl <| ar (ro_callG (evL_cons up_h evL_nil) rfl mo0_1 ((sNumber_ok es er hes her (bs (cutA tx.data.toList 44)) (by omega)).mono (fun q h => show q = .tuple [.v (.int .i64 (numN (cutA tx.data.toList 44))), .v (.bool (numK (cutA tx.data.toList 44) 6))] from h)) z10_hcf26) rfl ?_
  refine ar (ro_move up_h) rfl <| ar (ro_extract up_h rfl) rfl <| ar (ro_extract (up_m rfl up_h) rfl) rfl <| ar (ro_assign (up_m rfl up_h)) rfl <| ar (ro_assign (up_m rfl up_h)) rfl <| ae4 (up_m rfl (u2 rfl (u4 rfl s2_3))) (up_m rfl (u2 rfl (u4 rfl s5_3))) (up_m rfl up_h) up_h ?_; clear s2_3 s4_3 s5_3; intro e_4 s2_4 s5_4 s7_4 s8_4
  refine then_n <| aw_seq <| at_ <| ar (ro_move s5_4) rfl <| ar (ro_callG (evL_cons up_h evL_nil) rfl mo0_1 ((sNumber_ok es er hes her (bs (cutB tx.data.toList 44)) (by omega)).mono (fun q h => show q = .tuple [.v (.int .i64 (numN (cutB tx.data.toList 44))), .v (.bool (numK (cutB tx.data.toList 44) 6))] from h)) z10_hcf26) rfl ?_
  refine ar (ro_move up_h) rfl <| ar (ro_extract up_h rfl) rfl <| ar (ro_extract (up_m rfl up_h) rfl) rfl <| ar (ro_assign (up_m rfl up_h)) rfl <| ar (ro_assign (up_m rfl up_h)) rfl <| ae5 (up_m rfl (u2 rfl (u4 rfl s2_4))) (up_m rfl (u2 rfl (u4 rfl s7_4))) (up_m rfl (u2 rfl (u4 rfl s8_4))) (up_m rfl up_h) up_h ?_; clear s2_4 s5_4 s7_4 s8_4; intro e_5 s2_5 s7_5 s8_5 s9_5 s10_5
  refine then_n <| aw_seq <| at_ <| ar (ro_move s7_5) rfl <| ar (ro_move (up_m rfl s9_5)) rfl <| ar (ro_build (evP_cons (up_m rfl up_h) (evP_cons up_h evP_nil)) qbz23 qbu23 qbp23 rfl) rfl ?_
  refine al_stm (st_alloc qaz23 rfl ml_1) trivial rfl (fun m_6 hm_6 => ?_)
  have mo2_6 := m_push hm_6 ml_1
  simp only [pS, Value.cells, Nat.reduceAdd, tE] at mo2_6
  have mo1_6 := m_push_o hm_6 mo1_1
  have mo0_6 := m_push_o hm_6 mo0_1
  have ml_6 := m_push_l hm_6 ml_1
  have ml_6 : _ = 3 := ml_6
  clear hm_6 mo1_1 mo0_1
  refine al_stm (st_store up_h (up_m rfl up_h) rfl rfl mo2_6 qsz23 rfl (nle rfl)) trivial rfl (fun m_7 hm_7 => ?_)
  have mo2_7 := m_set hm_7 mo2_6
  simp only [pS, Value.cells, Nat.reduceAdd, tE] at mo2_7
  have mo1_7 := m_set_o hm_7 mo1_6 (by decide)
  have mo0_7 := m_set_o hm_7 mo0_6 (by decide)
  have ml_7 := m_set_l hm_7 ml_6
  clear hm_7 mo2_6 mo1_6 mo0_6
  refine ae4 (up_n (u4 rfl s2_5)) (up_n (u4 rfl s8_5)) (up_n (u4 rfl s10_5)) (up_n up_h) ?_; clear s10_5 s2_5 s7_5 s8_5 s9_5; intro e_8 s2_8 s8_8 s10_8 s11_8
  refine then_n <| aw_seq <| aw_seq <| aw_draw 11 (by kernel_rfl) (by kernel_rfl) (by kernel_rfl) (by kernel_rfl) ?_
  refine dr (ro_move s8_8) rfl <| dr (ro_move up_h) rfl <| ds_case up_h (fun hb_9 hq_9 => ?_) (fun hb_9 hq_9 => ?_)
  ·skip
   refine ds_ro' (ro_move (u2 rfl s10_8)) ⟨_, rfl, hb_9⟩ rfl ?_
   refine dr (ro_pickT (up_m rfl hb_9) up_h) rfl <| dr (ro_call (evL_cons up_h (evL_cons ev_c evL_nil)) rfl (sUnless_ok _ _) qhcf28) rfl <| dr (ro_eq (ro_ld_ptr z10_ty23 rfl mo2_7 (up_m rfl (u4 rfl s11_8)) (nle rfl)) (by simp only [pS, Value.cells, Nat.reduceAdd, tE] <;> rfl)) rfl ?_
   refine dr (ro_lit z10_sl55 (evP_cons up_h evP_nil) rfl rfl rfl rfl) rfl <| dr (ro_call (evL_cons up_h evL_nil) rfl (right_ok [(numN (cutA tx.data.toList 44), numN (cutB tx.data.toList 44))] (by simp)) qhcf29) rfl ?_
   refine dr (ro_lit z10_sl109 (evP_cons (up_m rfl (u2 rfl up_h)) (evP_cons up_h evP_nil)) rfl rfl rfl rfl) rfl <| dr (ro_call (evL_cons up_h evL_nil) rfl (sFirst_ok [_, _] (by simp)) qhcf27) rfl ?_
   refine dr (ro_assign up_h) rfl <| ds_nil <| ae3 (up_m rfl (u2 rfl (u8 rfl s2_8))) (up_m rfl (u2 rfl (u8 rfl s11_8))) up_h ?_; clear hb_9 s10_8 s11_8 s2_8 s8_8; intro e_10 s2_10 s11_10 s12_10
   refine then_n <| aw_seq <| at_ <| ar (ro_move s12_10) rfl <| ar (ro_neq up_h ev_c) rfl <| ae4 (u2 rfl s2_10) (u2 rfl s11_10) (u2 rfl s12_10) up_h ?_; clear s11_10 s12_10 s2_10; intro e_11 s2_11 s11_11 s12_11 s43_11
   refine then_n <| aw_case s43_11 (fun hq_12 => ?_) (fun hq_12 => ?_)
   ·replace hq_12 := bnt hq_12
    refine aw_seq <| at_ <| ar (ro_build evP_nil qbz23 qbu23 qbp23 rfl) rfl ?_
    refine ar (ro_move (up_m rfl s12_11)) rfl <| al_stm (st_store (u2 rfl s2_11) (up_m rfl up_h) rfl rfl mo1_7 qsz23 rfl (nle rfl)) trivial rfl (fun m_13 hm_13 => ?_)
    have mo1_13 := m_set hm_13 mo1_7
    simp only [pS, Value.cells, Nat.reduceAdd, tE] at mo1_13
    have mo2_13 := m_set_o hm_13 mo2_7 (by decide)
    have mo0_13 := m_set_o hm_13 mo0_7 (by decide)
    have ml_13 := m_set_l hm_13 ml_7
    clear hm_13 mo2_7 mo1_7 mo0_7
    refine ar (ro_assign (up_n up_h)) rfl <| ae2 (up_m rfl (up_n (u2 rfl s2_11))) up_h ?_; clear s11_11 s12_11 s2_11 s43_11; intro e_14 s2_14 s3_14
    refine then_n <| aw_ret <| then_r <| ret2 (.inr rfl) (by kernel_rfl) (resV_cell s2_14 mo1_13 z10_ty23 (nle rfl) (by simp)) (resV_tmp s3_14) (vw_r (.ro _ rfl)) (.ro _ rfl) ?_
    clear s2_14 s3_14 mo1_13 mo2_13 mo0_13 ml_13
    (first | (have hp : pvE tx.data.toList = firstE [unlessE (numK (cutB tx.data.toList 44) 6) 7, rightE [(numN (cutA tx.data.toList 44), numN (cutB tx.data.toList 44))]] := (by unfold pvE; rw [(by assumption : numK (cutA tx.data.toList 44) 6 = true)]; rfl); (try rw [← hp]); first | exact pv_T (hp.trans (by assumption)) | exact pv_F (fun hz => absurd (hp.symm.trans hz) (by assumption))) | (have hp : pvE tx.data.toList = firstE [unlessE false 7, rightE [(numN (cutA tx.data.toList 44), numN (cutB tx.data.toList 44))]] := (by unfold pvE; rw [(by assumption : numK (cutA tx.data.toList 44) 6 = false)]; rfl); (try rw [← hp]); first | exact pv_T (hp.trans (by assumption)) | exact pv_F (fun hz => absurd (hp.symm.trans hz) (by assumption))))
   replace hq_12 := bnf hq_12
   refine aw_skip <| then_n <| aw_seq <| at_ <| ar (ro_eq (ro_ld_ptr z10_ty23 rfl mo2_7 s11_11 (nle rfl)) (by simp only [pS, Value.cells, Nat.reduceAdd, tE] <;> rfl)) rfl ?_
   refine al_stm (st_store (up_m rfl s2_11) up_h rfl rfl mo1_7 qsz23 rfl (nle rfl)) trivial rfl (fun m_15 hm_15 => ?_)
   have mo1_15 := m_set hm_15 mo1_7
   simp only [pS, Value.cells, Nat.reduceAdd, tE] at mo1_15
   have mo2_15 := m_set_o hm_15 mo2_7 (by decide)
   have mo0_15 := m_set_o hm_15 mo0_7 (by decide)
   have ml_15 := m_set_l hm_15 ml_7
   clear hm_15 mo2_7 mo1_7 mo0_7
   refine ar (ro_assign ev_c) rfl <| ae2 (up_m rfl (up_n (up_m rfl s2_11))) up_h ?_; clear s11_11 s12_11 s2_11 s43_11; intro e_16 s2_16 s3_16
   refine then_n <| aw_ret <| ret2 (.inr rfl) (by kernel_rfl) (resV_cell s2_16 mo1_15 z10_ty23 (nle rfl) (by simp)) (resV_tmp s3_16) (vw_r (.ro _ rfl)) (.ro _ rfl) ?_
   clear s2_16 s3_16 mo1_15 mo2_15 mo0_15 ml_15
   (first | (have hp : pvE tx.data.toList = firstE [unlessE (numK (cutB tx.data.toList 44) 6) 7, rightE [(numN (cutA tx.data.toList 44), numN (cutB tx.data.toList 44))]] := (by unfold pvE; rw [(by assumption : numK (cutA tx.data.toList 44) 6 = true)]; rfl); (try rw [← hp]); first | exact pv_T (hp.trans (by assumption)) | exact pv_F (fun hz => absurd (hp.symm.trans hz) (by assumption))) | (have hp : pvE tx.data.toList = firstE [unlessE false 7, rightE [(numN (cutA tx.data.toList 44), numN (cutB tx.data.toList 44))]] := (by unfold pvE; rw [(by assumption : numK (cutA tx.data.toList 44) 6 = false)]; rfl); (try rw [← hp]); first | exact pv_T (hp.trans (by assumption)) | exact pv_F (fun hz => absurd (hp.symm.trans hz) (by assumption))))
  refine ds_skip' ⟨_, rfl, .inl hb_9⟩ rfl ?_
  refine dr (ro_pickF (up_m rfl hb_9) ev_c) rfl <| dr (ro_call (evL_cons up_h (evL_cons ev_c evL_nil)) rfl (sUnless_ok _ _) qhcf28) rfl <| dr (ro_eq (ro_ld_ptr z10_ty23 rfl mo2_7 (up_m rfl (u4 rfl s11_8)) (nle rfl)) (by simp only [pS, Value.cells, Nat.reduceAdd, tE] <;> rfl)) rfl ?_
  refine dr (ro_lit z10_sl55 (evP_cons up_h evP_nil) rfl rfl rfl rfl) rfl <| dr (ro_call (evL_cons up_h evL_nil) rfl (right_ok [(numN (cutA tx.data.toList 44), numN (cutB tx.data.toList 44))] (by simp)) qhcf29) rfl ?_
  refine dr (ro_lit z10_sl109 (evP_cons (up_m rfl (u2 rfl up_h)) (evP_cons up_h evP_nil)) rfl rfl rfl rfl) rfl <| dr (ro_call (evL_cons up_h evL_nil) rfl (sFirst_ok [_, _] (by simp)) qhcf27) rfl ?_
  refine dr (ro_assign up_h) rfl <| ds_nil <| ae3 (up_m rfl (u2 rfl (u8 rfl s2_8))) (up_m rfl (u2 rfl (u8 rfl s11_8))) up_h ?_; clear hb_9 s10_8 s11_8 s2_8 s8_8; intro e_17 s2_17 s11_17 s12_17
  refine then_n <| aw_seq <| at_ <| ar (ro_move s12_17) rfl <| ar (ro_neq up_h ev_c) rfl <| ae4 (u2 rfl s2_17) (u2 rfl s11_17) (u2 rfl s12_17) up_h ?_; clear s11_17 s12_17 s2_17; intro e_18 s2_18 s11_18 s12_18 s43_18
  refine then_n <| aw_case s43_18 (fun hq_19 => ?_) (fun hq_19 => ?_)
  ·replace hq_19 := bnt hq_19
   refine aw_seq <| at_ <| ar (ro_build evP_nil qbz23 qbu23 qbp23 rfl) rfl ?_
   refine ar (ro_move (up_m rfl s12_18)) rfl <| al_stm (st_store (u2 rfl s2_18) (up_m rfl up_h) rfl rfl mo1_7 qsz23 rfl (nle rfl)) trivial rfl (fun m_20 hm_20 => ?_)
   have mo1_20 := m_set hm_20 mo1_7
   simp only [pS, Value.cells, Nat.reduceAdd, tE] at mo1_20
   have mo2_20 := m_set_o hm_20 mo2_7 (by decide)
   have mo0_20 := m_set_o hm_20 mo0_7 (by decide)
   have ml_20 := m_set_l hm_20 ml_7
   clear hm_20 mo2_7 mo1_7 mo0_7
   refine ar (ro_assign (up_n up_h)) rfl <| ae2 (up_m rfl (up_n (u2 rfl s2_18))) up_h ?_; clear s11_18 s12_18 s2_18 s43_18; intro e_21 s2_21 s3_21
   refine then_n <| aw_ret <| then_r <| ret2 (.inr rfl) (by kernel_rfl) (resV_cell s2_21 mo1_20 z10_ty23 (nle rfl) (by simp)) (resV_tmp s3_21) (vw_r (.ro _ rfl)) (.ro _ rfl) ?_
   clear s2_21 s3_21 mo1_20 mo2_20 mo0_20 ml_20
   (first | (have hp : pvE tx.data.toList = firstE [unlessE (numK (cutB tx.data.toList 44) 6) 7, rightE [(numN (cutA tx.data.toList 44), numN (cutB tx.data.toList 44))]] := (by unfold pvE; rw [(by assumption : numK (cutA tx.data.toList 44) 6 = true)]; rfl); (try rw [← hp]); first | exact pv_T (hp.trans (by assumption)) | exact pv_F (fun hz => absurd (hp.symm.trans hz) (by assumption))) | (have hp : pvE tx.data.toList = firstE [unlessE false 7, rightE [(numN (cutA tx.data.toList 44), numN (cutB tx.data.toList 44))]] := (by unfold pvE; rw [(by assumption : numK (cutA tx.data.toList 44) 6 = false)]; rfl); (try rw [← hp]); first | exact pv_T (hp.trans (by assumption)) | exact pv_F (fun hz => absurd (hp.symm.trans hz) (by assumption))))
  · replace hq_19 := bnf hq_19; cases hq_19
set_option maxRecDepth 100000 in
set_option maxHeartbeats 4000000 in
theorem rVecErr_ok (v : V2) : FnOk Tryd.prog 10 [tA v] (fun q => q = nA (rightE [v])) := by
  refine fnOk_of (fn := Tryd.f10) 13 (by kernel_rfl) rfl (by kernel_rfl) (Nat.le_of_ble_eq_true rfl) ?_
  intro e_0 m_0 hA hm_0
  have s0_0 : evA e_0 (.tmp 0) = _ := hA 0 _ rfl
  have ml_0 : m_0.length = 0 := by rw [hm_0]; rfl
  clear hA hm_0
  refine aw_seq <| at_ <| al_stm (st_box s0_0 rfl ml_0) trivial rfl (fun m_1 hm_1 => ?_)
  have mo0_1 := m_push hm_1 ml_0
  have ml_1 := m_push_l hm_1 ml_0
  have ml_1 : _ = 1 := ml_1
  clear hm_1
  refine ar (ro_assign ev_c) rfl <| ae1 (up_m rfl up_h) ?_; clear s0_0; intro e_2 s1_2
  refine then_n <| aw_seq <| aw_seq <| at_ <| ar (ro_fld_ptr qfl23_0 rfl s1_2) rfl <| ar (ro_eq (ro_ld_ptr z10_ty3 rfl mo0_1 up_h (nle rfl)) (by simp only [pS, Value.cells, Nat.reduceAdd] <;> rfl)) rfl ?_
  refine ar (ro_call (evL_cons up_h (evL_cons ev_c evL_nil)) rfl (rSize_ok _ _ (by omega)) z10_hcf33) rfl ?_
  refine ar (ro_not up_h) rfl <| ar (ro_move up_h) rfl <| al_case up_h (fun hb_3 hq_3 => ?_) (fun hb_3 hq_3 => ?_)
  ·replace hq_3 := bt' hq_3
   refine al_skip' ⟨_, rfl, .inl hb_3⟩ rfl ?_
   refine al_skip' ⟨_, rfl, .inl (up_m rfl hb_3)⟩ rfl ?_
   refine al_skip' ⟨_, rfl, .inl (u2 rfl hb_3)⟩ rfl ?_
   refine al_skip' ⟨_, rfl, .inl (up_m rfl (u2 rfl hb_3))⟩ rfl ?_
   refine ar (ro_pickT (u4 rfl hb_3) ev_c) rfl <| ae1 up_h ?_; clear hb_3 s1_2; intro e_4 s12_4
   refine then_n <| aw_true s12_4 <| aw_seq <| at_ <| ar (ro_assign ev_c) rfl <| ae1 up_h ?_; clear s12_4; intro e_6 s2_6
   refine then_n <| aw_ret <| then_r <| ret1 (.inr rfl) (by kernel_rfl) (resV_tmp s2_6) (.ro _ rfl) ?_
   clear s2_6 mo0_1 ml_1
   (unfold rightE unlessE; simp_all [badV])
  replace hq_3 := bf' hq_3
  refine al_ro' (ro_fld_ptr qfl23_1 rfl (up_m rfl (u4 rfl s1_2))) ⟨_, rfl, hb_3⟩ rfl ?_
  refine al_ro' (ro_eq (ro_ld_ptr z10_ty3 rfl mo0_1 up_h (nle rfl)) (by simp only [pS, Value.cells, Nat.reduceAdd] <;> rfl)) ⟨_, rfl, (up_m rfl hb_3)⟩ rfl ?_
  refine al_ro' (ro_call (evL_cons up_h (evL_cons ev_c evL_nil)) rfl (rSize_ok _ _ (by omega)) z10_hcf33) ⟨_, rfl, (u2 rfl hb_3)⟩ rfl ?_
  refine al_ro' (ro_not up_h) ⟨_, rfl, (up_m rfl (u2 rfl hb_3))⟩ rfl ?_
  refine ar (ro_pickF (u4 rfl hb_3) up_h) rfl <| ae1 up_h ?_; clear hb_3 s1_2; intro e_7 s12_7
  refine then_n <| aw_case s12_7 (fun hq_8 => ?_) (fun hq_8 => ?_)
  ·replace hq_8 := bt' hq_8
   refine aw_seq <| at_ <| ar (ro_assign ev_c) rfl <| ae1 up_h ?_; clear s12_7; intro e_9 s2_9
   refine then_n <| aw_ret <| then_r <| ret1 (.inr rfl) (by kernel_rfl) (resV_tmp s2_9) (.ro _ rfl) ?_
   clear s2_9 mo0_1 ml_1
   (unfold rightE unlessE; simp_all [badV])
  replace hq_8 := bf' hq_8
  refine aw_skip <| then_n <| aw_seq <| at_ <| ar (ro_assign ev_c) rfl <| ae1 up_h ?_; clear s12_7; intro e_10 s2_10
  refine then_n <| aw_ret <| ret1 (.inr rfl) (by kernel_rfl) (resV_tmp s2_10) (.ro _ rfl) ?_
  clear s2_10 mo0_1 ml_1
  (unfold rightE unlessE; simp_all [badV])
end Go.Proofs.YtfmjmngkgmlghaaDoor

/- The law of chapter 3 on texts of vectors. No conditions on a program. -/
namespace Go.Proofs.YtfmjmngkgmlghaaDoor
open Go Go.RowKit Go.Proofs Go.Lib
set_option linter.unusedSimpArgs false
set_option linter.unusedVariables false
theorem z11_hcf30 : ∀ args w, (callFunc 30 args).run Tryd.prog w = .ok (.enter 30 args) w := fun _ _ => by kernel_rfl
theorem z11_hcf31 : ∀ args w, (callFunc 31 args).run Tryd.prog w = .ok (.enter 31 args) w := fun _ _ => by kernel_rfl
theorem z11_sl72 : SlIs Tryd.prog 72 9 1 16 (.string ByteArray.empty) := ⟨by kernel_rfl, by kernel_rfl, by kernel_rfl⟩
theorem z11_ty23 : TyIs Tryd.prog 23 true 2 := ⟨by kernel_rfl, by kernel_rfl⟩
theorem z11_ty9 : TyIs Tryd.prog 9 false 1 := ⟨by kernel_rfl, by kernel_rfl⟩

theorem pvE_bad {l : List UInt8} (h : (numK (cutA l 44) 6 && numK (cutB l 44) 6) = false) : pvE l = 7 := by
  unfold pvE; rw [h]; rfl
theorem pvE_ok {l : List UInt8} (h1 : numK (cutA l 44) 6 = true) (h2 : numK (cutB l 44) 6 = true) : pvE l = rightE [(numN (cutA l 44), numN (cutB l 44))] := by
  unfold pvE; rw [h1, h2]
  show firstE [0, _] = _
  unfold firstE firstE
  split
  · split
    · rename_i h; simp [firstE, h]
    · rfl
  · rename_i h; exact absurd rfl h
theorem pv_bad {l : List UInt8} (h : (numK (cutA l 44) 6 && numK (cutB l 44) 6) = false) : AV.tuple [.agg [iA 0, iA 0], iA 7] = .tuple [tA (pvV l).1, iA (pvV l).2] := by
  have he := pvE_bad h
  have := pv_F (l := l) (by rw [he]; decide)
  rw [he] at this; exact this
theorem numR_yes {l : List UInt8} {D : Nat} (h : numK l D = true) : numR l D = numN l := by unfold numR; rw [if_pos h]
set_option maxRecDepth 100000 in
set_option maxHeartbeats 4000000 in
theorem rParseVec_ok (tx : ByteArray) (hl : tx.size ≤ 100000) : FnOk Tryd.prog 8 [.v (.string tx)] (fun q => q = .tuple [tA (pvV tx.data.toList).1, iA (pvV tx.data.toList).2]) := by
  have hsz := size_eq tx
  have l1 := cutA_len tx.data.toList 44
  have l2 := cutB_len tx.data.toList 44
  have hno := pcs_no (tx := tx) (c := 44) (by decide) 6
  refine fnOk_of (fn := Tryd.f8) 48 (by kernel_rfl) rfl (by kernel_rfl) (Nat.le_of_ble_eq_true rfl) ?_
  intro e_0 m_0 hA hm_0
  have s0_0 : evA e_0 (.tmp 0) = _ := hA 0 _ rfl
  have ml_0 : m_0.length = 0 := by rw [hm_0]; rfl
  clear hA hm_0
  refine aw_seq <| at_ <| al_stm (st_alloc qaz23 rfl ml_0) trivial rfl (fun m_1 hm_1 => ?_)
  have mo0_1 := m_push hm_1 ml_0
  simp only [pS, Value.cells, Nat.reduceAdd, tE] at mo0_1
  have ml_1 := m_push_l hm_1 ml_0
  have ml_1 : _ = 1 := ml_1
  clear hm_1
  refine ar (ro_assign ev_c) rfl <| ae2 (u2 rfl s0_0) (up_m rfl up_h) ?_; clear s0_0; intro e_2 s0_2 s2_2
  refine then_n <| aw_seq <| at_ <| ar (ro_move s0_2) rfl <| ar (ro_call (evL_cons up_h (evL_cons ev_c evL_nil)) rfl (bCut_ok tx 44 (by omega)) z11_hcf30) rfl ?_
  refine ar (ro_assign up_h) rfl <| ae2 (up_m rfl (u2 rfl s2_2)) up_h ?_; clear s0_2 s2_2; intro e_3 s2_3 s4_3
  refine then_n <| aw_seq <| aw_seq <| at_ <| ar (ro_move s4_3) rfl <| ar (ro_eq (ro_len_row up_h rfl z11_sl72.1) (by simp only [lnS] <;> rfl)) rfl ?_
  refine ar (ro_neq up_h ev_c) rfl <| ae3 (up_m rfl (u2 rfl s2_3)) (up_m rfl (u2 rfl s4_3)) up_h ?_; clear s2_3 s4_3; intro e_4 s2_4 s4_4 s15_4
  refine then_n <| aw_case s15_4 (fun hq_5 => ?_) (fun hq_5 => ?_)
  ·replace hq_5 := bnt hq_5
   refine aw_seq <| at_ <| ar (ro_build evP_nil qbz23 qbu23 qbp23 rfl) rfl ?_
   refine al_stm (st_store (up_m rfl s2_4) up_h rfl rfl mo0_1 qsz23 rfl (nle rfl)) trivial rfl (fun m_6 hm_6 => ?_)
   have mo0_6 := m_set hm_6 mo0_1
   simp only [pS, Value.cells, Nat.reduceAdd, tE] at mo0_6
   have ml_6 := m_set_l hm_6 ml_1
   clear hm_6 mo0_1
   refine ar (ro_assign ev_c) rfl <| ae2 (up_m rfl (up_n (up_m rfl s2_4))) up_h ?_; clear s15_4 s2_4 s4_4; intro e_7 s2_7 s3_7
   refine then_n <| aw_ret <| then_r <| ret2 (.inr rfl) (by kernel_rfl) (resV_cell s2_7 mo0_6 z11_ty23 (nle rfl) (by simp)) (resV_tmp s3_7) (vw_r (.ro _ rfl)) (.ro _ rfl) ?_
   clear s2_7 s3_7 mo0_6 ml_6
   (first | exact pv_bad (by rw [hno (by omega), Bool.and_false]) | exact pv_bad (by rw [(by assumption : numK (cutA tx.data.toList 44) 6 = false)]; rfl) | exact pv_bad (by rw [(by assumption : numK (cutB tx.data.toList 44) 6 = false), Bool.and_false]) | (have k1 : numK (cutA tx.data.toList 44) 6 = true := (by assumption); have k2 : numK (cutB tx.data.toList 44) 6 = true := (by assumption); have he := pvE_ok k1 k2; rw [numR_yes k1, numR_yes k2] at *; (try rw [← he]); first | exact pv_T (he.trans (by assumption)) | exact pv_F (fun hz => absurd (he.symm.trans hz) (by assumption))))
  replace hq_5 := bnf hq_5
  (have hp := pcs_yes (tx := tx) (c := 44) (by omega); have w0 : (pcs tx 44).getD (Int.toNat 0) default = bs (cutA tx.data.toList 44) := (by rw [hp]; rfl); have w1 : (pcs tx 44).getD (Int.toNat 1) default = bs (cutB tx.data.toList 44) := (by rw [hp]; rfl))
  refine aw_skip <| then_n <| aw_seq <| at_ <| ar (ro_move s4_4) rfl <| ar (ro_eq (ro_ix z11_sl72 up_h ev_c (by decide) (by refine idx_map ?_; first | omega | (simp only [lnS]; omega))) (by simp only [pS, Value.cells, Nat.reduceAdd, tE] <;> rfl)) rfl ?_
  refine ar (ro_eq (ro_ld_ref z11_ty9 rfl up_h (nle rfl)) (by simp only [pS, Value.cells, Nat.reduceAdd, tE] <;> rfl)) rfl ?_
  refine ar (ro_call (evL_cons up_h (evL_cons ev_c evL_nil)) rfl ((number_ok ((pcs tx 44).getD (Int.toNat 0) default) 6 (by decide) (by rw [w0, bs_list]; omega)).mono (fun q h => show q = .tuple [.v (.int .i64 (numR (cutA tx.data.toList 44) 6)), .v (.bool (numK (cutA tx.data.toList 44) 6))] from h.trans (by rw [w0]; rfl))) z11_hcf31) rfl ?_
  refine ar (ro_move up_h) rfl <| ar (ro_extract up_h rfl) rfl <| ar (ro_extract (up_m rfl up_h) rfl) rfl <| ar (ro_assign (up_m rfl up_h)) rfl <| ar (ro_assign (up_m rfl up_h)) rfl <| ae4 (up_m rfl (u8 rfl s2_4)) (up_m rfl (u8 rfl s4_4)) (up_m rfl up_h) up_h ?_; clear s15_4 s2_4 s4_4; intro e_8 s2_8 s4_8 s5_8 s6_8
  refine then_n <| aw_seq <| at_ <| ar (ro_move s4_8) rfl <| ar (ro_eq (ro_ix z11_sl72 up_h ev_c (by decide) (by refine idx_map ?_; first | omega | (simp only [lnS]; omega))) (by simp only [pS, Value.cells, Nat.reduceAdd, tE] <;> rfl)) rfl ?_
  refine ar (ro_eq (ro_ld_ref z11_ty9 rfl up_h (nle rfl)) (by simp only [pS, Value.cells, Nat.reduceAdd, tE] <;> rfl)) rfl ?_
  refine ar (ro_call (evL_cons up_h (evL_cons ev_c evL_nil)) rfl ((number_ok ((pcs tx 44).getD (Int.toNat 1) default) 6 (by decide) (by rw [w1, bs_list]; omega)).mono (fun q h => show q = .tuple [.v (.int .i64 (numR (cutB tx.data.toList 44) 6)), .v (.bool (numK (cutB tx.data.toList 44) 6))] from h.trans (by rw [w1]; rfl))) z11_hcf31) rfl ?_
  refine ar (ro_move up_h) rfl <| ar (ro_extract up_h rfl) rfl <| ar (ro_extract (up_m rfl up_h) rfl) rfl <| ar (ro_assign (up_m rfl up_h)) rfl <| ar (ro_assign (up_m rfl up_h)) rfl <| ae5 (up_m rfl (u8 rfl s2_8)) (up_m rfl (u8 rfl s5_8)) (up_m rfl (u8 rfl s6_8)) (up_m rfl up_h) up_h ?_; clear s2_8 s4_8 s5_8 s6_8; intro e_9 s2_9 s5_9 s6_9 s7_9 s8_9
  refine then_n <| aw_seq <| at_ <| ar (ro_move s5_9) rfl <| ar (ro_move (up_m rfl s7_9)) rfl <| ar (ro_build (evP_cons (up_m rfl up_h) (evP_cons up_h evP_nil)) qbz23 qbu23 qbp23 rfl) rfl ?_
  refine al_stm (st_alloc qaz23 rfl ml_1) trivial rfl (fun m_10 hm_10 => ?_)
  have mo1_10 := m_push hm_10 ml_1
  simp only [pS, Value.cells, Nat.reduceAdd, tE] at mo1_10
  have mo0_10 := m_push_o hm_10 mo0_1
  have ml_10 := m_push_l hm_10 ml_1
  have ml_10 : _ = 2 := ml_10
  clear hm_10 mo0_1
  refine al_stm (st_store up_h (up_m rfl up_h) rfl rfl mo1_10 qsz23 rfl (nle rfl)) trivial rfl (fun m_11 hm_11 => ?_)
  have mo1_11 := m_set hm_11 mo1_10
  simp only [pS, Value.cells, Nat.reduceAdd, tE] at mo1_11
  have mo0_11 := m_set_o hm_11 mo0_10 (by decide)
  have ml_11 := m_set_l hm_11 ml_10
  clear hm_11 mo1_10 mo0_10
  refine ae4 (up_n (u4 rfl s2_9)) (up_n (u4 rfl s6_9)) (up_n (u4 rfl s8_9)) (up_n up_h) ?_; clear s2_9 s5_9 s6_9 s7_9 s8_9; intro e_12 s2_12 s6_12 s8_12 s9_12
  refine then_n <| aw_seq <| aw_seq <| at_ <| ar (ro_move s6_12) rfl <| ar (ro_not up_h) rfl <| ar (ro_move up_h) rfl <| al_case up_h (fun hb_13 hq_13 => ?_) (fun hb_13 hq_13 => ?_)
  ·replace hq_13 := bt' hq_13
   refine al_skip' ⟨_, rfl, .inl hb_13⟩ rfl ?_
   refine al_skip' ⟨_, rfl, .inl (up_m rfl hb_13)⟩ rfl ?_
   refine ar (ro_pickT (u2 rfl hb_13) ev_c) rfl <| ae3 (u2 rfl (u4 rfl s2_12)) (u2 rfl (u4 rfl s9_12)) up_h ?_; clear hb_13 s2_12 s6_12 s8_12 s9_12; intro e_14 s2_14 s9_14 s39_14
   refine then_n <| aw_true s39_14 <| aw_seq <| at_ <| ar (ro_build evP_nil qbz23 qbu23 qbp23 rfl) rfl ?_
   refine al_stm (st_store (up_m rfl s2_14) up_h rfl rfl mo0_11 qsz23 rfl (nle rfl)) trivial rfl (fun m_16 hm_16 => ?_)
   have mo0_16 := m_set hm_16 mo0_11
   simp only [pS, Value.cells, Nat.reduceAdd, tE] at mo0_16
   have mo1_16 := m_set_o hm_16 mo1_11 (by decide)
   have ml_16 := m_set_l hm_16 ml_11
   clear hm_16 mo1_11 mo0_11
   refine ar (ro_assign ev_c) rfl <| ae2 (up_m rfl (up_n (up_m rfl s2_14))) up_h ?_; clear s2_14 s39_14 s9_14; intro e_17 s2_17 s3_17
   refine then_n <| aw_ret <| then_r <| ret2 (.inr rfl) (by kernel_rfl) (resV_cell s2_17 mo0_16 z11_ty23 (nle rfl) (by simp)) (resV_tmp s3_17) (vw_r (.ro _ rfl)) (.ro _ rfl) ?_
   clear s2_17 s3_17 mo0_16 mo1_16 ml_16
   (first | exact pv_bad (by rw [hno (by omega), Bool.and_false]) | exact pv_bad (by rw [(by assumption : numK (cutA tx.data.toList 44) 6 = false)]; rfl) | exact pv_bad (by rw [(by assumption : numK (cutB tx.data.toList 44) 6 = false), Bool.and_false]) | (have k1 : numK (cutA tx.data.toList 44) 6 = true := (by assumption); have k2 : numK (cutB tx.data.toList 44) 6 = true := (by assumption); have he := pvE_ok k1 k2; rw [numR_yes k1, numR_yes k2] at *; (try rw [← he]); first | exact pv_T (he.trans (by assumption)) | exact pv_F (fun hz => absurd (he.symm.trans hz) (by assumption))))
  replace hq_13 := bf' hq_13
  refine al_ro' (ro_move (up_m rfl (u2 rfl s8_12))) ⟨_, rfl, hb_13⟩ rfl ?_
  refine al_ro' (ro_not up_h) ⟨_, rfl, (up_m rfl hb_13)⟩ rfl ?_
  refine ar (ro_pickF (u2 rfl hb_13) up_h) rfl <| ae3 (u2 rfl (u4 rfl s2_12)) (u2 rfl (u4 rfl s9_12)) up_h ?_; clear hb_13 s2_12 s6_12 s8_12 s9_12; intro e_18 s2_18 s9_18 s39_18
  refine then_n <| aw_case s39_18 (fun hq_19 => ?_) (fun hq_19 => ?_)
  ·replace hq_19 := bt' hq_19
   refine aw_seq <| at_ <| ar (ro_build evP_nil qbz23 qbu23 qbp23 rfl) rfl ?_
   refine al_stm (st_store (up_m rfl s2_18) up_h rfl rfl mo0_11 qsz23 rfl (nle rfl)) trivial rfl (fun m_20 hm_20 => ?_)
   have mo0_20 := m_set hm_20 mo0_11
   simp only [pS, Value.cells, Nat.reduceAdd, tE] at mo0_20
   have mo1_20 := m_set_o hm_20 mo1_11 (by decide)
   have ml_20 := m_set_l hm_20 ml_11
   clear hm_20 mo1_11 mo0_11
   refine ar (ro_assign ev_c) rfl <| ae2 (up_m rfl (up_n (up_m rfl s2_18))) up_h ?_; clear s2_18 s39_18 s9_18; intro e_21 s2_21 s3_21
   refine then_n <| aw_ret <| then_r <| ret2 (.inr rfl) (by kernel_rfl) (resV_cell s2_21 mo0_20 z11_ty23 (nle rfl) (by simp)) (resV_tmp s3_21) (vw_r (.ro _ rfl)) (.ro _ rfl) ?_
   clear s2_21 s3_21 mo0_20 mo1_20 ml_20
   (first | exact pv_bad (by rw [hno (by omega), Bool.and_false]) | exact pv_bad (by rw [(by assumption : numK (cutA tx.data.toList 44) 6 = false)]; rfl) | exact pv_bad (by rw [(by assumption : numK (cutB tx.data.toList 44) 6 = false), Bool.and_false]) | (have k1 : numK (cutA tx.data.toList 44) 6 = true := (by assumption); have k2 : numK (cutB tx.data.toList 44) 6 = true := (by assumption); have he := pvE_ok k1 k2; rw [numR_yes k1, numR_yes k2] at *; (try rw [← he]); first | exact pv_T (he.trans (by assumption)) | exact pv_F (fun hz => absurd (he.symm.trans hz) (by assumption))))
  replace hq_19 := bf' hq_19
  refine aw_skip <| then_n <| aw_seq <| aw_seq <| at_ <| ar (ro_eq (ro_ld_ptr z11_ty23 rfl mo1_11 s9_18 (nle rfl)) (by simp only [pS, Value.cells, Nat.reduceAdd, tE] <;> rfl)) rfl ?_
  refine ar (ro_call (evL_cons up_h evL_nil) rfl (rVecErr_ok (numR (cutA tx.data.toList 44) 6, numR (cutB tx.data.toList 44) 6)) qhcf10) rfl <| ar (ro_assign up_h) rfl <| ae3 (up_m rfl (u2 rfl s2_18)) (up_m rfl (u2 rfl s9_18)) up_h ?_; clear s2_18 s39_18 s9_18; intro e_22 s2_22 s9_22 s10_22
  refine then_n <| aw_seq <| at_ <| ar (ro_move s10_22) rfl <| ar (ro_neq up_h ev_c) rfl <| ae4 (u2 rfl s2_22) (u2 rfl s9_22) (u2 rfl s10_22) up_h ?_; clear s10_22 s2_22 s9_22; intro e_23 s2_23 s9_23 s10_23 s44_23
  refine then_n <| aw_case s44_23 (fun hq_24 => ?_) (fun hq_24 => ?_)
  ·replace hq_24 := bnt hq_24
   refine aw_seq <| at_ <| ar (ro_build evP_nil qbz23 qbu23 qbp23 rfl) rfl ?_
   refine ar (ro_move (up_m rfl s10_23)) rfl <| al_stm (st_store (u2 rfl s2_23) (up_m rfl up_h) rfl rfl mo0_11 qsz23 rfl (nle rfl)) trivial rfl (fun m_25 hm_25 => ?_)
   have mo0_25 := m_set hm_25 mo0_11
   simp only [pS, Value.cells, Nat.reduceAdd, tE] at mo0_25
   have mo1_25 := m_set_o hm_25 mo1_11 (by decide)
   have ml_25 := m_set_l hm_25 ml_11
   clear hm_25 mo1_11 mo0_11
   refine ar (ro_assign (up_n up_h)) rfl <| ae2 (up_m rfl (up_n (u2 rfl s2_23))) up_h ?_; clear s10_23 s2_23 s44_23 s9_23; intro e_26 s2_26 s3_26
   refine then_n <| aw_ret <| then_r <| ret2 (.inr rfl) (by kernel_rfl) (resV_cell s2_26 mo0_25 z11_ty23 (nle rfl) (by simp)) (resV_tmp s3_26) (vw_r (.ro _ rfl)) (.ro _ rfl) ?_
   clear s2_26 s3_26 mo0_25 mo1_25 ml_25
   (first | exact pv_bad (by rw [hno (by omega), Bool.and_false]) | exact pv_bad (by rw [(by assumption : numK (cutA tx.data.toList 44) 6 = false)]; rfl) | exact pv_bad (by rw [(by assumption : numK (cutB tx.data.toList 44) 6 = false), Bool.and_false]) | (have k1 : numK (cutA tx.data.toList 44) 6 = true := (by assumption); have k2 : numK (cutB tx.data.toList 44) 6 = true := (by assumption); have he := pvE_ok k1 k2; rw [numR_yes k1, numR_yes k2] at *; (try rw [← he]); first | exact pv_T (he.trans (by assumption)) | exact pv_F (fun hz => absurd (he.symm.trans hz) (by assumption))))
  replace hq_24 := bnf hq_24
  refine aw_skip <| then_n <| aw_seq <| at_ <| ar (ro_eq (ro_ld_ptr z11_ty23 rfl mo1_11 s9_23 (nle rfl)) (by simp only [pS, Value.cells, Nat.reduceAdd, tE] <;> rfl)) rfl ?_
  refine al_stm (st_store (up_m rfl s2_23) up_h rfl rfl mo0_11 qsz23 rfl (nle rfl)) trivial rfl (fun m_27 hm_27 => ?_)
  have mo0_27 := m_set hm_27 mo0_11
  simp only [pS, Value.cells, Nat.reduceAdd, tE] at mo0_27
  have mo1_27 := m_set_o hm_27 mo1_11 (by decide)
  have ml_27 := m_set_l hm_27 ml_11
  clear hm_27 mo1_11 mo0_11
  refine ar (ro_assign ev_c) rfl <| ae2 (up_m rfl (up_n (up_m rfl s2_23))) up_h ?_; clear s10_23 s2_23 s44_23 s9_23; intro e_28 s2_28 s3_28
  refine then_n <| aw_ret <| ret2 (.inr rfl) (by kernel_rfl) (resV_cell s2_28 mo0_27 z11_ty23 (nle rfl) (by simp)) (resV_tmp s3_28) (vw_r (.ro _ rfl)) (.ro _ rfl) ?_
  clear s2_28 s3_28 mo0_27 mo1_27 ml_27
  (first | exact pv_bad (by rw [hno (by omega), Bool.and_false]) | exact pv_bad (by rw [(by assumption : numK (cutA tx.data.toList 44) 6 = false)]; rfl) | exact pv_bad (by rw [(by assumption : numK (cutB tx.data.toList 44) 6 = false), Bool.and_false]) | (have k1 : numK (cutA tx.data.toList 44) 6 = true := (by assumption); have k2 : numK (cutB tx.data.toList 44) 6 = true := (by assumption); have he := pvE_ok k1 k2; rw [numR_yes k1, numR_yes k2] at *; (try rw [← he]); first | exact pv_T (he.trans (by assumption)) | exact pv_F (fun hz => absurd (he.symm.trans hz) (by assumption))))
theorem rightV_bd {v : V2} (h : rightE [v] = 0) : (-100000 ≤ v.1 ∧ v.1 ≤ 100000) ∧ -100000 ≤ v.2 ∧ v.2 ≤ 100000 := by
  unfold rightE unlessE at h
  split at h
  · rename_i hb
    simp [badV, smallB, withinB] at hb
    omega
  · cases h
theorem pv_back {v : V2} (h : rightE [v] = 0) : pvV (fmtR v.1 v.2 44).data.toList = (v, 0) := by
  obtain ⟨h1, h2⟩ := rightV_bd h
  have e : (10 : Nat) ^ 6 = 1000000 := by decide
  obtain ⟨ka, na⟩ := num_back (v := v.1) (D := 6) (by decide) (dec_len_le 6 _ (by decide) (by omega))
  obtain ⟨kb, nb⟩ := num_back (v := v.2) (D := 6) (by decide) (dec_len_le 6 _ (by decide) (by omega))
  obtain ⟨c1, c2⟩ := cut_fmt (a := v.1) (b := v.2) (c := 44) (by decide) ka
  have he := pvE_ok (l := (fmtR v.1 v.2 44).data.toList) (by rw [c1]; exact ka) (by rw [c2]; exact kb)
  rw [c1, c2, na, nb] at he
  unfold pvV
  rw [if_pos (he.trans h), c1, c2, na, nb]
end Go.Proofs.YtfmjmngkgmlghaaDoor

/- The law of chapter 3 on texts of vectors: the walk. No conditions on a program. -/
namespace Go.Proofs.YtfmjmngkgmlghaaDoor
open Go Go.RowKit Go.Proofs Go.Lib
set_option linter.unusedSimpArgs false
set_option linter.unusedVariables false
theorem z12_hcf5 : ∀ args w, (callFunc 5 args).run Tryd.prog w = .ok (.enter 5 args) w := fun _ _ => by kernel_rfl
theorem z12_hcf6 : ∀ args w, (callFunc 6 args).run Tryd.prog w = .ok (.enter 6 args) w := fun _ _ => by kernel_rfl
theorem z12_hcf7 : ∀ args w, (callFunc 7 args).run Tryd.prog w = .ok (.enter 7 args) w := fun _ _ => by kernel_rfl
theorem z12_hcf8 : ∀ args w, (callFunc 8 args).run Tryd.prog w = .ok (.enter 8 args) w := fun _ _ => by kernel_rfl
theorem z12_hcf9 : ∀ args w, (callFunc 9 args).run Tryd.prog w = .ok (.enter 9 args) w := fun _ _ => by kernel_rfl
theorem z12_sq23 {a0 b0 : Int} {a1 b1 : Int} : EqV Tryd.prog 2 23 (.agg #[.int .i64 a0, .int .i64 a1]) (.agg #[.int .i64 b0, .int .i64 b1]) (decide (a0 = b0) && (decide (a1 = b1) && true)) := (eqs_struct [(3, 0), (3, 1)] (by kernel_rfl) (by kernel_rfl) (by kernel_rfl) (by kernel_rfl) (.cons (fun _ => by kernel_rfl) (fun _ => by kernel_rfl) (eqv_int (k := .i64) (k' := .i64) (by kernel_rfl) a0 b0) (.cons (fun _ => by kernel_rfl) (fun _ => by kernel_rfl) (eqv_int (k := .i64) (k' := .i64) (by kernel_rfl) a1 b1) .nil)))
theorem z12_ty23 : TyIs Tryd.prog 23 true 2 := ⟨by kernel_rfl, by kernel_rfl⟩

theorem gX_in (es er : Value) : ∀ x ∈ gX es er, x ∈ gX es er ++ gT := fun x hx => List.mem_append_left _ hx
theorem gT_in (es er : Value) : ∀ x ∈ gT, x ∈ gX es er ++ gT := fun x hx => List.mem_append_right _ hx
set_option maxRecDepth 100000 in
set_option maxHeartbeats 4000000 in
theorem statorTexts_ok (es er : Value) (hes : isE es) (her : isE er) (v : V2) (tx : ByteArray) (hp : In64 v.1) (hq : In64 v.2) :
    FnOkG Tryd.prog (gX es er ++ gT) 3 [tA v, .v (.string tx)] (fun q => q = oA true) := by
  have f1 := itoa_len hp
  have f2 := itoa_len hq
  have f3 : (fmtR v.1 v.2 44).size = (itoa v.1).length + 1 + (itoa v.2).length := by unfold fmtR; rw [bs_size]; simp; omega
  refine fnOkG_of (fn := Tryd.f3) (gX es er ++ gT) 60 (by kernel_rfl) rfl (by kernel_rfl) (Nat.le_of_ble_eq_true rfl) ?_
  intro e_0 m_0 hA hm_0
  have s0_0 : evA e_0 (.tmp 0) = _ := hA 0 _ rfl
  have s1_0 : evA e_0 (.tmp 1) = _ := hA 1 _ rfl
  have ml_0 : m_0.length = 1 := by rw [hm_0]; rfl
  have mo0_0 : m_0[0]? = some (.glob (gX es er ++ gT)) := by rw [hm_0]; rfl
  clear hA hm_0
  refine aw_seq <| at_ <| al_stm (st_box s0_0 rfl ml_0) trivial rfl (fun m_1 hm_1 => ?_)
  have mo1_1 := m_push hm_1 ml_0
  have mo0_1 := m_push_o hm_1 mo0_0
  have ml_1 := m_push_l hm_1 ml_0
  have ml_1 : _ = 2 := ml_1
  clear hm_1 mo0_0
  refine ar (ro_assign ev_c) rfl <| ae2 (u2 rfl s1_0) (up_m rfl up_h) ?_; clear s0_0 s1_0; intro e_2 s1_2 s2_2
  refine then_n <| aw_seq <| aw_seq <| at_ <| ar (ro_callG evL_nil rfl mo0_1 (sAwake_ok.wide (gT_in es er)) z12_hcf5) rfl <| ar (ro_not up_h) rfl <| ae3 (u2 rfl s1_2) (u2 rfl s2_2) up_h ?_; clear s1_2 s2_2; intro e_3 s1_3 s2_3 s13_3
  refine then_n <| aw_case s13_3 (fun hq_4 => ?_) (fun hq_4 => ?_)
  · replace hq_4 := bt' hq_4; cases hq_4
  replace hq_4 := bf' hq_4
  refine aw_skip <| then_n <| aw_seq <| aw_seq <| at_ <| ar (ro_move s1_3) rfl <| ar (ro_len_str up_h rfl qun9) rfl <| ar (ro_gtr up_h ev_c) rfl <| ae3 (up_m rfl (u2 rfl s1_3)) (up_m rfl (u2 rfl s2_3)) up_h ?_; clear s13_3 s1_3 s2_3; intro e_6 s1_6 s2_6 s16_6
  refine then_n <| aw_case s16_6 (fun hq_7 => ?_) (fun hq_7 => ?_)
  ·replace hq_7 := bt hq_7
   refine aw_seq <| at_ <| ar (ro_assign ev_c) rfl <| ae1 up_h ?_; clear s16_6 s1_6 s2_6; intro e_8 s4_8
   refine then_n <| aw_ret <| then_r <| ret1 (.inr rfl) (by kernel_rfl) (resV_tmp s4_8) (.ro _ rfl) ?_
   clear s4_8 mo1_1 mo0_1 ml_1
   (first | rfl | (exfalso; omega) | (simp; done) | (exfalso; simp_all; done) | (have hb := pv_back (v := v) (by assumption); first | (rw [hb]; simp; done) | (exfalso; rw [hb] at *; simp_all; done) | (simp_all; done)))
  replace hq_7 := bf hq_7
  refine aw_skip <| then_n <| aw_seq <| at_ <| ar (ro_eq (ro_ld_ptr z12_ty23 rfl mo1_1 s2_6 (nle rfl)) (by simp only [pS, Value.cells, Nat.reduceAdd] <;> rfl)) rfl ?_
  refine ar (ro_callG (evL_cons up_h evL_nil) rfl mo0_1 ((formatVec_ok es er v hp hq).wide (gX_in es er)) z12_hcf6) rfl <| ar (ro_assign up_h) rfl <| ae3 (up_m rfl (u2 rfl s1_6)) (up_m rfl (u2 rfl s2_6)) up_h ?_; clear s16_6 s1_6 s2_6; intro e_9 s1_9 s2_9 s5_9
  refine then_n <| aw_seq <| at_ <| ar (ro_move s1_9) rfl <| ar (ro_callG (evL_cons up_h evL_nil) rfl mo0_1 ((parseVec_ok es er hes her tx (by omega)).wide (gX_in es er)) z12_hcf7) rfl ?_
  refine ar (ro_move up_h) rfl <| ar (ro_extract up_h rfl) rfl <| ar (ro_extract (up_m rfl up_h) rfl) rfl <| al_stm (st_alloc qaz23 rfl ml_1) trivial rfl (fun m_10 hm_10 => ?_)
  have mo2_10 := m_push hm_10 ml_1
  simp only [pS, Value.cells, Nat.reduceAdd] at mo2_10
  have mo1_10 := m_push_o hm_10 mo1_1
  have mo0_10 := m_push_o hm_10 mo0_1
  have ml_10 := m_push_l hm_10 ml_1
  have ml_10 : _ = 3 := ml_10
  clear hm_10 mo1_1 mo0_1
  refine al_stm (st_store up_h (u2 rfl up_h) rfl rfl mo2_10 qsz23 rfl (nle rfl)) trivial rfl (fun m_11 hm_11 => ?_)
  have mo2_11 := m_set hm_11 mo2_10
  simp only [pS, Value.cells, Nat.reduceAdd] at mo2_11
  have mo1_11 := m_set_o hm_11 mo1_10 (by decide)
  have mo0_11 := m_set_o hm_11 mo0_10 (by decide)
  have ml_11 := m_set_l hm_11 ml_10
  clear hm_11 mo2_10 mo1_10 mo0_10
  refine ar (ro_assign (up_n (up_m rfl up_h))) rfl <| ae5 (up_m rfl (up_n (u2 rfl (u4 rfl s1_9)))) (up_m rfl (up_n (u2 rfl (u4 rfl s2_9)))) (up_m rfl (up_n (u2 rfl (u4 rfl s5_9)))) (up_m rfl (up_n up_h)) up_h ?_; clear s1_9 s2_9 s5_9; intro e_12 s1_12 s2_12 s5_12 s6_12 s7_12
  refine then_n <| aw_seq <| at_ <| ar (ro_move s1_12) rfl <| ar (ro_call (evL_cons up_h evL_nil) rfl (rParseVec_ok tx (by omega)) z12_hcf8) rfl ?_
  refine ar (ro_move up_h) rfl <| ar (ro_extract up_h rfl) rfl <| ar (ro_extract (up_m rfl up_h) rfl) rfl <| al_stm (st_alloc qaz23 rfl ml_11) trivial rfl (fun m_13 hm_13 => ?_)
  have mo3_13 := m_push hm_13 ml_11
  simp only [pS, Value.cells, Nat.reduceAdd] at mo3_13
  have mo2_13 := m_push_o hm_13 mo2_11
  have mo1_13 := m_push_o hm_13 mo1_11
  have mo0_13 := m_push_o hm_13 mo0_11
  have ml_13 := m_push_l hm_13 ml_11
  have ml_13 : _ = 4 := ml_13
  clear hm_13 mo2_11 mo1_11 mo0_11
  refine al_stm (st_store up_h (u2 rfl up_h) rfl rfl mo3_13 qsz23 rfl (nle rfl)) trivial rfl (fun m_14 hm_14 => ?_)
  have mo3_14 := m_set hm_14 mo3_13
  simp only [pS, Value.cells, Nat.reduceAdd] at mo3_14
  have mo2_14 := m_set_o hm_14 mo2_13 (by decide)
  have mo1_14 := m_set_o hm_14 mo1_13 (by decide)
  have mo0_14 := m_set_o hm_14 mo0_13 (by decide)
  have ml_14 := m_set_l hm_14 ml_13
  clear hm_14 mo3_13 mo2_13 mo1_13 mo0_13
  refine ar (ro_assign (up_n (up_m rfl up_h))) rfl <| ae6 (up_m rfl (up_n (u2 rfl (u4 rfl s2_12)))) (up_m rfl (up_n (u2 rfl (u4 rfl s5_12)))) (up_m rfl (up_n (u2 rfl (u4 rfl s6_12)))) (up_m rfl (up_n (u2 rfl (u4 rfl s7_12)))) (up_m rfl (up_n up_h)) up_h ?_; clear s1_12 s2_12 s5_12 s6_12 s7_12; intro e_15 s2_15 s5_15 s6_15 s7_15 s8_15 s9_15
  refine then_n <| aw_seq <| aw_seq <| at_ <| ar (ro_move s5_15) rfl <| ar (ro_eq (ro_ld_ptr z12_ty23 rfl mo1_14 (up_m rfl s2_15) (nle rfl)) (by simp only [pS, Value.cells, Nat.reduceAdd] <;> rfl)) rfl ?_
  refine ar (ro_call (evL_cons up_h evL_nil) rfl (rFormatVec_ok v hp hq) z12_hcf9) rfl <| ar (ro_sneq (u2 rfl up_h) up_h) rfl <| ar (ro_move up_h) rfl <| al_case up_h (fun hb_16 hq_16 => ?_) (fun hb_16 hq_16 => ?_)
  ·replace hq_16 := bt' hq_16
   refine al_skip' ⟨_, rfl, .inl hb_16⟩ rfl ?_
   refine al_skip' ⟨_, rfl, .inl (up_m rfl hb_16)⟩ rfl ?_
   refine al_skip' ⟨_, rfl, .inl (u2 rfl hb_16)⟩ rfl ?_
   refine ar (ro_pickT (up_m rfl (u2 rfl hb_16)) ev_c) rfl <| ar (ro_move up_h) rfl <| al_skip' ⟨_, rfl, .inl up_h⟩ rfl ?_
   refine al_skip' ⟨_, rfl, .inl (up_m rfl up_h)⟩ rfl ?_
   refine al_skip' ⟨_, rfl, .inl (u2 rfl up_h)⟩ rfl ?_
   refine ar (ro_pickT (up_m rfl (u2 rfl up_h)) ev_c) rfl <| ae3 (u2 rfl (u4 rfl (u8 rfl s2_15))) (u2 rfl (u4 rfl (u8 rfl s5_15))) up_h ?_; clear hb_16 s2_15 s5_15 s6_15 s7_15 s8_15 s9_15; intro e_17 s2_17 s5_17 s42_17
   refine then_n <| aw_true s42_17 <| aw_seq <| at_ <| ar (ro_assign ev_c) rfl <| ae1 up_h ?_; clear s2_17 s42_17 s5_17; intro e_19 s4_19
   refine then_n <| aw_ret <| then_r <| ret1 (.inr rfl) (by kernel_rfl) (resV_tmp s4_19) (.ro _ rfl) ?_
   clear s4_19 mo3_14 mo2_14 mo1_14 mo0_14 ml_14
   (first | rfl | (exfalso; omega) | (simp; done) | (exfalso; simp_all; done) | (have hb := pv_back (v := v) (by assumption); first | (rw [hb]; simp; done) | (exfalso; rw [hb] at *; simp_all; done) | (simp_all; done)))
  replace hq_16 := bf' hq_16
  refine al_ro' (ro_move (up_m rfl (u4 rfl s7_15))) ⟨_, rfl, hb_16⟩ rfl ?_
  refine al_ro' (ro_move (u2 rfl (u4 rfl s9_15))) ⟨_, rfl, (up_m rfl hb_16)⟩ rfl ?_
  refine al_ro' (ro_neq (up_m rfl up_h) up_h) ⟨_, rfl, (u2 rfl hb_16)⟩ rfl ?_
  refine ar (ro_pickF (up_m rfl (u2 rfl hb_16)) up_h) rfl <| ar (ro_move up_h) rfl <| al_case up_h (fun hb_20 hq_20 => ?_) (fun hb_20 hq_20 => ?_)
  · replace hq_20 := bnt hq_20; exfalso; omega
  replace hq_20 := bnf hq_20
  refine al_ro' (ro_eq (ro_ld_ptr z12_ty23 rfl mo2_14 (u2 rfl (u8 rfl s6_15)) (nle rfl)) (by simp only [pS, Value.cells, Nat.reduceAdd] <;> rfl)) ⟨_, rfl, hb_20⟩ rfl ?_
  refine al_ro' (ro_eq (ro_ld_ptr z12_ty23 rfl mo3_14 (up_m rfl (u2 rfl (u8 rfl s8_15))) (nle rfl)) (by simp only [pS, Value.cells, Nat.reduceAdd] <;> rfl)) ⟨_, rfl, (up_m rfl hb_20)⟩ rfl ?_
  refine al_ro' (ro_sqneq (up_m rfl up_h) up_h rfl rfl qgq23 z12_sq23 (by decide)) ⟨_, rfl, (u2 rfl hb_20)⟩ rfl ?_
  refine ar (ro_pickF (up_m rfl (u2 rfl hb_20)) up_h) rfl <| ae3 (u2 rfl (u4 rfl (u8 rfl s2_15))) (u2 rfl (u4 rfl (u8 rfl s5_15))) up_h ?_; clear hb_16 hb_20 s2_15 s5_15 s6_15 s7_15 s8_15 s9_15; intro e_24 s2_24 s5_24 s42_24
  refine then_n <| aw_case s42_24 (fun hq_25 => ?_) (fun hq_25 => ?_)
  ·replace hq_25 := bt' hq_25
   refine aw_seq <| at_ <| ar (ro_assign ev_c) rfl <| ae1 up_h ?_; clear s2_24 s42_24 s5_24; intro e_26 s4_26
   refine then_n <| aw_ret <| then_r <| ret1 (.inr rfl) (by kernel_rfl) (resV_tmp s4_26) (.ro _ rfl) ?_
   clear s4_26 mo3_14 mo2_14 mo1_14 mo0_14 ml_14
   (first | rfl | (exfalso; omega) | (simp; done) | (exfalso; simp_all; done) | (have hb := pv_back (v := v) (by assumption); first | (rw [hb]; simp; done) | (exfalso; rw [hb] at *; simp_all; done) | (simp_all; done)))
  replace hq_25 := bf' hq_25
  refine aw_skip <| then_n <| aw_seq <| at_ <| ar (ro_move s5_24) rfl <| ar (ro_callG (evL_cons up_h evL_nil) rfl mo0_14 ((parseVec_ok es er hes her (fmtR v.1 v.2 44) (by omega)).wide (gX_in es er)) z12_hcf7) rfl ?_
  refine ar (ro_move up_h) rfl <| ar (ro_extract up_h rfl) rfl <| ar (ro_extract (up_m rfl up_h) rfl) rfl <| al_stm (st_alloc qaz23 rfl ml_14) trivial rfl (fun m_27 hm_27 => ?_)
  have mo4_27 := m_push hm_27 ml_14
  simp only [pS, Value.cells, Nat.reduceAdd] at mo4_27
  have mo3_27 := m_push_o hm_27 mo3_14
  have mo2_27 := m_push_o hm_27 mo2_14
  have mo1_27 := m_push_o hm_27 mo1_14
  have mo0_27 := m_push_o hm_27 mo0_14
  have ml_27 := m_push_l hm_27 ml_14
  have ml_27 : _ = 5 := ml_27
  clear hm_27 mo3_14 mo2_14 mo1_14 mo0_14
  refine al_stm (st_store up_h (u2 rfl up_h) rfl rfl mo4_27 qsz23 rfl (nle rfl)) trivial rfl (fun m_28 hm_28 => ?_)
  have mo4_28 := m_set hm_28 mo4_27
  simp only [pS, Value.cells, Nat.reduceAdd] at mo4_28
  have mo3_28 := m_set_o hm_28 mo3_27 (by decide)
  have mo2_28 := m_set_o hm_28 mo2_27 (by decide)
  have mo1_28 := m_set_o hm_28 mo1_27 (by decide)
  have mo0_28 := m_set_o hm_28 mo0_27 (by decide)
  have ml_28 := m_set_l hm_28 ml_27
  clear hm_28 mo4_27 mo3_27 mo2_27 mo1_27 mo0_27
  refine ar (ro_assign (up_n (up_m rfl up_h))) rfl <| ae3 (up_m rfl (up_n (u2 rfl (u4 rfl s2_24)))) (up_m rfl (up_n up_h)) up_h ?_; clear s2_24 s42_24 s5_24; intro e_29 s2_29 s10_29 s11_29
  refine then_n <| aw_seq <| at_ <| ar (ro_eq (ro_ld_ptr z12_ty23 rfl mo1_28 s2_29 (nle rfl)) (by simp only [pS, Value.cells, Nat.reduceAdd] <;> rfl)) rfl ?_
  refine ar (ro_call (evL_cons up_h evL_nil) rfl (rVecErr_ok v) qhcf10) rfl <| ar (ro_neq up_h ev_c) rfl <| ar (ro_move up_h) rfl <| al_case up_h (fun hb_30 hq_30 => ?_) (fun hb_30 hq_30 => ?_)
  ·replace hq_30 := bnt hq_30
   refine al_skip' ⟨_, rfl, .inl hb_30⟩ rfl ?_
   refine al_skip' ⟨_, rfl, .inl (up_m rfl hb_30)⟩ rfl ?_
   refine al_skip' ⟨_, rfl, .inl (u2 rfl hb_30)⟩ rfl ?_
   refine al_skip' ⟨_, rfl, .inr up_h⟩ rfl ?_
   refine al_skip' ⟨_, rfl, .inr (up_m rfl up_h)⟩ rfl ?_
   refine al_skip' ⟨_, rfl, .inr (u2 rfl up_h)⟩ rfl ?_
   refine al_skip' ⟨_, rfl, .inl (u2 rfl (u4 rfl hb_30))⟩ rfl ?_
   refine ar (ro_pickT (up_m rfl (u2 rfl (u4 rfl hb_30))) ev_c) rfl <| ar (ro_assign up_h) rfl <| ae1 up_h ?_; clear hb_30 s10_29 s11_29 s2_29; intro e_31 s4_31
   refine then_n <| aw_ret <| ret1 (.inr rfl) (by kernel_rfl) (resV_tmp s4_31) (.ro _ rfl) ?_
   clear s4_31 mo4_28 mo3_28 mo2_28 mo1_28 mo0_28 ml_28
   (first | rfl | (exfalso; omega) | (simp; done) | (exfalso; simp_all; done) | (have hb := pv_back (v := v) (by assumption); first | (rw [hb]; simp; done) | (exfalso; rw [hb] at *; simp_all; done) | (simp_all; done)))
  replace hq_30 := bnf hq_30
  refine al_ro' (ro_move (u4 rfl s11_29)) ⟨_, rfl, hb_30⟩ rfl ?_
  refine al_ro' (ro_eql up_h ev_c) ⟨_, rfl, (up_m rfl hb_30)⟩ rfl ?_
  refine al_ro' (ro_move up_h) ⟨_, rfl, (u2 rfl hb_30)⟩ rfl ?_
  refine al_case up_h (fun hb_32 hq_32 => ?_) (fun hb_32 hq_32 => ?_)
  ·replace hq_32 := bt hq_32
   refine al_ro' (ro_eq (ro_ld_ptr z12_ty23 rfl mo4_28 (up_m rfl (u2 rfl (u4 rfl s10_29))) (nle rfl)) (by simp only [pS, Value.cells, Nat.reduceAdd] <;> rfl)) ⟨_, rfl, hb_32⟩ rfl ?_
   refine al_ro' (ro_eq (ro_ld_ptr z12_ty23 rfl mo1_28 (u8 rfl s2_29) (nle rfl)) (by simp only [pS, Value.cells, Nat.reduceAdd] <;> rfl)) ⟨_, rfl, (up_m rfl hb_32)⟩ rfl ?_
   refine al_ro' (ro_sqeql (up_m rfl up_h) up_h rfl rfl qgq23 z12_sq23 (by decide)) ⟨_, rfl, (u2 rfl hb_32)⟩ rfl ?_
   refine al_ro' (ro_pickT (up_m rfl (u2 rfl hb_32)) up_h) ⟨_, rfl, (u2 rfl (u4 rfl hb_30))⟩ rfl ?_
   refine ar (ro_pickF (up_m rfl (u2 rfl (u4 rfl hb_30))) up_h) rfl <| ar (ro_assign up_h) rfl <| ae1 up_h ?_; clear hb_30 hb_32 s10_29 s11_29 s2_29; intro e_33 s4_33
   refine then_n <| aw_ret <| ret1 (.inr rfl) (by kernel_rfl) (resV_tmp s4_33) (.ro _ rfl) ?_
   clear s4_33 mo4_28 mo3_28 mo2_28 mo1_28 mo0_28 ml_28
   (first | rfl | (exfalso; omega) | (simp; done) | (exfalso; simp_all; done) | (have hb := pv_back (v := v) (by assumption); first | (rw [hb]; simp; done) | (exfalso; rw [hb] at *; simp_all; done) | (simp_all; done)))
  replace hq_32 := bf hq_32
  refine al_skip' ⟨_, rfl, .inl hb_32⟩ rfl ?_
  refine al_skip' ⟨_, rfl, .inl (up_m rfl hb_32)⟩ rfl ?_
  refine al_skip' ⟨_, rfl, .inl (u2 rfl hb_32)⟩ rfl ?_
  refine al_ro' (ro_pickF (up_m rfl (u2 rfl hb_32)) ev_c) ⟨_, rfl, (u2 rfl (u4 rfl hb_30))⟩ rfl ?_
  refine ar (ro_pickF (up_m rfl (u2 rfl (u4 rfl hb_30))) up_h) rfl <| ar (ro_assign up_h) rfl <| ae1 up_h ?_; clear hb_30 hb_32 s10_29 s11_29 s2_29; intro e_34 s4_34
  refine then_n <| aw_ret <| ret1 (.inr rfl) (by kernel_rfl) (resV_tmp s4_34) (.ro _ rfl) ?_
  clear s4_34 mo4_28 mo3_28 mo2_28 mo1_28 mo0_28 ml_28
  (first | rfl | (exfalso; omega) | (simp; done) | (exfalso; simp_all; done) | (have hb := pv_back (v := v) (by assumption); first | (rw [hb]; simp; done) | (exfalso; rw [hb] at *; simp_all; done) | (simp_all; done)))
end Go.Proofs.YtfmjmngkgmlghaaDoor

