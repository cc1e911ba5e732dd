/- Texts of this claim, one behind the other: lemmas for the statement. -/
import Derived.Test.YtfmjmngkgmlghaaDoorM6
import Derived.Test.YtfmjmngkgmlghaaDoorT0
/- Contracts of chapter 5: the document's places and limits, lists compared. No conditions on a program. -/
namespace Go.Proofs.YtfmjmngkgmlghaaDoor
open Go Go.RowKit Go.Proofs
set_option linter.unusedSimpArgs false
set_option linter.unusedVariables false
theorem k11_sl50 : SlIs Tryd.prog 50 3 1 8 (.int .i64 0) := ⟨by kernel_rfl, by kernel_rfl, by kernel_rfl⟩
theorem k11_ty3 : TyIs Tryd.prog 3 false 1 := ⟨by kernel_rfl, by kernel_rfl⟩

theorem getD_ext {a b : List Int} (hl : a.length = b.length) (h : ∀ j : Nat, j < a.length → a.getD j default = b.getD j default) : a = b := by
  apply List.ext_getElem hl
  intro j h1 h2
  have := h j h1
  simpa [List.getD_eq_getElem?_getD, List.getElem?_eq_getElem h1, List.getElem?_eq_getElem h2] using this
set_option maxRecDepth 100000 in
set_option maxHeartbeats 1000000 in
theorem ints_ok (a b : List Int) (ha : a.length ≤ 1000000000) (hb : b.length ≤ 1000000000) : FnOk Tryd.prog 22 [.row 1 (a.map iE), .row 1 (b.map iE)] (fun q => q = bA (decide (a = b))) := by
  refine fnOk_of (fn := Tryd.f22) 26 (by kernel_rfl) rfl (by kernel_rfl) (Nat.le_of_ble_eq_true rfl) ?_
  intro e_0 m_0 hA hm_0
  have s0_0 : evA e_0 (.tmp 0) = _ := hA 0 _ rfl
  have s1_0 : evA e_0 (.tmp 1) = _ := hA 1 _ rfl
  have ml_0 : m_0.length = 0 := by rw [hm_0]; rfl
  clear hA hm_0
  refine aw_seq <| at_ <| ar (ro_assign ev_c) rfl <| ae2 (up_m rfl s0_0) (up_m rfl s1_0) ?_; clear s0_0 s1_0; intro e_1 s0_1 s1_1
  refine then_n <| aw_seq <| aw_seq <| at_ <| ar (ro_move s0_1) rfl <| ar (ro_eq (ro_len_row up_h rfl k11_sl50.1) (by simp only [lnS] <;> rfl)) rfl ?_
  refine ar (ro_move (u2 rfl s1_1)) rfl <| ar (ro_eq (ro_len_row up_h rfl k11_sl50.1) (by simp only [lnS] <;> rfl)) rfl ?_
  refine ar (ro_neq (u2 rfl up_h) up_h) rfl <| ae3 (up_m rfl (u4 rfl s0_1)) (up_m rfl (u4 rfl s1_1)) up_h ?_; clear s0_1 s1_1; intro e_2 s0_2 s1_2 s10_2
  refine then_n <| aw_case s10_2 (fun hq_3 => ?_) (fun hq_3 => ?_)
  ·replace hq_3 := bnt hq_3
   refine aw_seq <| at_ <| ar (ro_assign ev_c) rfl <| ae1 up_h ?_; clear s0_2 s10_2 s1_2; intro e_4 s4_4
   refine then_n <| aw_ret <| then_r <| ret1 (.inr rfl) (by kernel_rfl) (resV_tmp s4_4) (.ro _ rfl) ?_
   clear s4_4  ml_0
   (have hne : ¬ a = b := (fun hc => absurd (congrArg List.length hc) (by omega)); rw [decide_eq_false hne])
  replace hq_3 := bnf hq_3
  (have hl : a.length = b.length := (by omega))
  refine aw_skip <| then_n <| aw_seq <| aw_seq <| at_ <| ar (ro_assign ev_c) rfl <| ae3 (up_m rfl s0_2) (up_m rfl s1_2) up_h ?_; clear s0_2 s10_2 s1_2; intro e_5 s0_5 s1_5 s5_5
  refine then_n <| aw_block <| aw_loop (S := Int) (fun i e mem => (evA e (.tmp 5) = .v (.int .i64 i)) ∧ (evA e (.tmp 0) = evA e_5 (.tmp 0)) ∧ (evA e (.tmp 1) = evA e_5 (.tmp 1)) ∧ (mem.length = 0) ∧ ((0 ≤ i ∧ i ≤ a.length ∧ a.length = b.length ∧ ∀ j : Nat, j < i → a.getD j default = b.getD j default))) (fun i => (a.length - i).toNat) _ ⟨s5_5, rfl, rfl, ml_0, ?_⟩ ?_
  · (refine ⟨by omega, by omega, by omega, fun j hj => absurd hj (by omega)⟩)
  · rintro i e_6 m_6 ⟨s5_6, k0_6, k1_6, ml_6, hinv⟩
    have s0_6 := k0_6.trans s0_5
    have s1_6 := k1_6.trans s1_5
    (have hl := hinv.2.2.1)
    refine aw_seq <| aw_seq <| at_ <| ar (ro_move s5_6) rfl <| ar (ro_move (up_m rfl s0_6)) rfl <| ar (ro_eq (ro_len_row up_h rfl k11_sl50.1) (by simp only [lnS] <;> rfl)) rfl ?_
    refine ar (ro_lss (u2 rfl up_h) up_h) rfl <| ae4 (u4 rfl s0_6) (u4 rfl s1_6) (u4 rfl s5_6) up_h ?_; clear s0_6 s1_6 s5_6; intro e_7 s0_7 s1_7 s5_7 s14_7
    refine then_n <| aw_case s14_7 (fun hq_8 => ?_) (fun hq_8 => ?_)
    ·replace hq_8 := bt hq_8
     (have hx := hinv.2.1)
     refine aw_skip <| then_n <| aw_seq <| aw_block <| aw_seq <| aw_draw 9 (by kernel_rfl) (by kernel_rfl) (by kernel_rfl) (by kernel_rfl) ?_
     refine dr (ro_move s0_7) rfl <| dr (ro_move (up_m rfl s5_7)) rfl <| dr (ro_eq (ro_ix k11_sl50 (up_m rfl up_h) up_h (by omega) (by first | (refine idx_map ?_; first | omega | (simp only [lnS]; omega)) | (refine idx_mapI ?_; first | omega | (simp only [lnS]; omega)) | (refine idx_mapN ?_; first | omega | (simp only [lnS]; omega)) | rfl)) (by simp only [pS, Value.cells, Nat.reduceAdd] <;> rfl)) rfl ?_
     refine dr (ro_eq (ro_ld_ref k11_ty3 rfl up_h (nle rfl)) (by simp only [pS, Value.cells, Nat.reduceAdd] <;> rfl)) rfl ?_
     refine dr (ro_move (u4 rfl s1_7)) rfl <| dr (ro_move (up_m rfl (u4 rfl s5_7))) rfl <| dr (ro_eq (ro_ix k11_sl50 (up_m rfl up_h) up_h (by omega) (by first | (refine idx_map ?_; first | omega | (simp only [lnS]; omega)) | (refine idx_mapI ?_; first | omega | (simp only [lnS]; omega)) | (refine idx_mapN ?_; first | omega | (simp only [lnS]; omega)) | rfl)) (by simp only [pS, Value.cells, Nat.reduceAdd] <;> rfl)) rfl ?_
     refine dr (ro_eq (ro_ld_ref k11_ty3 rfl up_h (nle rfl)) (by simp only [pS, Value.cells, Nat.reduceAdd] <;> rfl)) rfl ?_
     refine dr (ro_neq (u4 rfl up_h) up_h) rfl <| ds_nil <| ae4 (up_m rfl (u8 rfl s0_7)) (up_m rfl (u8 rfl s1_7)) (up_m rfl (u8 rfl s5_7)) up_h ?_; clear s0_7 s14_7 s1_7 s5_7; intro e_9 s0_9 s1_9 s5_9 s25_9
     refine then_n <| aw_case s25_9 (fun hq_10 => ?_) (fun hq_10 => ?_)
     ·replace hq_10 := bnt hq_10
      refine aw_seq <| at_ <| ar (ro_assign ev_c) rfl <| ae1 up_h ?_; clear s0_9 s1_9 s25_9 s5_9; intro e_11 s4_11
      refine then_n <| aw_ret <| block_r <| then_r <| then_r <| block_r <| then_r <| ret1 (.inr rfl) (by kernel_rfl) (resV_tmp s4_11) (.ro _ rfl) ?_
      clear s4_11  ml_6
      (have hne : ¬ a = b := (fun hc => absurd (congrArg (fun l => l.getD i.toNat default) hc) (by assumption)); rw [decide_eq_false hne])
     replace hq_10 := bnf hq_10
     refine aw_skip <| block_n <| then_n <| at_ <| ar (ro_move s5_9) rfl ?_
     (refine ar (ro_add' up_h ev_c ?_) rfl ?_; · (unfold In64; omega))
     refine ar (ro_assign up_h) rfl <| ae3 (up_m rfl (u2 rfl s0_9)) (up_m rfl (u2 rfl s1_9)) up_h ?_; clear s0_9 s1_9 s25_9 s5_9; intro e_12 s0_12 s1_12 s5_12
     refine then_n <| ⟨_, ⟨s5_12, (s0_12.trans s0_5.symm), (s1_12.trans s1_5.symm), ml_6, ?_⟩, ?_⟩
     · (obtain ⟨p1, p2, p3, p4⟩ := hinv; refine ⟨by omega, by omega, p3, fun j hj => ?_⟩; by_cases hji : j = i.toNat; (rw [hji]; assumption); exact p4 j (by omega))
     · ((try dsimp only); omega)
    replace hq_8 := bf hq_8
    refine aw_exit <| then_x <| then_x <| block_hit <| then_n <| aw_seq <| at_ <| ar (ro_assign ev_c) rfl <| ae1 up_h ?_; clear s0_7 s14_7 s1_7 s5_7; intro e_13 s4_13
    refine then_n <| aw_ret <| ret1 (.inr rfl) (by kernel_rfl) (resV_tmp s4_13) (.ro _ rfl) ?_
    clear s4_13  ml_6
    (obtain ⟨p1, p2, p3, p4⟩ := hinv; refine congrArg bA ?_; simp; exact getD_ext p3 fun j hj => p4 j (by omega))
end Go.Proofs.YtfmjmngkgmlghaaDoor

/- Contracts of chapter 5: copies, the law's own plant, whether the program is awake. No conditions on a program. -/
namespace Go.Proofs.YtfmjmngkgmlghaaDoor
open Go Go.RowKit Go.Proofs
set_option linter.unusedSimpArgs false
set_option linter.unusedVariables false
theorem k12_az35 : (Tryd.prog.info? 35).bind (·.zero) = some (.agg #[.string ByteArray.empty, .slice none 0 0]) := by kernel_rfl
theorem k12_az80 : (Tryd.prog.info? 80).bind (·.zero) = some (.agg #[.int .i64 0, .int .i64 0, .int .i64 0]) := by kernel_rfl
theorem k12_bz88 : (Tryd.prog.info? 88).bind (·.zero) = some (.agg #[.int .i64 0, .int .i64 0]) := by kernel_rfl
theorem k12_bu88 : Tryd.prog.underlying 88 = some (.array 2 3) := by kernel_rfl
theorem k12_bp88 : (Tryd.prog.info? 3).map (·.size) = some 1 := by kernel_rfl
theorem k12_bz123 : (Tryd.prog.info? 123).bind (·.zero) = some (.agg #[.int .i64 0, .int .i64 0, .int .i64 0, .bool false]) := by kernel_rfl
theorem k12_bu123 : Tryd.prog.underlying 123 = some (.struct (fsOf Tryd.prog 123)) := by kernel_rfl
theorem k12_bp123 : ∀ w, ((fsOf Tryd.prog 123).mapM fun f => Prod.mk f.offset <$> sizeOf f.type : Sem (Array (Nat × Nat))).run Tryd.prog w = .ok (#[(0, 1), (1, 1), (2, 1), (3, 1)]) w := fun _ => by kernel_rfl
theorem k12_bz35 : (Tryd.prog.info? 35).bind (·.zero) = some (.agg #[.string ByteArray.empty, .slice none 0 0]) := by kernel_rfl
theorem k12_bu35 : Tryd.prog.underlying 35 = some (.struct (fsOf Tryd.prog 35)) := by kernel_rfl
theorem k12_bp35 : ∀ w, ((fsOf Tryd.prog 35).mapM fun f => Prod.mk f.offset <$> sizeOf f.type : Sem (Array (Nat × Nat))).run Tryd.prog w = .ok (#[(0, 1), (1, 1)]) w := fun _ => by kernel_rfl
theorem k12_bz80 : (Tryd.prog.info? 80).bind (·.zero) = some (.agg #[.int .i64 0, .int .i64 0, .int .i64 0]) := by kernel_rfl
theorem k12_bu80 : Tryd.prog.underlying 80 = some (.struct (fsOf Tryd.prog 80)) := by kernel_rfl
theorem k12_bp80 : ∀ w, ((fsOf Tryd.prog 80).mapM fun f => Prod.mk f.offset <$> sizeOf f.type : Sem (Array (Nat × Nat))).run Tryd.prog w = .ok (#[(0, 1), (1, 1), (2, 1)]) w := fun _ => by kernel_rfl
theorem k12_hcf22 : ∀ args w, (callFunc 22 args).run Tryd.prog w = .ok (.enter 22 args) w := fun _ _ => by kernel_rfl
theorem k12_hcf34 : ∀ args w, (callFunc 34 args).run Tryd.prog w = .ok (.enter 34 args) w := fun _ _ => by kernel_rfl
theorem k12_hcf35 : ∀ args w, (callFunc 35 args).run Tryd.prog w = .ok (.enter 35 args) w := fun _ _ => by kernel_rfl
theorem k12_hcf36 : ∀ args w, (callFunc 36 args).run Tryd.prog w = .ok (.enter 36 args) w := fun _ _ => by kernel_rfl
theorem k12_hcf37 : ∀ args w, (callFunc 37 args).run Tryd.prog w = .ok (.enter 37 args) w := fun _ _ => by kernel_rfl
theorem k12_hcf38 : ∀ args w, (callFunc 38 args).run Tryd.prog w = .ok (.enter 38 args) w := fun _ _ => by kernel_rfl
theorem k12_hcf39 : ∀ args w, (callFunc 39 args).run Tryd.prog w = .ok (.enter 39 args) w := fun _ _ => by kernel_rfl
theorem k12_sl33 : SlIs Tryd.prog 33 123 4 32 (.agg #[.int .i64 0, .int .i64 0, .int .i64 0, .bool false]) := ⟨by kernel_rfl, by kernel_rfl, by kernel_rfl⟩
theorem k12_sl50 : SlIs Tryd.prog 50 3 1 8 (.int .i64 0) := ⟨by kernel_rfl, by kernel_rfl, by kernel_rfl⟩
theorem k12_sz35 : (Tryd.prog.info? 35).map (·.size) = some 2 := by kernel_rfl
theorem k12_sz80 : (Tryd.prog.info? 80).map (·.size) = some 3 := by kernel_rfl
theorem k12_ty33 : TyIs Tryd.prog 33 false 1 := ⟨by kernel_rfl, by kernel_rfl⟩
theorem k12_ty35 : TyIs Tryd.prog 35 true 2 := ⟨by kernel_rfl, by kernel_rfl⟩
theorem k12_ty80 : TyIs Tryd.prog 80 true 3 := ⟨by kernel_rfl, by kernel_rfl⟩
theorem k12_ty84 : TyIs Tryd.prog 84 true 2 := ⟨by kernel_rfl, by kernel_rfl⟩
theorem k12_ty9 : TyIs Tryd.prog 9 false 1 := ⟨by kernel_rfl, by kernel_rfl⟩

set_option maxRecDepth 100000 in
set_option maxHeartbeats 1000000 in
theorem short_ok (nm : ByteArray) (ps : List Piece) : FnOk Tryd.prog 12 [trA nm ps] (fun q => q = bA (decide (nm.size ≤ 30 ∧ ps.length ≤ 14))) := by
  refine fnOk_of (fn := Tryd.f12) 13 (by kernel_rfl) rfl (by kernel_rfl) (Nat.le_of_ble_eq_true rfl) ?_
  intro e_0 m_0 hA hm_0
  have s0_0 : evA e_0 (.tmp 0) = _ := hA 0 _ rfl
  have ml_0 : m_0.length = 0 := by rw [hm_0]; rfl
  clear hA hm_0
  refine aw_seq <| at_ <| al_stm (st_box s0_0 rfl ml_0) trivial rfl (fun m_1 hm_1 => ?_)
  have mo0_1 := m_push hm_1 ml_0
  have ml_1 := m_push_l hm_1 ml_0
  have ml_1 : _ = 1 := ml_1
  clear hm_1
  refine ar (ro_assign ev_c) rfl <| ae1 (up_m rfl up_h) ?_; clear s0_0; intro e_2 s1_2
  refine then_n <| aw_seq <| at_ <| ar (ro_fld_ptr qfl35_0 rfl s1_2) rfl <| ar (ro_eq (ro_ld_ptr k12_ty9 rfl mo0_1 up_h (nle rfl)) (by simp only [pS, Value.cells, Nat.reduceAdd] <;> rfl)) rfl ?_
  refine ar (ro_len_str up_h rfl qun9) rfl <| ar (ro_leq up_h ev_c) rfl <| ar (ro_move up_h) rfl <| al_case up_h (fun hb_3 hq_3 => ?_) (fun hb_3 hq_3 => ?_)
  ·replace hq_3 := bt hq_3
   refine al_ro' (ro_fld_ptr qfl35_1 rfl (up_m rfl (u4 rfl s1_2))) ⟨_, rfl, hb_3⟩ rfl ?_
   refine al_ro' (ro_eq (ro_ld_ptr k12_ty33 rfl mo0_1 up_h (nle rfl)) (by simp only [pS, Value.cells, Nat.reduceAdd] <;> rfl)) ⟨_, rfl, (up_m rfl hb_3)⟩ rfl ?_
   refine al_ro' (ro_eq (ro_len_row up_h rfl k12_sl33.1) (by simp only [lnS] <;> rfl)) ⟨_, rfl, (u2 rfl hb_3)⟩ rfl ?_
   refine al_ro' (ro_leq up_h ev_c) ⟨_, rfl, (up_m rfl (u2 rfl hb_3))⟩ rfl ?_
   refine ar (ro_pickT (u4 rfl hb_3) up_h) rfl <| ar (ro_assign up_h) rfl <| ae1 up_h ?_; clear hb_3 s1_2; intro e_4 s2_4
   refine then_n <| aw_ret <| ret1 (.inr rfl) (by kernel_rfl) (resV_tmp s2_4) (.ro _ rfl) ?_
   clear s2_4 mo0_1 ml_1
   (refine avb ?_; simp only [decide_eq_true_eq, Bool.false_eq_true, true_iff, false_iff]; omega)
  replace hq_3 := bf hq_3
  refine al_skip' ⟨_, rfl, .inl hb_3⟩ rfl ?_
  refine al_skip' ⟨_, rfl, .inl (up_m rfl hb_3)⟩ rfl ?_
  refine al_skip' ⟨_, rfl, .inl (u2 rfl hb_3)⟩ rfl ?_
  refine al_skip' ⟨_, rfl, .inl (up_m rfl (u2 rfl hb_3))⟩ rfl ?_
  refine ar (ro_pickF (u4 rfl hb_3) ev_c) rfl <| ar (ro_assign up_h) rfl <| ae1 up_h ?_; clear hb_3 s1_2; intro e_5 s2_5
  refine then_n <| aw_ret <| ret1 (.inr rfl) (by kernel_rfl) (resV_tmp s2_5) (.ro _ rfl) ?_
  clear s2_5 mo0_1 ml_1
  (refine avb ?_; simp only [decide_eq_true_eq, Bool.false_eq_true, true_iff, false_iff]; omega)
def nm0 : ByteArray := ⟨#[116]⟩
def tr0 : List Piece := [⟨100, 0, 10000, false⟩, ⟨100, 0, 8000, true⟩, ⟨50, -10, 10000, false⟩, ⟨200, 0, 10000, true⟩]
set_option maxRecDepth 100000 in
set_option maxHeartbeats 1000000 in
theorem track0_ok : FnOk Tryd.prog 35 [] (fun q => q = trA nm0 tr0) := by
  refine fnOk_of (fn := Tryd.f35) 7 (by kernel_rfl) rfl (by kernel_rfl) (Nat.le_of_ble_eq_true rfl) ?_
  intro e_0 m_0 hA hm_0
  have ml_0 : m_0.length = 0 := by rw [hm_0]; rfl
  clear hA hm_0
  refine aw_seq <| at_ <| al_stm (st_alloc k12_az35 rfl ml_0) trivial rfl (fun m_1 hm_1 => ?_)
  have mo0_1 := m_push hm_1 ml_0
  simp only [pS, Value.cells, Nat.reduceAdd] at mo0_1
  have ml_1 := m_push_l hm_1 ml_0
  have ml_1 : _ = 1 := ml_1
  clear hm_1
  refine ae1 up_h ?_; intro e_2 s0_2
  refine then_n <| aw_seq <| at_ <| ar (ro_build (evP_cons ev_c (evP_cons ev_c evP_nil)) k12_bz123 k12_bu123 k12_bp123 rfl) rfl ?_
  refine ar (ro_build (evP_cons ev_c (evP_cons ev_c (evP_cons ev_c evP_nil))) k12_bz123 k12_bu123 k12_bp123 rfl) rfl ?_
  refine ar (ro_build (evP_cons ev_c (evP_cons ev_c (evP_cons ev_c evP_nil))) k12_bz123 k12_bu123 k12_bp123 rfl) rfl ?_
  refine ar (ro_build (evP_cons ev_c (evP_cons ev_c (evP_cons ev_c evP_nil))) k12_bz123 k12_bu123 k12_bp123 rfl) rfl ?_
  refine ar (ro_lit k12_sl33 (evP_cons (up_m rfl (u2 rfl up_h)) (evP_cons (u2 rfl up_h) (evP_cons (up_m rfl up_h) (evP_cons up_h evP_nil)))) rfl rfl rfl rfl) rfl <| ar (ro_build (evP_cons ev_c (evP_cons up_h evP_nil)) k12_bz35 k12_bu35 k12_bp35 rfl) rfl ?_
  refine al_stm (st_store (u2 rfl (u4 rfl s0_2)) up_h rfl rfl mo0_1 k12_sz35 rfl (nle rfl)) trivial rfl (fun m_3 hm_3 => ?_)
  have mo0_3 := m_set hm_3 mo0_1
  simp only [pS, Value.cells, Nat.reduceAdd] at mo0_3
  have ml_3 := m_set_l hm_3 ml_1
  clear hm_3 mo0_1
  refine ae1 (up_n (u2 rfl (u4 rfl s0_2))) ?_; clear s0_2; intro e_4 s0_4
  refine then_n <| aw_ret <| ret1 (.inr rfl) (by kernel_rfl) (resV_cell s0_4 mo0_3 k12_ty35 (nle rfl) (by simp)) (vw_r (.ro _ rfl)) ?_
  clear s0_4 mo0_3 ml_3
  rfl
set_option maxRecDepth 100000 in
set_option maxHeartbeats 1000000 in
theorem system0_ok : FnOk Tryd.prog 36 [] (fun q => q = syA 100 10 50) := by
  refine fnOk_of (fn := Tryd.f36) 2 (by kernel_rfl) rfl (by kernel_rfl) (Nat.le_of_ble_eq_true rfl) ?_
  intro e_0 m_0 hA hm_0
  have ml_0 : m_0.length = 0 := by rw [hm_0]; rfl
  clear hA hm_0
  refine aw_seq <| at_ <| al_stm (st_alloc k12_az80 rfl ml_0) trivial rfl (fun m_1 hm_1 => ?_)
  have mo0_1 := m_push hm_1 ml_0
  simp only [pS, Value.cells, Nat.reduceAdd] at mo0_1
  have ml_1 := m_push_l hm_1 ml_0
  have ml_1 : _ = 1 := ml_1
  clear hm_1
  refine ae1 up_h ?_; intro e_2 s0_2
  refine then_n <| aw_seq <| at_ <| ar (ro_build (evP_cons ev_c (evP_cons ev_c (evP_cons ev_c evP_nil))) k12_bz80 k12_bu80 k12_bp80 rfl) rfl ?_
  refine al_stm (st_store (up_m rfl s0_2) up_h rfl rfl mo0_1 k12_sz80 rfl (nle rfl)) trivial rfl (fun m_3 hm_3 => ?_)
  have mo0_3 := m_set hm_3 mo0_1
  simp only [pS, Value.cells, Nat.reduceAdd] at mo0_3
  have ml_3 := m_set_l hm_3 ml_1
  clear hm_3 mo0_1
  refine ae1 (up_n (up_m rfl s0_2)) ?_; clear s0_2; intro e_4 s0_4
  refine then_n <| aw_ret <| ret1 (.inr rfl) (by kernel_rfl) (resV_cell s0_4 mo0_3 k12_ty80 (nle rfl) (by simp)) (vw_r (.ro _ rfl)) ?_
  clear s0_4 mo0_3 ml_3
  rfl
theorem curve0_ok : FnOk Tryd.prog 34 [trA nm0 tr0, syA 100 10 50, iA 1] (fun q => q = .tuple [.row 1 ([10000, 8000, 0].map iE), iA 0]) :=
  (curveOf_ok nm0 tr0 (by decide) (by decide) 100 10 50 1).mono fun q h => h.trans (by kernel_rfl)
theorem run0_ok : FnOk Tryd.prog 37 [trA nm0 tr0, syA 100 10 50, .agg [iA 0, iA 5000], iA 3] (fun q => q = .tuple [.row 1 ([5000, 3000, 1000, 10000].map iE), iA 0]) :=
  (runTo_ok nm0 tr0 (by decide) (by decide) 100 10 50 0 5000 3).mono fun q h => h.trans (by kernel_rfl)
theorem stands0_ok : FnOk Tryd.prog 38 [trA nm0 tr0, syA 100 10 50, .agg [iA 0, iA 25000]] (fun q => q = .tuple [.agg [iA 125, iA 125], iA 0]) :=
  (standsAt_ok nm0 tr0 (by decide) (by decide) 100 10 50 0 25000).mono fun q h => h.trans (by kernel_rfl)
theorem fast0_ok : FnOk Tryd.prog 39 [trA nm0 tr0, syA 100 10 50, .agg [iA 0, iA 0]] (fun q => q = .tuple [.row 1 ([0, 8000, 8000, 10000, 0].map iE), iA 0]) :=
  (fastest_ok nm0 tr0 (by decide) (by decide) 100 10 50 0 0).mono fun q h => h.trans (by kernel_rfl)
theorem same_ok (l : List Int) (h : l.length ≤ 1000000000) : FnOk Tryd.prog 22 [.row 1 (l.map iE), .row 1 (l.map iE)] (fun q => q = bA true) :=
  (ints_ok l l h h).mono fun q h => h.trans (by simp)
set_option maxRecDepth 100000 in
set_option maxHeartbeats 1000000 in
theorem awake_ok : FnOk Tryd.prog 11 [] (fun q => q = bA true) := by
  refine fnOk_of (fn := Tryd.f11) 70 (by kernel_rfl) rfl (by kernel_rfl) (Nat.le_of_ble_eq_true rfl) ?_
  intro e_0 m_0 hA hm_0
  have ml_0 : m_0.length = 0 := by rw [hm_0]; rfl
  clear hA hm_0
  refine aw_seq <| at_ <| ar (ro_assign ev_c) rfl <| ae0 ?_; intro e_1
  refine then_n <| aw_seq <| at_ <| ar (ro_call evL_nil rfl (track0_ok) k12_hcf35) rfl <| ar (ro_call evL_nil rfl (system0_ok) k12_hcf36) rfl <| ar (ro_call (evL_cons (up_m rfl up_h) (evL_cons up_h (evL_cons ev_c evL_nil))) rfl (curve0_ok) k12_hcf34) rfl <| ar (ro_move up_h) rfl <| ar (ro_extract up_h rfl) rfl <| ar (ro_extract (up_m rfl up_h) rfl) rfl <| ar (ro_assign (up_m rfl up_h)) rfl <| ar (ro_assign (up_m rfl up_h)) rfl <| ae2 (up_m rfl up_h) up_h ?_; intro e_2 s1_2 s2_2
  refine then_n <| aw_seq <| at_ <| ar (ro_call evL_nil rfl (track0_ok) k12_hcf35) rfl <| ar (ro_call evL_nil rfl (system0_ok) k12_hcf36) rfl <| ar (ro_build (evP_cons ev_c evP_nil) qbz37 qbu37 qbp37 rfl) rfl ?_
  refine ar (ro_call (evL_cons (u2 rfl up_h) (evL_cons (up_m rfl up_h) (evL_cons up_h (evL_cons ev_c evL_nil)))) rfl (run0_ok) k12_hcf37) rfl <| ar (ro_move up_h) rfl <| ar (ro_extract up_h rfl) rfl <| ar (ro_extract (up_m rfl up_h) rfl) rfl <| ar (ro_assign (up_m rfl up_h)) rfl <| ar (ro_assign (up_m rfl up_h)) rfl <| ae4 (up_m rfl (u8 rfl s1_2)) (up_m rfl (u8 rfl s2_2)) (up_m rfl up_h) up_h ?_; clear s1_2 s2_2; intro e_3 s1_3 s2_3 s3_3 s4_3
  refine then_n <| aw_seq <| at_ <| ar (ro_call evL_nil rfl (track0_ok) k12_hcf35) rfl <| ar (ro_call evL_nil rfl (system0_ok) k12_hcf36) rfl <| ar (ro_build (evP_cons ev_c evP_nil) qbz37 qbu37 qbp37 rfl) rfl ?_
  refine ar (ro_call (evL_cons (u2 rfl up_h) (evL_cons (up_m rfl up_h) (evL_cons up_h evL_nil))) rfl (stands0_ok) k12_hcf38) rfl <| ar (ro_move up_h) rfl <| ar (ro_extract up_h rfl) rfl <| ar (ro_extract (up_m rfl up_h) rfl) rfl <| al_stm (st_alloc qaz84 rfl ml_0) trivial rfl (fun m_4 hm_4 => ?_)
  have mo0_4 := m_push hm_4 ml_0
  simp only [pS, Value.cells, Nat.reduceAdd] at mo0_4
  have ml_4 := m_push_l hm_4 ml_0
  have ml_4 : _ = 1 := ml_4
  clear hm_4
  refine al_stm (st_store up_h (u2 rfl up_h) rfl rfl mo0_4 qsz84 rfl (nle rfl)) trivial rfl (fun m_5 hm_5 => ?_)
  have mo0_5 := m_set hm_5 mo0_4
  simp only [pS, Value.cells, Nat.reduceAdd] at mo0_5
  have ml_5 := m_set_l hm_5 ml_4
  clear hm_5 mo0_4
  refine ar (ro_assign (up_n (up_m rfl up_h))) rfl <| ae6 (up_m rfl (up_n (u8 rfl s1_3))) (up_m rfl (up_n (u8 rfl s2_3))) (up_m rfl (up_n (u8 rfl s3_3))) (up_m rfl (up_n (u8 rfl s4_3))) (up_m rfl (up_n up_h)) up_h ?_; clear s1_3 s2_3 s3_3 s4_3; intro e_6 s1_6 s2_6 s3_6 s4_6 s5_6 s6_6
  refine then_n <| aw_seq <| at_ <| ar (ro_call evL_nil rfl (track0_ok) k12_hcf35) rfl <| ar (ro_call evL_nil rfl (system0_ok) k12_hcf36) rfl <| ar (ro_buildA evP_nil k12_bz88 k12_bu88 k12_bp88 rfl) rfl ?_
  refine ar (ro_call (evL_cons (u2 rfl up_h) (evL_cons (up_m rfl up_h) (evL_cons up_h evL_nil))) rfl (fast0_ok) k12_hcf39) rfl <| ar (ro_move up_h) rfl <| ar (ro_extract up_h rfl) rfl <| ar (ro_extract (up_m rfl up_h) rfl) rfl <| ar (ro_assign (up_m rfl up_h)) rfl <| ar (ro_assign (up_m rfl up_h)) rfl <| ae8 (up_m rfl (u8 rfl s1_6)) (up_m rfl (u8 rfl s2_6)) (up_m rfl (u8 rfl s3_6)) (up_m rfl (u8 rfl s4_6)) (up_m rfl (u8 rfl s5_6)) (up_m rfl (u8 rfl s6_6)) (up_m rfl up_h) up_h ?_; clear s1_6 s2_6 s3_6 s4_6 s5_6 s6_6; intro e_7 s1_7 s2_7 s3_7 s4_7 s5_7 s6_7 s7_7 s8_7
  refine then_n <| aw_seq <| at_ <| ar (ro_move s2_7) rfl <| ar (ro_eql up_h ev_c) rfl ?_
  refine ar (ro_move up_h) rfl <| al_case up_h (fun hb_8 hq_8 => ?_) (fun hb_8 hq_8 => ?_)
  ·replace hq_8 := bt hq_8
   refine al_ro' (ro_move (up_m rfl (u2 rfl s1_7))) ⟨_, rfl, hb_8⟩ rfl ?_
   refine al_ro' (ro_lit k12_sl50 (evP_cons ev_c (evP_cons ev_c (evP_cons ev_c evP_nil))) rfl rfl rfl rfl) ⟨_, rfl, (up_m rfl hb_8)⟩ rfl ?_
   refine al_ro' (ro_call (evL_cons (up_m rfl up_h) (evL_cons up_h evL_nil)) rfl (same_ok [10000, 8000, 0] (by decide)) k12_hcf22) ⟨_, rfl, (u2 rfl hb_8)⟩ rfl ?_
   refine ar (ro_pickT (up_m rfl (u2 rfl hb_8)) up_h) rfl <| ar (ro_move up_h) rfl <| al_case up_h (fun hb_9 hq_9 => ?_) (fun hb_9 hq_9 => ?_)
   ·skip
    refine al_ro' (ro_move (u8 rfl s4_7)) ⟨_, rfl, hb_9⟩ rfl ?_
    refine al_ro' (ro_eql up_h ev_c) ⟨_, rfl, (up_m rfl hb_9)⟩ rfl ?_
    refine ar (ro_pickT (u2 rfl hb_9) up_h) rfl <| ar (ro_move up_h) rfl <| al_case up_h (fun hb_10 hq_10 => ?_) (fun hb_10 hq_10 => ?_)
    ·replace hq_10 := bt hq_10
     refine al_ro' (ro_move (u4 rfl (u8 rfl s3_7))) ⟨_, rfl, hb_10⟩ rfl ?_
     refine al_ro' (ro_lit k12_sl50 (evP_cons ev_c (evP_cons ev_c (evP_cons ev_c (evP_cons ev_c evP_nil)))) rfl rfl rfl rfl) ⟨_, rfl, (up_m rfl hb_10)⟩ rfl ?_
     refine al_ro' (ro_call (evL_cons (up_m rfl up_h) (evL_cons up_h evL_nil)) rfl (same_ok [5000, 3000, 1000, 10000] (by decide)) k12_hcf22) ⟨_, rfl, (u2 rfl hb_10)⟩ rfl ?_
     refine ar (ro_pickT (up_m rfl (u2 rfl hb_10)) up_h) rfl <| ar (ro_move up_h) rfl <| al_case up_h (fun hb_11 hq_11 => ?_) (fun hb_11 hq_11 => ?_)
     ·skip
      refine al_ro' (ro_move (up_m rfl (u16 rfl s6_7))) ⟨_, rfl, hb_11⟩ rfl ?_
      refine al_ro' (ro_eql up_h ev_c) ⟨_, rfl, (up_m rfl hb_11)⟩ rfl ?_
      refine ar (ro_pickT (u2 rfl hb_11) up_h) rfl <| ar (ro_move up_h) rfl <| al_case up_h (fun hb_12 hq_12 => ?_) (fun hb_12 hq_12 => ?_)
      ·replace hq_12 := bt hq_12
       refine al_ro' (ro_eq (ro_ld_ptr k12_ty84 rfl mo0_5 (up_m rfl (u4 rfl (u16 rfl s5_7))) (nle rfl)) (by simp only [pS, Value.cells, Nat.reduceAdd] <;> rfl)) ⟨_, rfl, hb_12⟩ rfl ?_
       refine al_ro' (ro_build (evP_cons ev_c (evP_cons ev_c evP_nil)) qbz84 qbu84 qbp84 rfl) ⟨_, rfl, (up_m rfl hb_12)⟩ rfl ?_
       refine al_ro' (ro_aeql (up_m rfl up_h) up_h (xs := [.int .i64 125, .int .i64 125]) (ys := [.int .i64 125, .int .i64 125]) (b := true) ⟨rfl, by kernel_rfl, fun _ => by kernel_rfl⟩) ⟨_, rfl, (u2 rfl hb_12)⟩ rfl ?_
       refine ar (ro_pickT (up_m rfl (u2 rfl hb_12)) up_h) rfl <| ar (ro_move up_h) rfl <| al_case up_h (fun hb_13 hq_13 => ?_) (fun hb_13 hq_13 => ?_)
       ·skip
        refine al_ro' (ro_move (u2 rfl (u8 rfl (u16 rfl s8_7)))) ⟨_, rfl, hb_13⟩ rfl ?_
        refine al_ro' (ro_eql up_h ev_c) ⟨_, rfl, (up_m rfl hb_13)⟩ rfl ?_
        refine ar (ro_pickT (u2 rfl hb_13) up_h) rfl <| ar (ro_move up_h) rfl <| al_case up_h (fun hb_14 hq_14 => ?_) (fun hb_14 hq_14 => ?_)
        ·replace hq_14 := bt hq_14
         refine al_ro' (ro_move (u2 rfl (u4 rfl (u8 rfl (u16 rfl s7_7))))) ⟨_, rfl, hb_14⟩ rfl ?_
         refine al_ro' (ro_lit k12_sl50 (evP_cons ev_c (evP_cons ev_c (evP_cons ev_c (evP_cons ev_c (evP_cons ev_c evP_nil))))) rfl rfl rfl rfl) ⟨_, rfl, (up_m rfl hb_14)⟩ rfl ?_
         refine al_ro' (ro_call (evL_cons (up_m rfl up_h) (evL_cons up_h evL_nil)) rfl (same_ok [0, 8000, 8000, 10000, 0] (by decide)) k12_hcf22) ⟨_, rfl, (u2 rfl hb_14)⟩ rfl ?_
         refine ar (ro_pickT (up_m rfl (u2 rfl hb_14)) up_h) rfl <| ar (ro_assign up_h) rfl <| ae1 up_h ?_; clear hb_10 hb_11 hb_12 hb_13 hb_14 hb_8 hb_9 s1_7 s2_7 s3_7 s4_7 s5_7 s6_7 s7_7 s8_7; intro e_15 s0_15
         refine then_n <| aw_ret <| ret1 (.inr rfl) (by kernel_rfl) (resV_tmp s0_15) (.ro _ rfl) ?_
         clear s0_15 mo0_5 ml_5
         rfl
        · replace hq_14 := bf hq_14; exfalso; omega
       · cases hq_13
      · replace hq_12 := bf hq_12; exfalso; omega
     · cases hq_11
    · replace hq_10 := bf hq_10; exfalso; omega
   · cases hq_9
  · replace hq_8 := bf hq_8; exfalso; omega
end Go.Proofs.YtfmjmngkgmlghaaDoor

/- Contracts of chapter 5: the document's errors of stops and states. No conditions on a program. -/
namespace Go.Proofs.YtfmjmngkgmlghaaDoor
open Go Go.RowKit Go.Proofs
set_option linter.unusedSimpArgs false
set_option linter.unusedVariables false
theorem k30_sl33 : SlIs Tryd.prog 33 123 4 32 (.agg #[.int .i64 0, .int .i64 0, .int .i64 0, .bool false]) := ⟨by kernel_rfl, by kernel_rfl, by kernel_rfl⟩
theorem k30_ty3 : TyIs Tryd.prog 3 false 1 := ⟨by kernel_rfl, by kernel_rfl⟩
theorem k30_ty33 : TyIs Tryd.prog 33 false 1 := ⟨by kernel_rfl, by kernel_rfl⟩

theorem firstE_two (a b : Int) : firstE [a, b] = if a = 0 then b else a := by
  simp only [firstE]
  by_cases h : a = 0
  · rw [if_pos h, if_pos h]; split <;> simp_all
  · rw [if_neg h, if_neg h]
theorem stateE_ite (ps : List Piece) (post sq : Int) : stateE ps post sq = if withinB post 0 ps.length = true then (if withinB sq 0 20000000000 = true then 0 else 2) else 6 := by
  unfold stateE
  rw [firstE_two]
  cases withinB post 0 ps.length <;> cases withinB sq 0 20000000000 <;> rfl
set_option maxRecDepth 100000 in
set_option maxHeartbeats 1000000 in
theorem rStateErr_ok (nm : ByteArray) (ps : List Piece) (post sq : Int) : FnOk Tryd.prog 18 [trA nm ps, .agg [iA post, iA sq]] (fun q => q = iA (stateE ps post sq)) := by
  refine fnOk_of (fn := Tryd.f18) 16 (by kernel_rfl) rfl (by kernel_rfl) (Nat.le_of_ble_eq_true rfl) ?_
  intro e_0 m_0 hA hm_0
  have s0_0 : evA e_0 (.tmp 0) = _ := hA 0 _ rfl
  have s1_0 : evA e_0 (.tmp 1) = _ := hA 1 _ rfl
  have ml_0 : m_0.length = 0 := by rw [hm_0]; rfl
  clear hA hm_0
  refine aw_seq <| at_ <| al_stm (st_box s0_0 rfl ml_0) trivial rfl (fun m_1 hm_1 => ?_)
  have mo0_1 := m_push hm_1 ml_0
  have ml_1 := m_push_l hm_1 ml_0
  have ml_1 : _ = 1 := ml_1
  clear hm_1
  refine al_stm (st_box (up_m rfl s1_0) rfl ml_1) trivial rfl (fun m_2 hm_2 => ?_)
  have mo1_2 := m_push hm_2 ml_1
  have mo0_2 := m_push_o hm_2 mo0_1
  have ml_2 := m_push_l hm_2 ml_1
  have ml_2 : _ = 2 := ml_2
  clear hm_2 mo0_1
  refine ar (ro_assign ev_c) rfl <| ae2 (u2 rfl up_h) (up_m rfl up_h) ?_; clear s0_0 s1_0; intro e_3 s2_3 s3_3
  refine then_n <| aw_seq <| aw_seq <| at_ <| ar (ro_fld_ptr qfl37_0 rfl s3_3) rfl <| ar (ro_eq (ro_ld_ptr k30_ty3 rfl mo1_2 up_h (nle rfl)) (by simp only [pS, Value.cells, Nat.reduceAdd] <;> rfl)) rfl ?_
  refine ar (ro_fld_ptr qfl35_1 rfl (u2 rfl s2_3)) rfl <| ar (ro_eq (ro_ld_ptr k30_ty33 rfl mo0_2 up_h (nle rfl)) (by simp only [pS, Value.cells, Nat.reduceAdd] <;> rfl)) rfl ?_
  refine ar (ro_eq (ro_len_row up_h rfl k30_sl33.1) (by simp only [lnS] <;> rfl)) rfl ?_
  refine ar (ro_call (evL_cons (up_m rfl (u2 rfl up_h)) (evL_cons ev_c (evL_cons up_h evL_nil))) rfl (bWithin_ok _ _ _) qhcf42) rfl <| ar (ro_not up_h) rfl <| ae2 (up_m rfl (u2 rfl (u4 rfl s3_3))) up_h ?_; clear s2_3 s3_3; intro e_4 s3_4 s11_4
  refine then_n <| aw_case s11_4 (fun hq_5 => ?_) (fun hq_5 => ?_)
  ·replace hq_5 := bt' hq_5
   refine aw_seq <| at_ <| ar (ro_assign ev_c) rfl <| ae1 up_h ?_; clear s11_4 s3_4; intro e_6 s4_6
   refine then_n <| aw_ret <| then_r <| ret1 (.inr rfl) (by kernel_rfl) (resV_tmp s4_6) (.ro _ rfl) ?_
   clear s4_6 mo1_2 mo0_2 ml_2
   (rw [stateE_ite]; simp_all)
  replace hq_5 := bf' hq_5
  refine aw_skip <| then_n <| aw_seq <| aw_seq <| at_ <| ar (ro_fld_ptr qfl37_1 rfl s3_4) rfl <| ar (ro_eq (ro_ld_ptr k30_ty3 rfl mo1_2 up_h (nle rfl)) (by simp only [pS, Value.cells, Nat.reduceAdd] <;> rfl)) rfl ?_
  refine ar (ro_call (evL_cons up_h (evL_cons ev_c (evL_cons ev_c evL_nil))) rfl (bWithin_ok _ _ _) qhcf42) rfl <| ar (ro_not up_h) rfl <| ae1 up_h ?_; clear s11_4 s3_4; intro e_7 s15_7
  refine then_n <| aw_case s15_7 (fun hq_8 => ?_) (fun hq_8 => ?_)
  ·replace hq_8 := bt' hq_8
   refine aw_seq <| at_ <| ar (ro_assign ev_c) rfl <| ae1 up_h ?_; clear s15_7; intro e_9 s4_9
   refine then_n <| aw_ret <| then_r <| ret1 (.inr rfl) (by kernel_rfl) (resV_tmp s4_9) (.ro _ rfl) ?_
   clear s4_9 mo1_2 mo0_2 ml_2
   (rw [stateE_ite]; simp_all)
  replace hq_8 := bf' hq_8
  refine aw_skip <| then_n <| aw_seq <| at_ <| ar (ro_assign ev_c) rfl <| ae1 up_h ?_; clear s15_7; intro e_10 s4_10
  refine then_n <| aw_ret <| ret1 (.inr rfl) (by kernel_rfl) (resV_tmp s4_10) (.ro _ rfl) ?_
  clear s4_10 mo1_2 mo0_2 ml_2
  (rw [stateE_ite]; simp_all)
end Go.Proofs.YtfmjmngkgmlghaaDoor

