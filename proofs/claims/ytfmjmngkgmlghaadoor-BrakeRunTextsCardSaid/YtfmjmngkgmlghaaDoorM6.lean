/- Texts of this claim, one behind the other: lemmas for the statement. -/
import Derived.Test.YtfmjmngkgmlghaaDoorT0
import Derived.Test.YtfmjmngkgmlghaaDoorM4
/- Contracts of chapter 5: rides, places, what is lost along a piece. No conditions on a program. -/
namespace Go.Proofs.YtfmjmngkgmlghaaDoor
open Go Go.RowKit Go.Proofs
set_option linter.unusedSimpArgs false
set_option linter.unusedVariables false
theorem k4_az115 : (Tryd.prog.info? 115).bind (·.zero) = some (.agg #[.string ByteArray.empty, .slice none 0 0]) := by kernel_rfl
theorem k4_bz115 : (Tryd.prog.info? 115).bind (·.zero) = some (.agg #[.string ByteArray.empty, .slice none 0 0]) := by kernel_rfl
theorem k4_bu115 : Tryd.prog.underlying 115 = some (.struct (fsOf Tryd.prog 115)) := by kernel_rfl
theorem k4_bp115 : ∀ w, ((fsOf Tryd.prog 115).mapM fun f => Prod.mk f.offset <$> sizeOf f.type : Sem (Array (Nat × Nat))).run Tryd.prog w = .ok (#[(0, 2)]) w := fun _ => by kernel_rfl
theorem k4_bz117 : (Tryd.prog.info? 117).bind (·.zero) = some (.agg #[.string ByteArray.empty, .slice none 0 0, .int .i64 0, .int .i64 0, .int .i64 0]) := by kernel_rfl
theorem k4_bu117 : Tryd.prog.underlying 117 = some (.struct (fsOf Tryd.prog 117)) := by kernel_rfl
theorem k4_bp117 : ∀ w, ((fsOf Tryd.prog 117).mapM fun f => Prod.mk f.offset <$> sizeOf f.type : Sem (Array (Nat × Nat))).run Tryd.prog w = .ok (#[(0, 2), (2, 3)]) w := fun _ => by kernel_rfl
theorem k4_fl117_1 : FldIs Tryd.prog 117 1 2 true 3 := by unfold FldIs; kernel_rfl
theorem k4_fl80_0 : FldIs Tryd.prog 80 0 0 false 1 := by unfold FldIs; kernel_rfl
theorem k4_fl80_1 : FldIs Tryd.prog 80 1 1 false 1 := by unfold FldIs; kernel_rfl
theorem k4_fl80_2 : FldIs Tryd.prog 80 2 2 false 1 := by unfold FldIs; kernel_rfl
theorem k4_hcf112 : ∀ args w, (callFunc 112 args).run Tryd.prog w = .ok (.enter 112 args) w := fun _ _ => by kernel_rfl
theorem k4_hcf41 : ∀ args w, (callFunc 41 args).run Tryd.prog w = .ok (.enter 41 args) w := fun _ _ => by kernel_rfl
theorem k4_hcf86 : ∀ args w, (callFunc 86 args).run Tryd.prog w = .ok (.enter 86 args) w := fun _ _ => by kernel_rfl
theorem k4_hcf87 : ∀ args w, (callFunc 87 args).run Tryd.prog w = .ok (.enter 87 args) w := fun _ _ => by kernel_rfl
theorem k4_hcf90 : ∀ args w, (callFunc 90 args).run Tryd.prog w = .ok (.enter 90 args) w := fun _ _ => by kernel_rfl
theorem k4_sl109 : SlIs Tryd.prog 109 26 1 8 (.int .i64 0) := ⟨by kernel_rfl, by kernel_rfl, by kernel_rfl⟩
theorem k4_sl33 : SlIs Tryd.prog 33 123 4 32 (.agg #[.int .i64 0, .int .i64 0, .int .i64 0, .bool false]) := ⟨by kernel_rfl, by kernel_rfl, by kernel_rfl⟩
theorem k4_sz115 : (Tryd.prog.info? 115).map (·.size) = some 2 := by kernel_rfl
theorem k4_ty115 : TyIs Tryd.prog 115 true 2 := ⟨by kernel_rfl, by kernel_rfl⟩
theorem k4_ty117 : TyIs Tryd.prog 117 true 5 := ⟨by kernel_rfl, by kernel_rfl⟩
theorem k4_ty123 : TyIs Tryd.prog 123 true 4 := ⟨by kernel_rfl, by kernel_rfl⟩
theorem k4_ty3 : TyIs Tryd.prog 3 false 1 := ⟨by kernel_rfl, by kernel_rfl⟩
theorem k4_ty33 : TyIs Tryd.prog 33 false 1 := ⟨by kernel_rfl, by kernel_rfl⟩
theorem k4_ty35 : TyIs Tryd.prog 35 true 2 := ⟨by kernel_rfl, by kernel_rfl⟩
theorem k4_ty80 : TyIs Tryd.prog 80 true 3 := ⟨by kernel_rfl, by kernel_rfl⟩

def sysRight (b d v : Int) : Bool := withinB b 1 3000 && withinB d 0 500 && withinB v 0 2000
def sysE (b d v : Int) : Int := firstE [unlessE (sysRight b d v) 2, unlessE (decide (d ≤ b)) 9]
set_option maxRecDepth 100000 in
set_option maxHeartbeats 1000000 in
theorem checkSystem_ok (b d v : Int) : FnOk Tryd.prog 87 [syA b d v] (fun q => q = iA (sysE b d v)) := by
  refine fnOk_of (fn := Tryd.f87) 27 (by kernel_rfl) rfl (by kernel_rfl) (Nat.le_of_ble_eq_true rfl) ?_
  intro e_0 m_0 hA hm_0
  have s0_0 : evA e_0 (.tmp 0) = _ := hA 0 _ rfl
  have ml_0 : m_0.length = 0 := by rw [hm_0]; rfl
  clear hA hm_0
  refine aw_seq <| at_ <| al_stm (st_box s0_0 rfl ml_0) trivial rfl (fun m_1 hm_1 => ?_)
  have mo0_1 := m_push hm_1 ml_0
  have ml_1 := m_push_l hm_1 ml_0
  have ml_1 : _ = 1 := ml_1
  clear hm_1
  refine ar (ro_assign ev_c) rfl <| ae1 (up_m rfl up_h) ?_; clear s0_0; intro e_2 s1_2
  refine then_n <| aw_seq <| at_ <| ar (ro_fld_ptr k4_fl80_0 rfl s1_2) rfl <| ar (ro_eq (ro_ld_ptr k4_ty3 rfl mo0_1 up_h (nle rfl)) (by simp only [pS, Value.cells, Nat.reduceAdd] <;> rfl)) rfl ?_
  refine ar (ro_call (evL_cons up_h (evL_cons ev_c (evL_cons ev_c evL_nil))) rfl (within_ok _ _ _) qhcf88) rfl <| ar (ro_move up_h) rfl <| al_case up_h (fun hb_3 hq_3 => ?_) (fun hb_3 hq_3 => ?_)
  ·skip
   refine al_ro' (ro_fld_ptr k4_fl80_1 rfl (u4 rfl s1_2)) ⟨_, rfl, hb_3⟩ rfl ?_
   refine al_ro' (ro_eq (ro_ld_ptr k4_ty3 rfl mo0_1 up_h (nle rfl)) (by simp only [pS, Value.cells, Nat.reduceAdd] <;> rfl)) ⟨_, rfl, (up_m rfl hb_3)⟩ rfl ?_
   refine al_ro' (ro_call (evL_cons up_h (evL_cons ev_c (evL_cons ev_c evL_nil))) rfl (within_ok _ _ _) qhcf88) ⟨_, rfl, (u2 rfl hb_3)⟩ rfl ?_
   refine ar (ro_pickT (up_m rfl (u2 rfl hb_3)) up_h) rfl <| ar (ro_move up_h) rfl <| al_case up_h (fun hb_4 hq_4 => ?_) (fun hb_4 hq_4 => ?_)
   ·skip
    refine al_ro' (ro_fld_ptr k4_fl80_2 rfl (up_m rfl (u8 rfl s1_2))) ⟨_, rfl, hb_4⟩ rfl ?_
    refine al_ro' (ro_eq (ro_ld_ptr k4_ty3 rfl mo0_1 up_h (nle rfl)) (by simp only [pS, Value.cells, Nat.reduceAdd] <;> rfl)) ⟨_, rfl, (up_m rfl hb_4)⟩ rfl ?_
    refine al_ro' (ro_call (evL_cons up_h (evL_cons ev_c (evL_cons ev_c evL_nil))) rfl (within_ok _ _ _) qhcf88) ⟨_, rfl, (u2 rfl hb_4)⟩ rfl ?_
    refine ar (ro_pickT (up_m rfl (u2 rfl hb_4)) up_h) rfl <| ar (ro_assign up_h) rfl <| ae2 (u2 rfl (u4 rfl (u8 rfl s1_2))) up_h ?_; clear hb_3 hb_4 s1_2; intro e_5 s1_5 s3_5
    refine then_n <| aw_seq <| aw_draw 11 (by kernel_rfl) (by kernel_rfl) (by kernel_rfl) (by kernel_rfl) ?_
    refine dr (ro_move s3_5) rfl <| dr (ro_call (evL_cons up_h (evL_cons ev_c evL_nil)) rfl (unless_ok _ _) qhcf66) rfl <| dr (ro_fld_ptr k4_fl80_1 rfl (u2 rfl s1_5)) rfl <| dr (ro_eq (ro_ld_ptr k4_ty3 rfl mo0_1 up_h (nle rfl)) (by simp only [pS, Value.cells, Nat.reduceAdd] <;> rfl)) rfl ?_
    refine dr (ro_fld_ptr k4_fl80_0 rfl (u4 rfl s1_5)) rfl <| dr (ro_eq (ro_ld_ptr k4_ty3 rfl mo0_1 up_h (nle rfl)) (by simp only [pS, Value.cells, Nat.reduceAdd] <;> rfl)) rfl ?_
    refine dr (ro_leq (u2 rfl up_h) up_h) rfl <| dr (ro_call (evL_cons up_h (evL_cons ev_c evL_nil)) rfl (unless_ok _ _) qhcf66) rfl <| dr (ro_lit k4_sl109 (evP_cons (u2 rfl (u4 rfl up_h)) (evP_cons up_h evP_nil)) rfl rfl rfl rfl) rfl <| dr (ro_call (evL_cons up_h evL_nil) rfl (first_ok [_, _] (by simp)) qhcf58) rfl ?_
    refine dr (ro_assign up_h) rfl <| ds_nil <| ae1 up_h ?_; clear s1_5 s3_5; intro e_6 s2_6
    refine then_n <| aw_ret <| ret1 (.inr rfl) (by kernel_rfl) (resV_tmp s2_6) (.ro _ rfl) ?_
    clear s2_6 mo0_1 ml_1
    simp_all [sysE, sysRight]
   refine al_skip' ⟨_, rfl, .inl hb_4⟩ rfl ?_
   refine al_skip' ⟨_, rfl, .inl (up_m rfl hb_4)⟩ rfl ?_
   refine al_skip' ⟨_, rfl, .inl (u2 rfl hb_4)⟩ rfl ?_
   refine ar (ro_pickF (up_m rfl (u2 rfl hb_4)) ev_c) rfl <| ar (ro_assign up_h) rfl <| ae2 (u2 rfl (u4 rfl (u8 rfl s1_2))) up_h ?_; clear hb_3 hb_4 s1_2; intro e_7 s1_7 s3_7
   refine then_n <| aw_seq <| aw_draw 11 (by kernel_rfl) (by kernel_rfl) (by kernel_rfl) (by kernel_rfl) ?_
   refine dr (ro_move s3_7) rfl <| dr (ro_call (evL_cons up_h (evL_cons ev_c evL_nil)) rfl (unless_ok _ _) qhcf66) rfl <| dr (ro_fld_ptr k4_fl80_1 rfl (u2 rfl s1_7)) rfl <| dr (ro_eq (ro_ld_ptr k4_ty3 rfl mo0_1 up_h (nle rfl)) (by simp only [pS, Value.cells, Nat.reduceAdd] <;> rfl)) rfl ?_
   refine dr (ro_fld_ptr k4_fl80_0 rfl (u4 rfl s1_7)) rfl <| dr (ro_eq (ro_ld_ptr k4_ty3 rfl mo0_1 up_h (nle rfl)) (by simp only [pS, Value.cells, Nat.reduceAdd] <;> rfl)) rfl ?_
   refine dr (ro_leq (u2 rfl up_h) up_h) rfl <| dr (ro_call (evL_cons up_h (evL_cons ev_c evL_nil)) rfl (unless_ok _ _) qhcf66) rfl <| dr (ro_lit k4_sl109 (evP_cons (u2 rfl (u4 rfl up_h)) (evP_cons up_h evP_nil)) rfl rfl rfl rfl) rfl <| dr (ro_call (evL_cons up_h evL_nil) rfl (first_ok [_, _] (by simp)) qhcf58) rfl ?_
   refine dr (ro_assign up_h) rfl <| ds_nil <| ae1 up_h ?_; clear s1_7 s3_7; intro e_8 s2_8
   refine then_n <| aw_ret <| ret1 (.inr rfl) (by kernel_rfl) (resV_tmp s2_8) (.ro _ rfl) ?_
   clear s2_8 mo0_1 ml_1
   simp_all [sysE, sysRight]
  refine al_skip' ⟨_, rfl, .inl hb_3⟩ rfl ?_
  refine al_skip' ⟨_, rfl, .inl (up_m rfl hb_3)⟩ rfl ?_
  refine al_skip' ⟨_, rfl, .inl (u2 rfl hb_3)⟩ rfl ?_
  refine ar (ro_pickF (up_m rfl (u2 rfl hb_3)) ev_c) rfl <| ar (ro_move up_h) rfl <| al_skip' ⟨_, rfl, .inl up_h⟩ rfl ?_
  refine al_skip' ⟨_, rfl, .inl (up_m rfl up_h)⟩ rfl ?_
  refine al_skip' ⟨_, rfl, .inl (u2 rfl up_h)⟩ rfl ?_
  refine ar (ro_pickF (up_m rfl (u2 rfl up_h)) ev_c) rfl <| ar (ro_assign up_h) rfl <| ae2 (u2 rfl (u4 rfl (u8 rfl s1_2))) up_h ?_; clear hb_3 s1_2; intro e_9 s1_9 s3_9
  refine then_n <| aw_seq <| aw_draw 11 (by kernel_rfl) (by kernel_rfl) (by kernel_rfl) (by kernel_rfl) ?_
  refine dr (ro_move s3_9) rfl <| dr (ro_call (evL_cons up_h (evL_cons ev_c evL_nil)) rfl (unless_ok _ _) qhcf66) rfl <| dr (ro_fld_ptr k4_fl80_1 rfl (u2 rfl s1_9)) rfl <| dr (ro_eq (ro_ld_ptr k4_ty3 rfl mo0_1 up_h (nle rfl)) (by simp only [pS, Value.cells, Nat.reduceAdd] <;> rfl)) rfl ?_
  refine dr (ro_fld_ptr k4_fl80_0 rfl (u4 rfl s1_9)) rfl <| dr (ro_eq (ro_ld_ptr k4_ty3 rfl mo0_1 up_h (nle rfl)) (by simp only [pS, Value.cells, Nat.reduceAdd] <;> rfl)) rfl ?_
  refine dr (ro_leq (u2 rfl up_h) up_h) rfl <| dr (ro_call (evL_cons up_h (evL_cons ev_c evL_nil)) rfl (unless_ok _ _) qhcf66) rfl <| dr (ro_lit k4_sl109 (evP_cons (u2 rfl (u4 rfl up_h)) (evP_cons up_h evP_nil)) rfl rfl rfl rfl) rfl <| dr (ro_call (evL_cons up_h evL_nil) rfl (first_ok [_, _] (by simp)) qhcf58) rfl ?_
  refine dr (ro_assign up_h) rfl <| ds_nil <| ae1 up_h ?_; clear s1_9 s3_9; intro e_10 s2_10
  refine then_n <| aw_ret <| ret1 (.inr rfl) (by kernel_rfl) (resV_tmp s2_10) (.ro _ rfl) ?_
  clear s2_10 mo0_1 ml_1
  simp_all [sysE, sysRight]
section
variable (nm : ByteArray) (ps : List Piece) (hs : nm.size ≤ 1000000000) (hp : ps.length ≤ 1000000000)
include hs hp
set_option maxRecDepth 100000 in
set_option maxHeartbeats 1000000 in
theorem rTrackErr_ok : FnOk Tryd.prog 17 [trA nm ps] (fun q => q = iA (chk nm ps).2) := by
  refine fnOk_of (fn := Tryd.f17) 11 (by kernel_rfl) rfl (by kernel_rfl) (Nat.le_of_ble_eq_true rfl) ?_
  intro e_0 m_0 hA hm_0
  have s0_0 : evA e_0 (.tmp 0) = _ := hA 0 _ rfl
  have ml_0 : m_0.length = 0 := by rw [hm_0]; rfl
  clear hA hm_0
  refine aw_seq <| at_ <| al_stm (st_box s0_0 rfl ml_0) trivial rfl (fun m_1 hm_1 => ?_)
  have mo0_1 := m_push hm_1 ml_0
  have ml_1 := m_push_l hm_1 ml_0
  have ml_1 : _ = 1 := ml_1
  clear hm_1
  refine ar (ro_assign ev_c) rfl <| ae1 (up_m rfl up_h) ?_; clear s0_0; intro e_2 s1_2
  refine then_n <| aw_seq <| at_ <| ar (ro_eq (ro_ld_ptr k4_ty35 rfl mo0_1 s1_2 (nle rfl)) (by simp only [pS, Value.cells, Nat.reduceAdd] <;> rfl)) rfl ?_
  refine ar (ro_call (evL_cons up_h evL_nil) rfl (rCheckTrack_ok nm ps hs hp) k4_hcf41) rfl <| ar (ro_move up_h) rfl <| ar (ro_extract up_h rfl) rfl <| ar (ro_extract (up_m rfl up_h) rfl) rfl <| ar (ro_assign (up_m rfl up_h)) rfl <| ar (ro_assign (up_m rfl up_h)) rfl <| ae1 up_h ?_; clear s1_2; intro e_3 s4_3
  refine then_n <| aw_seq <| at_ <| ar (ro_move s4_3) rfl <| ar (ro_assign up_h) rfl <| ae1 up_h ?_; clear s4_3; intro e_4 s2_4
  refine then_n <| aw_ret <| ret1 (.inr rfl) (by kernel_rfl) (resV_tmp s2_4) (.ro _ rfl) ?_
  clear s2_4 mo0_1 ml_1
  rfl
set_option maxRecDepth 100000 in
set_option maxHeartbeats 1000000 in
theorem open_ok : FnOk Tryd.prog 86 [trA nm ps] (fun q => q = .tuple [trA nm ps, iA (chk nm ps).2]) := by
  refine fnOk_of (fn := Tryd.f86) 14 (by kernel_rfl) rfl (by kernel_rfl) (Nat.le_of_ble_eq_true rfl) ?_
  intro e_0 m_0 hA hm_0
  have s0_0 : evA e_0 (.tmp 0) = _ := hA 0 _ rfl
  have ml_0 : m_0.length = 0 := by rw [hm_0]; rfl
  clear hA hm_0
  refine aw_seq <| at_ <| al_stm (st_box s0_0 rfl ml_0) trivial rfl (fun m_1 hm_1 => ?_)
  have mo0_1 := m_push hm_1 ml_0
  have ml_1 := m_push_l hm_1 ml_0
  have ml_1 : _ = 1 := ml_1
  clear hm_1
  refine al_stm (st_alloc k4_az115 rfl ml_1) trivial rfl (fun m_2 hm_2 => ?_)
  have mo1_2 := m_push hm_2 ml_1
  simp only [pS, Value.cells, Nat.reduceAdd] at mo1_2
  have mo0_2 := m_push_o hm_2 mo0_1
  have ml_2 := m_push_l hm_2 ml_1
  have ml_2 : _ = 2 := ml_2
  clear hm_2 mo0_1
  refine ar (ro_assign ev_c) rfl <| ae2 (u2 rfl up_h) (up_m rfl up_h) ?_; clear s0_0; intro e_3 s1_3 s2_3
  refine then_n <| aw_seq <| at_ <| ar (ro_eq (ro_ld_ptr k4_ty35 rfl mo0_2 s1_3 (nle rfl)) (by simp only [pS, Value.cells, Nat.reduceAdd] <;> rfl)) rfl ?_
  refine ar (ro_call (evL_cons up_h evL_nil) rfl (checkTrack_ok nm ps hs hp) k4_hcf112) rfl <| ar (ro_move up_h) rfl <| ar (ro_extract up_h rfl) rfl <| ar (ro_extract (up_m rfl up_h) rfl) rfl <| ar (ro_assign (up_m rfl up_h)) rfl <| ar (ro_assign (up_m rfl up_h)) rfl <| ae3 (up_m rfl (u2 rfl (u4 rfl s1_3))) (up_m rfl (u2 rfl (u4 rfl s2_3))) up_h ?_; clear s1_3 s2_3; intro e_4 s1_4 s2_4 s5_4
  refine then_n <| aw_seq <| at_ <| ar (ro_eq (ro_ld_ptr k4_ty35 rfl mo0_2 s1_4 (nle rfl)) (by simp only [pS, Value.cells, Nat.reduceAdd] <;> rfl)) rfl ?_
  refine ar (ro_build (evP_cons up_h evP_nil) k4_bz115 k4_bu115 k4_bp115 rfl) rfl ?_
  refine ar (ro_move (u2 rfl s5_4)) rfl <| al_stm (st_store (up_m rfl (u2 rfl s2_4)) (up_m rfl up_h) rfl rfl mo1_2 k4_sz115 rfl (nle rfl)) trivial rfl (fun m_5 hm_5 => ?_)
  have mo1_5 := m_set hm_5 mo1_2
  simp only [pS, Value.cells, Nat.reduceAdd] at mo1_5
  have mo0_5 := m_set_o hm_5 mo0_2 (by decide)
  have ml_5 := m_set_l hm_5 ml_2
  clear hm_5 mo1_2 mo0_2
  refine ar (ro_assign (up_n up_h)) rfl <| ae2 (up_m rfl (up_n (up_m rfl (u2 rfl s2_4)))) up_h ?_; clear s1_4 s2_4 s5_4; intro e_6 s2_6 s3_6
  refine then_n <| aw_ret <| ret2 (.inr rfl) (by kernel_rfl) (resV_cell s2_6 mo1_5 k4_ty115 (nle rfl) (by simp)) (resV_tmp s3_6) (vw_r (.ro _ rfl)) (.ro _ rfl) ?_
  clear s2_6 s3_6 mo1_5 mo0_5 ml_5
  rfl
set_option maxRecDepth 100000 in
set_option maxHeartbeats 1000000 in
theorem openRide_ok (b d v : Int) : FnOk Tryd.prog 57 [trA nm ps, syA b d v] (fun q => q = .tuple [riA nm ps b d v, iA (firstE [(chk nm ps).2, sysE b d v])]) := by
  refine fnOk_of (fn := Tryd.f57) 21 (by kernel_rfl) rfl (by kernel_rfl) (Nat.le_of_ble_eq_true rfl) ?_
  intro e_0 m_0 hA hm_0
  have s0_0 : evA e_0 (.tmp 0) = _ := hA 0 _ rfl
  have s1_0 : evA e_0 (.tmp 1) = _ := hA 1 _ rfl
  have ml_0 : m_0.length = 0 := by rw [hm_0]; rfl
  clear hA hm_0
  refine aw_seq <| at_ <| al_stm (st_box s0_0 rfl ml_0) trivial rfl (fun m_1 hm_1 => ?_)
  have mo0_1 := m_push hm_1 ml_0
  have ml_1 := m_push_l hm_1 ml_0
  have ml_1 : _ = 1 := ml_1
  clear hm_1
  refine al_stm (st_box (up_m rfl s1_0) rfl ml_1) trivial rfl (fun m_2 hm_2 => ?_)
  have mo1_2 := m_push hm_2 ml_1
  have mo0_2 := m_push_o hm_2 mo0_1
  have ml_2 := m_push_l hm_2 ml_1
  have ml_2 : _ = 2 := ml_2
  clear hm_2 mo0_1
  refine al_stm (st_alloc qaz117 rfl ml_2) trivial rfl (fun m_3 hm_3 => ?_)
  have mo2_3 := m_push hm_3 ml_2
  simp only [pS, Value.cells, Nat.reduceAdd] at mo2_3
  have mo1_3 := m_push_o hm_3 mo1_2
  have mo0_3 := m_push_o hm_3 mo0_2
  have ml_3 := m_push_l hm_3 ml_2
  have ml_3 : _ = 3 := ml_3
  clear hm_3 mo1_2 mo0_2
  refine ar (ro_assign ev_c) rfl <| ae3 (up_m rfl (u2 rfl up_h)) (u2 rfl up_h) (up_m rfl up_h) ?_; clear s0_0 s1_0; intro e_4 s2_4 s3_4 s4_4
  refine then_n <| aw_seq <| at_ <| ar (ro_eq (ro_ld_ptr k4_ty35 rfl mo0_3 s2_4 (nle rfl)) (by simp only [pS, Value.cells, Nat.reduceAdd] <;> rfl)) rfl ?_
  refine ar (ro_call (evL_cons up_h evL_nil) rfl (open_ok nm ps hs hp) k4_hcf86) rfl <| ar (ro_move up_h) rfl <| ar (ro_extract up_h rfl) rfl <| ar (ro_extract (up_m rfl up_h) rfl) rfl <| al_stm (st_alloc k4_az115 rfl ml_3) trivial rfl (fun m_5 hm_5 => ?_)
  have mo3_5 := m_push hm_5 ml_3
  simp only [pS, Value.cells, Nat.reduceAdd] at mo3_5
  have mo2_5 := m_push_o hm_5 mo2_3
  have mo1_5 := m_push_o hm_5 mo1_3
  have mo0_5 := m_push_o hm_5 mo0_3
  have ml_5 := m_push_l hm_5 ml_3
  have ml_5 : _ = 4 := ml_5
  clear hm_5 mo2_3 mo1_3 mo0_3
  refine al_stm (st_store up_h (u2 rfl up_h) rfl rfl mo3_5 k4_sz115 rfl (nle rfl)) trivial rfl (fun m_6 hm_6 => ?_)
  have mo3_6 := m_set hm_6 mo3_5
  simp only [pS, Value.cells, Nat.reduceAdd] at mo3_6
  have mo2_6 := m_set_o hm_6 mo2_5 (by decide)
  have mo1_6 := m_set_o hm_6 mo1_5 (by decide)
  have mo0_6 := m_set_o hm_6 mo0_5 (by decide)
  have ml_6 := m_set_l hm_6 ml_5
  clear hm_6 mo3_5 mo2_5 mo1_5 mo0_5
  refine ar (ro_assign (up_n (up_m rfl up_h))) rfl <| ae4 (up_m rfl (up_n (u2 rfl (u4 rfl s3_4)))) (up_m rfl (up_n (u2 rfl (u4 rfl s4_4)))) (up_m rfl (up_n up_h)) up_h ?_; clear s2_4 s3_4 s4_4; intro e_7 s3_7 s4_7 s6_7 s7_7
  refine then_n <| aw_seq <| aw_draw 8 (by kernel_rfl) (by kernel_rfl) (by kernel_rfl) (by kernel_rfl) ?_
  refine dr (ro_eq (ro_ld_ptr k4_ty115 rfl mo3_6 s6_7 (nle rfl)) (by simp only [pS, Value.cells, Nat.reduceAdd] <;> rfl)) rfl ?_
  refine dr (ro_eq (ro_ld_ptr k4_ty80 rfl mo1_6 (up_m rfl s3_7) (nle rfl)) (by simp only [pS, Value.cells, Nat.reduceAdd] <;> rfl)) rfl ?_
  refine dr (ro_build (evP_cons (up_m rfl up_h) (evP_cons up_h evP_nil)) k4_bz117 k4_bu117 k4_bp117 rfl) rfl ?_
  refine dr (ro_move (up_m rfl (u2 rfl s7_7))) rfl <| dr (ro_eq (ro_ld_ptr k4_ty80 rfl mo1_6 (u4 rfl s3_7) (nle rfl)) (by simp only [pS, Value.cells, Nat.reduceAdd] <;> rfl)) rfl ?_
  refine dr (ro_call (evL_cons up_h evL_nil) rfl (checkSystem_ok b d v) k4_hcf87) rfl <| dr (ro_lit k4_sl109 (evP_cons (u2 rfl up_h) (evP_cons up_h evP_nil)) rfl rfl rfl rfl) rfl <| dr (ro_call (evL_cons up_h evL_nil) rfl (first_ok [_, _] (by simp)) qhcf58) rfl ?_
  refine ds_nil <| al_stm (st_store (u8 rfl s4_7) (up_m rfl (u4 rfl up_h)) rfl rfl mo2_6 qsz117 rfl (nle rfl)) trivial rfl (fun m_8 hm_8 => ?_)
  have mo2_8 := m_set hm_8 mo2_6
  simp only [pS, Value.cells, Nat.reduceAdd] at mo2_8
  have mo3_8 := m_set_o hm_8 mo3_6 (by decide)
  have mo1_8 := m_set_o hm_8 mo1_6 (by decide)
  have mo0_8 := m_set_o hm_8 mo0_6 (by decide)
  have ml_8 := m_set_l hm_8 ml_6
  clear hm_8 mo3_6 mo2_6 mo1_6 mo0_6
  refine ar (ro_assign (up_n up_h)) rfl <| ae2 (up_m rfl (up_n (u8 rfl s4_7))) up_h ?_; clear s3_7 s4_7 s6_7 s7_7; intro e_9 s4_9 s5_9
  refine then_n <| aw_ret <| ret2 (.inr rfl) (by kernel_rfl) (resV_cell s4_9 mo2_8 k4_ty117 (nle rfl) (by simp)) (resV_tmp s5_9) (vw_r (.ro _ rfl)) (.ro _ rfl) ?_
  clear s4_9 s5_9 mo2_8 mo3_8 mo1_8 mo0_8 ml_8
  rfl
end
set_option maxRecDepth 100000 in
set_option maxHeartbeats 1000000 in
theorem last_ok (nm : ByteArray) (ps : List Piece) : FnOk Tryd.prog 70 [trA nm ps] (fun q => q = iA ps.length) := by
  refine fnOk_of (fn := Tryd.f70) 7 (by kernel_rfl) rfl (by kernel_rfl) (Nat.le_of_ble_eq_true rfl) ?_
  intro e_0 m_0 hA hm_0
  have s0_0 : evA e_0 (.tmp 0) = _ := hA 0 _ rfl
  have ml_0 : m_0.length = 0 := by rw [hm_0]; rfl
  clear hA hm_0
  refine aw_seq <| at_ <| al_stm (st_box s0_0 rfl ml_0) trivial rfl (fun m_1 hm_1 => ?_)
  have mo0_1 := m_push hm_1 ml_0
  have ml_1 := m_push_l hm_1 ml_0
  have ml_1 : _ = 1 := ml_1
  clear hm_1
  refine ar (ro_assign ev_c) rfl <| ae1 (up_m rfl up_h) ?_; clear s0_0; intro e_2 s1_2
  refine then_n <| aw_seq <| at_ <| ar (ro_fld_ptr qfl115_0 rfl s1_2) rfl <| ar (ro_fld_ptr qfl35_1 rfl up_h) rfl <| ar (ro_eq (ro_ld_ptr k4_ty33 rfl mo0_1 up_h (nle rfl)) (by simp only [pS, Value.cells, Nat.reduceAdd] <;> rfl)) rfl ?_
  refine ar (ro_eq (ro_len_row up_h rfl k4_sl33.1) (by simp only [lnS] <;> rfl)) rfl ?_
  refine ar (ro_assign up_h) rfl <| ae1 up_h ?_; clear s1_2; intro e_3 s2_3
  refine then_n <| aw_ret <| ret1 (.inr rfl) (by kernel_rfl) (resV_tmp s2_3) (.ro _ rfl) ?_
  clear s2_3 mo0_1 ml_1
  rfl
/-- All pieces are right. -/
def Ok (ps : List Piece) : Prop := ∀ p ∈ ps, pieceB p = true
theorem Ok.at {ps : List Piece} (h : Ok ps) (i : Nat) : (0 ≤ (ps.getD i default).len ∧ (ps.getD i default).len ≤ 10000000) ∧ (-100 ≤ (ps.getD i default).grad ∧ (ps.getD i default).grad ≤ 100) ∧ (0 ≤ (ps.getD i default).lim ∧ (ps.getD i default).lim ≤ 20000000000) := by
  by_cases hi : i < ps.length
  · have e : ps.getD i default = ps[i] := by simp [List.getD_eq_getElem?_getD, hi]
    have := h ps[i] (List.getElem_mem hi)
    rw [e]
    simp only [pieceB, withinB, Bool.and_eq_true, decide_eq_true_eq] at this
    omega
  · have e : ps.getD i default = default := by simp [List.getD_eq_getElem?_getD, List.getElem?_eq_none (Nat.le_of_not_lt hi)]
    rw [e]
    decide
def losW (dec : Int) (p : Piece) : Int := 2 * (dec + 10 * p.grad) * p.len
theorem los_bound {dec : Int} {p : Piece} (hd : -3000 ≤ dec ∧ dec ≤ 3000) (hl : 0 ≤ p.len ∧ p.len ≤ 10000000) (hg : -100 ≤ p.grad ∧ p.grad ≤ 100) : -80000000000 ≤ losW dec p ∧ losW dec p ≤ 80000000000 := by
  unfold losW
  have h1 : -8000 ≤ 2 * (dec + 10 * p.grad) ∧ 2 * (dec + 10 * p.grad) ≤ 8000 := by omega
  generalize 2 * (dec + 10 * p.grad) = a at h1
  have h2 : a * p.len ≤ 8000 * p.len := Int.mul_le_mul_of_nonneg_right h1.2 hl.1
  have h3 : -8000 * p.len ≤ a * p.len := Int.mul_le_mul_of_nonneg_right h1.1 hl.1
  omega
section
variable (nm : ByteArray) (ps : List Piece) (hok : Ok ps) (b d v : Int) (i : Int) (h0 : 0 ≤ i) (h1 : i < ps.length)
include hok h0 h1
set_option maxRecDepth 100000 in
set_option maxHeartbeats 1000000 in
theorem loses_ok (dec : Int) (hd : -3000 ≤ dec ∧ dec ≤ 3000) : FnOk Tryd.prog 90 [riA nm ps b d v, iA dec, iA i] (fun q => q = iA (losW dec (ps.getD i.toNat default))) := by
  obtain ⟨hl, hg, _⟩ := hok.at i.toNat
  have hb := los_bound hd hl hg
  unfold losW at hb
  refine fnOk_of (fn := Tryd.f90) 24 (by kernel_rfl) rfl (by kernel_rfl) (Nat.le_of_ble_eq_true rfl) ?_
  intro e_0 m_0 hA hm_0
  have s0_0 : evA e_0 (.tmp 0) = _ := hA 0 _ rfl
  have s1_0 : evA e_0 (.tmp 1) = _ := hA 1 _ rfl
  have s2_0 : evA e_0 (.tmp 2) = _ := hA 2 _ rfl
  have ml_0 : m_0.length = 0 := by rw [hm_0]; rfl
  clear hA hm_0
  refine aw_seq <| at_ <| al_stm (st_box s0_0 rfl ml_0) trivial rfl (fun m_1 hm_1 => ?_)
  have mo0_1 := m_push hm_1 ml_0
  have ml_1 := m_push_l hm_1 ml_0
  have ml_1 : _ = 1 := ml_1
  clear hm_1
  refine ar (ro_assign ev_c) rfl <| ae3 (u2 rfl s1_0) (u2 rfl s2_0) (up_m rfl up_h) ?_; clear s0_0 s1_0 s2_0; intro e_2 s1_2 s2_2 s3_2
  refine then_n <| aw_seq <| at_ <| ar (ro_fld_ptr qfl117_0 rfl s3_2) rfl <| ar (ro_fld_ptr qfl115_0 rfl up_h) rfl <| ar (ro_fld_ptr qfl35_1 rfl up_h) rfl <| ar (ro_eq (ro_ld_ptr k4_ty33 rfl mo0_1 up_h (nle rfl)) (by simp only [pS, Value.cells, Nat.reduceAdd, pE] <;> rfl)) rfl ?_
  refine ar (ro_move (u4 rfl s2_2)) rfl <| ar (ro_eq (ro_ix k4_sl33 (up_m rfl up_h) up_h (by omega) (by first | (refine idx_map ?_; first | omega | (simp only [lnS]; omega)) | (refine idx_mapI ?_; first | omega | (simp only [lnS]; omega)) | (refine idx_mapN ?_; first | omega | (simp only [lnS]; omega)) | rfl)) (by simp only [pS, Value.cells, Nat.reduceAdd, pE] <;> rfl)) rfl ?_
  refine ar (ro_eq (ro_ld_ref k4_ty123 rfl up_h (nle rfl)) (by simp only [pS, Value.cells, Nat.reduceAdd, pE] <;> rfl)) rfl ?_
  refine al_stm (st_alloc qaz123 rfl ml_1) trivial rfl (fun m_3 hm_3 => ?_)
  have mo1_3 := m_push hm_3 ml_1
  simp only [pS, Value.cells, Nat.reduceAdd, pE] at mo1_3
  have mo0_3 := m_push_o hm_3 mo0_1
  have ml_3 := m_push_l hm_3 ml_1
  have ml_3 : _ = 2 := ml_3
  clear hm_3 mo0_1
  refine al_stm (st_store up_h (up_m rfl up_h) rfl rfl mo1_3 qsz123 rfl (nle rfl)) trivial rfl (fun m_4 hm_4 => ?_)
  have mo1_4 := m_set hm_4 mo1_3
  simp only [pS, Value.cells, Nat.reduceAdd, pE] at mo1_4
  have mo0_4 := m_set_o hm_4 mo0_3 (by decide)
  have ml_4 := m_set_l hm_4 ml_3
  clear hm_4 mo1_3 mo0_3
  refine ae2 (up_n (u8 rfl s1_2)) (up_n up_h) ?_; clear s1_2 s2_2 s3_2; intro e_5 s1_5 s7_5
  refine then_n <| aw_seq <| at_ <| ar (ro_move s1_5) rfl <| ar (ro_fld_ptr qfl123_1 rfl (up_m rfl s7_5)) rfl <| ar (ro_eq (ro_ld_ptr k4_ty3 rfl mo1_4 up_h (nle rfl)) (by simp only [pS, Value.cells, Nat.reduceAdd, pE] <;> rfl)) rfl ?_
  (refine ar (ro_mul' ev_c up_h ?_) rfl ?_; · (unfold In64; omega))
  (refine ar (ro_add' (up_m rfl (u2 rfl up_h)) up_h ?_) rfl ?_; · (unfold In64; omega))
  (refine ar (ro_mul' ev_c up_h ?_) rfl ?_; · (unfold In64; omega))
  refine ar (ro_fld_ptr qfl123_0 rfl (u2 rfl (u4 rfl s7_5))) rfl <| ar (ro_eq (ro_ld_ptr k4_ty3 rfl mo1_4 up_h (nle rfl)) (by simp only [pS, Value.cells, Nat.reduceAdd, pE] <;> rfl)) rfl ?_
  (refine ar (ro_mul' (u2 rfl up_h) up_h ?_) rfl ?_; · (unfold In64; omega))
  refine ar (ro_assign up_h) rfl <| ae1 up_h ?_; clear s1_5 s7_5; intro e_6 s6_6
  refine then_n <| aw_ret <| ret1 (.inr rfl) (by kernel_rfl) (resV_tmp s6_6) (.ro _ rfl) ?_
  clear s6_6 mo1_4 mo0_4 ml_4
  rfl
set_option maxRecDepth 100000 in
set_option maxHeartbeats 1000000 in
theorem braked_ok (hb : 0 ≤ b ∧ b ≤ 3000) : FnOk Tryd.prog 65 [riA nm ps b d v, iA i] (fun q => q = iA (losW b (ps.getD i.toNat default))) := by
  refine fnOk_of (fn := Tryd.f65) 11 (by kernel_rfl) rfl (by kernel_rfl) (Nat.le_of_ble_eq_true rfl) ?_
  intro e_0 m_0 hA hm_0
  have s0_0 : evA e_0 (.tmp 0) = _ := hA 0 _ rfl
  have s1_0 : evA e_0 (.tmp 1) = _ := hA 1 _ rfl
  have ml_0 : m_0.length = 0 := by rw [hm_0]; rfl
  clear hA hm_0
  refine aw_seq <| at_ <| al_stm (st_box s0_0 rfl ml_0) trivial rfl (fun m_1 hm_1 => ?_)
  have mo0_1 := m_push hm_1 ml_0
  have ml_1 := m_push_l hm_1 ml_0
  have ml_1 : _ = 1 := ml_1
  clear hm_1
  refine ar (ro_assign ev_c) rfl <| ae2 (u2 rfl s1_0) (up_m rfl up_h) ?_; clear s0_0 s1_0; intro e_2 s1_2 s2_2
  refine then_n <| aw_seq <| at_ <| ar (ro_eq (ro_ld_ptr k4_ty117 rfl mo0_1 s2_2 (nle rfl)) (by simp only [pS, Value.cells, Nat.reduceAdd] <;> rfl)) rfl ?_
  refine ar (ro_fld_ptr k4_fl117_1 rfl (up_m rfl s2_2)) rfl <| ar (ro_fld_ptr k4_fl80_0 rfl up_h) rfl <| ar (ro_eq (ro_ld_ptr k4_ty3 rfl mo0_1 up_h (nle rfl)) (by simp only [pS, Value.cells, Nat.reduceAdd] <;> rfl)) rfl ?_
  refine ar (ro_move (u4 rfl s1_2)) rfl <| ar (ro_call (evL_cons (u4 rfl up_h) (evL_cons (up_m rfl up_h) (evL_cons up_h evL_nil))) rfl (loses_ok nm ps hok b d v i h0 h1 b (by omega)) k4_hcf90) rfl ?_
  refine ar (ro_assign up_h) rfl <| ae1 up_h ?_; clear s1_2 s2_2; intro e_3 s4_3
  refine then_n <| aw_ret <| ret1 (.inr rfl) (by kernel_rfl) (resV_tmp s4_3) (.ro _ rfl) ?_
  clear s4_3 mo0_1 ml_1
  rfl
set_option maxRecDepth 100000 in
set_option maxHeartbeats 1000000 in
theorem coasting_ok (hb : 0 ≤ d ∧ d ≤ 3000) : FnOk Tryd.prog 89 [riA nm ps b d v, iA i] (fun q => q = iA (losW d (ps.getD i.toNat default))) := by
  refine fnOk_of (fn := Tryd.f89) 11 (by kernel_rfl) rfl (by kernel_rfl) (Nat.le_of_ble_eq_true rfl) ?_
  intro e_0 m_0 hA hm_0
  have s0_0 : evA e_0 (.tmp 0) = _ := hA 0 _ rfl
  have s1_0 : evA e_0 (.tmp 1) = _ := hA 1 _ rfl
  have ml_0 : m_0.length = 0 := by rw [hm_0]; rfl
  clear hA hm_0
  refine aw_seq <| at_ <| al_stm (st_box s0_0 rfl ml_0) trivial rfl (fun m_1 hm_1 => ?_)
  have mo0_1 := m_push hm_1 ml_0
  have ml_1 := m_push_l hm_1 ml_0
  have ml_1 : _ = 1 := ml_1
  clear hm_1
  refine ar (ro_assign ev_c) rfl <| ae2 (u2 rfl s1_0) (up_m rfl up_h) ?_; clear s0_0 s1_0; intro e_2 s1_2 s2_2
  refine then_n <| aw_seq <| at_ <| ar (ro_eq (ro_ld_ptr k4_ty117 rfl mo0_1 s2_2 (nle rfl)) (by simp only [pS, Value.cells, Nat.reduceAdd] <;> rfl)) rfl ?_
  refine ar (ro_fld_ptr k4_fl117_1 rfl (up_m rfl s2_2)) rfl <| ar (ro_fld_ptr k4_fl80_1 rfl up_h) rfl <| ar (ro_eq (ro_ld_ptr k4_ty3 rfl mo0_1 up_h (nle rfl)) (by simp only [pS, Value.cells, Nat.reduceAdd] <;> rfl)) rfl ?_
  refine ar (ro_move (u4 rfl s1_2)) rfl <| ar (ro_call (evL_cons (u4 rfl up_h) (evL_cons (up_m rfl up_h) (evL_cons up_h evL_nil))) rfl (loses_ok nm ps hok b d v i h0 h1 d (by omega)) k4_hcf90) rfl ?_
  refine ar (ro_assign up_h) rfl <| ae1 up_h ?_; clear s1_2 s2_2; intro e_3 s4_3
  refine then_n <| aw_ret <| ret1 (.inr rfl) (by kernel_rfl) (resV_tmp s4_3) (.ro _ rfl) ?_
  clear s4_3 mo0_1 ml_1
  rfl
set_option maxRecDepth 100000 in
set_option maxHeartbeats 1000000 in
theorem driven_ok (hb : 0 ≤ v ∧ v ≤ 3000) : FnOk Tryd.prog 71 [riA nm ps b d v, iA i] (fun q => q = iA (- losW (-v) (ps.getD i.toNat default))) := by
  obtain ⟨hl, hg, _⟩ := hok.at i.toNat
  have hbb := los_bound (dec := -v) (by omega) hl hg
  refine fnOk_of (fn := Tryd.f71) 13 (by kernel_rfl) rfl (by kernel_rfl) (Nat.le_of_ble_eq_true rfl) ?_
  intro e_0 m_0 hA hm_0
  have s0_0 : evA e_0 (.tmp 0) = _ := hA 0 _ rfl
  have s1_0 : evA e_0 (.tmp 1) = _ := hA 1 _ rfl
  have ml_0 : m_0.length = 0 := by rw [hm_0]; rfl
  clear hA hm_0
  refine aw_seq <| at_ <| al_stm (st_box s0_0 rfl ml_0) trivial rfl (fun m_1 hm_1 => ?_)
  have mo0_1 := m_push hm_1 ml_0
  have ml_1 := m_push_l hm_1 ml_0
  have ml_1 : _ = 1 := ml_1
  clear hm_1
  refine ar (ro_assign ev_c) rfl <| ae2 (u2 rfl s1_0) (up_m rfl up_h) ?_; clear s0_0 s1_0; intro e_2 s1_2 s2_2
  refine then_n <| aw_seq <| at_ <| ar (ro_eq (ro_ld_ptr k4_ty117 rfl mo0_1 s2_2 (nle rfl)) (by simp only [pS, Value.cells, Nat.reduceAdd] <;> rfl)) rfl ?_
  refine ar (ro_fld_ptr k4_fl117_1 rfl (up_m rfl s2_2)) rfl <| ar (ro_fld_ptr k4_fl80_2 rfl up_h) rfl <| ar (ro_eq (ro_ld_ptr k4_ty3 rfl mo0_1 up_h (nle rfl)) (by simp only [pS, Value.cells, Nat.reduceAdd] <;> rfl)) rfl ?_
  (refine ar (ro_neg' up_h ?_) rfl ?_; · (unfold In64; omega))
  refine ar (ro_move (up_m rfl (u4 rfl s1_2))) rfl <| ar (ro_call (evL_cons (up_m rfl (u4 rfl up_h)) (evL_cons (up_m rfl up_h) (evL_cons up_h evL_nil))) rfl (loses_ok nm ps hok b d v i h0 h1 (-v) (by omega)) k4_hcf90) rfl ?_
  (refine ar (ro_neg' up_h ?_) rfl ?_; · (unfold In64; omega))
  refine ar (ro_assign up_h) rfl <| ae1 up_h ?_; clear s1_2 s2_2; intro e_3 s4_3
  refine then_n <| aw_ret <| ret1 (.inr rfl) (by kernel_rfl) (resV_tmp s4_3) (.ro _ rfl) ?_
  clear s4_3 mo0_1 ml_1
  rfl
end
end Go.Proofs.YtfmjmngkgmlghaaDoor

/- Contracts of chapter 5: places, limits. No conditions on a program. -/
namespace Go.Proofs.YtfmjmngkgmlghaaDoor
open Go Go.RowKit Go.Proofs
set_option linter.unusedSimpArgs false
set_option linter.unusedVariables false
theorem k5_hcf92 : ∀ args w, (callFunc 92 args).run Tryd.prog w = .ok (.enter 92 args) w := fun _ _ => by kernel_rfl
theorem k5_sl33 : SlIs Tryd.prog 33 123 4 32 (.agg #[.int .i64 0, .int .i64 0, .int .i64 0, .bool false]) := ⟨by kernel_rfl, by kernel_rfl, by kernel_rfl⟩
theorem k5_sl50 : SlIs Tryd.prog 50 3 1 8 (.int .i64 0) := ⟨by kernel_rfl, by kernel_rfl, by kernel_rfl⟩
theorem k5_ty123 : TyIs Tryd.prog 123 true 4 := ⟨by kernel_rfl, by kernel_rfl⟩
theorem k5_ty3 : TyIs Tryd.prog 3 false 1 := ⟨by kernel_rfl, by kernel_rfl⟩
theorem k5_ty33 : TyIs Tryd.prog 33 false 1 := ⟨by kernel_rfl, by kernel_rfl⟩

/-- The length of the first so many pieces. -/
def sumL : List Piece → Nat → Int
  | _, 0 => 0
  | ps, n + 1 => sumL ps n + (ps.getD n default).len
def plW (ps : List Piece) (n : Nat) : List Int := (List.range (n + 1)).map (sumL ps)
theorem plW_len (ps : List Piece) (n : Nat) : (plW ps n).length = n + 1 := by simp [plW]
theorem plW_at (ps : List Piece) {n i : Nat} (h : i ≤ n) : (plW ps n).getD i default = sumL ps i := by
  simp [plW, List.getD_eq_getElem?_getD, show i < n + 1 by omega]
theorem plW_succ (ps : List Piece) (n : Nat) : plW ps n ++ [sumL ps n + (ps.getD n default).len] = plW ps (n + 1) := by
  simp only [plW]
  rw [List.range_succ (n := n + 1), List.map_append]; rfl
theorem sumL_bound {ps : List Piece} (h : Ok ps) : ∀ n : Nat, 0 ≤ sumL ps n ∧ sumL ps n ≤ 10000000 * n
  | 0 => by simp [sumL]
  | n + 1 => by
    have := sumL_bound h n
    have := (h.at n).1
    simp only [sumL]; omega
set_option maxRecDepth 100000 in
set_option maxHeartbeats 1000000 in
theorem places_ok (nm : ByteArray) (ps : List Piece) (hok : Ok ps) (hp : ps.length ≤ 1000) : FnOk Tryd.prog 64 [trA nm ps] (fun q => q = .row 1 ((plW ps ps.length).map iE)) := by
  refine fnOk_of (fn := Tryd.f64) 28 (by kernel_rfl) rfl (by kernel_rfl) (Nat.le_of_ble_eq_true rfl) ?_
  intro e_0 m_0 hA hm_0
  have s0_0 : evA e_0 (.tmp 0) = _ := hA 0 _ rfl
  have ml_0 : m_0.length = 0 := by rw [hm_0]; rfl
  clear hA hm_0
  refine aw_seq <| at_ <| al_stm (st_box s0_0 rfl ml_0) trivial rfl (fun m_1 hm_1 => ?_)
  have mo0_1 := m_push hm_1 ml_0
  have ml_1 := m_push_l hm_1 ml_0
  have ml_1 : _ = 1 := ml_1
  clear hm_1
  refine ar (ro_assign ev_c) rfl <| ae1 (up_m rfl up_h) ?_; clear s0_0; intro e_2 s1_2
  refine then_n <| aw_seq <| at_ <| al_stm (st_lit k5_sl50 ml_1 (evP_cons ev_c evP_nil) rfl rfl rfl rfl) trivial rfl (fun m_3 hm_3 => ?_)
  have mo1_3 := m_push hm_3 ml_1
  simp only [pS, Value.cells, Nat.reduceAdd, pE, set_iE, one_iE, app_m] at mo1_3
  have mo0_3 := m_push_o hm_3 mo0_1
  have ml_3 := m_push_l hm_3 ml_1
  have ml_3 : _ = 2 := ml_3
  clear hm_3 mo0_1
  refine ar (ro_assign up_h) rfl <| ae2 (u2 rfl s1_2) up_h ?_; clear s1_2; intro e_4 s1_4 s3_4
  refine then_n <| aw_seq <| aw_seq <| at_ <| ar (ro_fld_ptr qfl115_0 rfl s1_4) rfl <| ar (ro_fld_ptr qfl35_1 rfl up_h) rfl <| ar (ro_eq (ro_ld_ptr k5_ty33 rfl mo0_3 up_h (nle rfl)) (by simp only [pS, Value.cells, Nat.reduceAdd, pE, set_iE, one_iE, app_m] <;> rfl)) rfl ?_
  refine ar (ro_eq (ro_len_row up_h rfl k5_sl33.1) (by simp only [lnS] <;> rfl)) rfl ?_
  refine ar (ro_move ev_c) rfl <| ae4 (up_m rfl (u4 rfl s3_4)) (u2 rfl up_h) (up_m rfl up_h) up_h ?_; clear s1_4 s3_4; intro e_5 s3_5 s9_5 s10_5 s11_5
  refine then_n <| aw_block <| aw_loop (S := (Int × List Int)) (fun s e mem => match s with | ⟨i, xs⟩ => (evA e (.tmp 11) = .v (.int .i64 i)) ∧ (evA e (.tmp 9) = evA e_5 (.tmp 9)) ∧ (evA e (.tmp 10) = evA e_5 (.tmp 10)) ∧ (mem[0]? = m_3[0]?) ∧ (∃ j, evA e (.tmp 3) = .own j ∧ mem[j]? = some (.row 3 1 (xs.map iE)) ∧ j ≠ 0) ∧ (∃ n, mem.length = n ∧ 2 ≤ n) ∧ ((0 ≤ i ∧ i ≤ ps.length ∧ xs = plW ps i.toNat))) (fun s => match s with | ⟨i, xs⟩ => (ps.length - i).toNat) ⟨_, _⟩ ⟨s11_5, rfl, rfl, rfl, ⟨_, s3_5, mo1_3, (by decide)⟩, ⟨_, ml_3, Nat.le_refl _⟩, ?_⟩ ?_
  · exact ⟨by omega, by omega, rfl⟩
  · rintro ⟨i, xs⟩ e_6 m_6 ⟨s11_6, k9_6, k10_6, mk0_6, ⟨j3_6, s3_6, mo_j3_6, nj3_0_6⟩, ⟨n_6, ml_6, hn_6⟩, hinv⟩
    have s9_6 := k9_6.trans s9_5
    have s10_6 := k10_6.trans s10_5
    have mo0_6 := mk0_6.trans mo0_3
    have jl3_6 := m_lt mo_j3_6 ml_6
    (have hb := (hok.at i.toNat).1; have hc := sumL_bound hok i.toNat; have hl : xs.length = i.toNat + 1 := (by rw [hinv.2.2, plW_len]); have hx : xs.getD i.toNat default = sumL ps i.toNat := (by rw [hinv.2.2, plW_at ps (Nat.le_refl _)]); have hin := hinv.2.1; have hin0 := hinv.1)
    refine aw_seq <| at_ <| ar (ro_lss s11_6 s10_6) rfl <| ae5 (up_m rfl s3_6) (up_m rfl s9_6) (up_m rfl s10_6) (up_m rfl s11_6) up_h ?_; clear s10_6 s11_6 s3_6 s9_6; intro e_7 s3_7 s9_7 s10_7 s11_7 s12_7
    refine then_n <| aw_seq <| aw_case s12_7 (fun hq_8 => ?_) (fun hq_8 => ?_)
    ·replace hq_8 := bt hq_8
     refine aw_skip <| then_n <| aw_seq <| aw_block <| aw_seq <| at_ <| ar (ro_move s11_7) rfl <| ar (ro_eq (ro_ix k5_sl33 (up_m rfl s9_7) (up_m rfl s11_7) (by omega) (by first | (refine idx_map ?_; first | omega | (simp only [lnS]; omega)) | (refine idx_mapI ?_; first | omega | (simp only [lnS]; omega)) | (refine idx_mapN ?_; first | omega | (simp only [lnS]; omega)) | rfl)) (by simp only [pS, Value.cells, Nat.reduceAdd, pE, set_iE, one_iE, app_m] <;> rfl)) rfl ?_
     refine ar (ro_eq (ro_ld_ref k5_ty123 rfl up_h (nle rfl)) (by simp only [pS, Value.cells, Nat.reduceAdd, pE, set_iE, one_iE, app_m] <;> rfl)) rfl ?_
     refine al_stm (st_alloc qaz123 rfl ml_6) trivial rfl (fun m_9 hm_9 => ?_)
     have mon_6_9 := m_push hm_9 ml_6
     simp only [pS, Value.cells, Nat.reduceAdd, pE, set_iE, one_iE, app_m] at mon_6_9
     have mo0_9 := m_push_o hm_9 mo0_6
     have moj3_6_9 := m_push_o hm_9 mo_j3_6
     have ml_9 := m_push_l hm_9 ml_6
     clear hm_9 mo0_6 mo_j3_6
     refine ar (ro_assign (up_m rfl (u2 rfl up_h))) rfl <| al_stm (st_store (up_m rfl up_h) (u2 rfl up_h) rfl rfl mon_6_9 qsz123 rfl (nle rfl)) trivial rfl (fun m_10 hm_10 => ?_)
     have mon_6_10 := m_set hm_10 mon_6_9
     simp only [pS, Value.cells, Nat.reduceAdd, pE, set_iE, one_iE, app_m] at mon_6_10
     have mo0_10 := m_set_o hm_10 mo0_9 (by omega)
     have moj3_6_10 := m_set_o hm_10 moj3_6_9 (by omega)
     have ml_10 := m_set_l hm_10 ml_9
     clear hm_10 mon_6_9 mo0_9 moj3_6_9
     refine ae6 (up_n (up_m rfl (u4 rfl s3_7))) (up_n up_h) (up_n (up_m rfl up_h)) (up_n (up_m rfl (u4 rfl s9_7))) (up_n (up_m rfl (u4 rfl s10_7))) (up_n (up_m rfl (u4 rfl s11_7))) ?_; clear s10_7 s11_7 s12_7 s3_7 s9_7; intro e_11 s3_11 s4_11 s5_11 s9_11 s10_11 s11_11
     refine then_n <| aw_draw 9 (by kernel_rfl) (by kernel_rfl) (by kernel_rfl) (by kernel_rfl) ?_
     refine dr (ro_move s3_11) rfl <| dr (ro_move (up_m rfl s3_11)) rfl <| dr (ro_move (u2 rfl s4_11)) rfl <| dr (ro_ix_own k5_sl50 moj3_6_10 (up_m rfl up_h) up_h (by omega) (by simp only [lnS] <;> omega)) rfl ?_
     refine dr (ro_eq (ro_ld_el k5_ty3 rfl moj3_6_10 up_h (nle rfl) (by first | (refine idx_map ?_; first | omega | (simp only [lnS]; omega)) | (refine idx_mapI ?_; first | omega | (simp only [lnS]; omega)) | (refine idx_mapN ?_; first | omega | (simp only [lnS]; omega)) | rfl)) (by simp only [pS, Value.cells, Nat.reduceAdd, pE, set_iE, one_iE, app_m] <;> rfl)) rfl ?_
     refine dr (ro_fld_ptr qfl123_0 rfl (up_m rfl (u4 rfl s5_11))) rfl <| dr (ro_eq (ro_ld_ptr k5_ty3 rfl mon_6_10 up_h (nle rfl)) (by simp only [pS, Value.cells, Nat.reduceAdd, pE, set_iE, one_iE, app_m] <;> rfl)) rfl ?_
     (refine dr (ro_add' (u2 rfl up_h) up_h ?_) rfl ?_; · (unfold In64; omega))
     refine dr (ro_lit k5_sl50 (evP_cons up_h evP_nil) rfl rfl rfl rfl) rfl <| ds_nil <| al_stm (st_app k5_sl50 rfl ml_10 moj3_6_10 (u8 rfl up_h) up_h (by rfl) (by simp only [lnS] <;> omega)) trivial rfl (fun m_12 hm_12 => ?_)
     have mon_6_1_12 := m_swap hm_12 ml_10
     simp only [pS, Value.cells, Nat.reduceAdd, pE, set_iE, one_iE, app_m] at mon_6_1_12
     have mon_6_12 := m_swap_o hm_12 mon_6_10 (by omega)
     have mo0_12 := m_swap_o hm_12 mo0_10 (by omega)
     have ml_12 := m_swap_l hm_12 ml_10
     clear hm_12 mon_6_10 mo0_10 moj3_6_10
     refine ar (ro_assign up_h) rfl <| ae4 up_h (up_m rfl (u2 rfl (u8 rfl s9_11))) (up_m rfl (u2 rfl (u8 rfl s10_11))) (up_m rfl (u2 rfl (u8 rfl s11_11))) ?_; clear s10_11 s11_11 s3_11 s4_11 s5_11 s9_11; intro e_13 s3_13 s9_13 s10_13 s11_13
     refine block_n <| then_n <| at_ ?_
     (refine ar (ro_add' s11_13 ev_c ?_) rfl ?_; · (unfold In64; omega))
     refine ar (ro_move up_h) rfl <| ae4 (u2 rfl s3_13) (u2 rfl s9_13) (u2 rfl s10_13) up_h ?_; clear s10_13 s11_13 s3_13 s9_13; intro e_14 s3_14 s9_14 s10_14 s11_14
     refine then_n <| ⟨⟨_, _⟩, ⟨s11_14, (s9_14.trans s9_5.symm), (s10_14.trans s10_5.symm), (mo0_12.trans mo0_3.symm), ⟨_, s3_14, mon_6_1_12, (by omega)⟩, ⟨_, ml_12, by omega⟩, ?_⟩, ?_⟩
     · (obtain ⟨h1, h2, h3⟩ := hinv; refine ⟨by omega, by omega, ?_⟩; rw [hx, h3, plW_succ]; congr 1; omega)
     · ((try dsimp only); omega)
    replace hq_8 := bf hq_8
    refine aw_exit <| then_x <| then_x <| block_hit <| then_n <| aw_seq <| at_ <| ar (ro_move s3_7) rfl <| ar (ro_assign up_h) rfl <| ae1 up_h ?_; clear s10_7 s11_7 s12_7 s3_7 s9_7; intro e_15 s2_15
    refine then_n <| aw_ret <| ret1 (.inr rfl) (by kernel_rfl) (resV_tmp s2_15) (.own _ _ _ _ mo_j3_6) ?_
    clear s2_15 mo0_6 mo_j3_6 ml_6
    (obtain ⟨h1, h2, h3⟩ := hinv; rw [h3, show i.toNat = ps.length by omega])
set_option maxRecDepth 100000 in
set_option maxHeartbeats 1000000 in
theorem limits1_ok (p q : Piece) (hp : 0 ≤ p.lim ∧ p.lim ≤ 20000000000) (hq : 0 ≤ q.lim ∧ q.lim ≤ 20000000000) : FnOk Tryd.prog 92 [.agg (pE p), .agg (pE q)] (fun r => r = iA (p.lim - q.lim)) := by
  refine fnOk_of (fn := Tryd.f92) 10 (by kernel_rfl) rfl (by kernel_rfl) (Nat.le_of_ble_eq_true rfl) ?_
  intro e_0 m_0 hA hm_0
  have s0_0 : evA e_0 (.tmp 0) = _ := hA 0 _ rfl
  have s1_0 : evA e_0 (.tmp 1) = _ := hA 1 _ rfl
  have ml_0 : m_0.length = 0 := by rw [hm_0]; rfl
  clear hA hm_0
  refine aw_seq <| at_ <| al_stm (st_box s0_0 rfl ml_0) trivial rfl (fun m_1 hm_1 => ?_)
  have mo0_1 := m_push hm_1 ml_0
  simp only [pS, Value.cells, Nat.reduceAdd, pE] at mo0_1
  have ml_1 := m_push_l hm_1 ml_0
  have ml_1 : _ = 1 := ml_1
  clear hm_1
  refine al_stm (st_box (up_m rfl s1_0) rfl ml_1) trivial rfl (fun m_2 hm_2 => ?_)
  have mo1_2 := m_push hm_2 ml_1
  simp only [pS, Value.cells, Nat.reduceAdd, pE] at mo1_2
  have mo0_2 := m_push_o hm_2 mo0_1
  have ml_2 := m_push_l hm_2 ml_1
  have ml_2 : _ = 2 := ml_2
  clear hm_2 mo0_1
  refine ar (ro_assign ev_c) rfl <| ae2 (u2 rfl up_h) (up_m rfl up_h) ?_; clear s0_0 s1_0; intro e_3 s2_3 s3_3
  refine then_n <| aw_seq <| at_ <| ar (ro_fld_ptr qfl123_2 rfl s2_3) rfl <| ar (ro_eq (ro_ld_ptr k5_ty3 rfl mo0_2 up_h (nle rfl)) (by simp only [pS, Value.cells, Nat.reduceAdd, pE] <;> rfl)) rfl ?_
  refine ar (ro_fld_ptr qfl123_2 rfl (u2 rfl s3_3)) rfl <| ar (ro_eq (ro_ld_ptr k5_ty3 rfl mo1_2 up_h (nle rfl)) (by simp only [pS, Value.cells, Nat.reduceAdd, pE] <;> rfl)) rfl ?_
  (refine ar (ro_sub' (u2 rfl up_h) up_h ?_) rfl ?_; · (unfold In64; omega))
  refine ar (ro_assign up_h) rfl <| ae1 up_h ?_; clear s2_3 s3_3; intro e_4 s4_4
  refine then_n <| aw_ret <| ret1 (.inr rfl) (by kernel_rfl) (resV_tmp s4_4) (.ro _ rfl) ?_
  clear s4_4 mo1_2 mo0_2 ml_2
  rfl
/-- The piece with the least limit, the first one of those. -/
def minP (ps : List Piece) : Nat → Piece
  | 0 => ps.getD 0 default
  | n + 1 => if (ps.getD (n + 1) default).lim - (minP ps n).lim < 0 then ps.getD (n + 1) default else minP ps n
theorem minP_mem {ps : List Piece} (h : 0 < ps.length) : ∀ n : Nat, n < ps.length → minP ps n ∈ ps
  | 0, _ => by simp [minP, List.getD_eq_getElem?_getD, h]
  | n + 1, hn => by
    simp only [minP]
    split
    · simp [List.getD_eq_getElem?_getD, hn]
    · exact minP_mem h n (by omega)
set_option maxRecDepth 100000 in
set_option maxHeartbeats 1000000 in
theorem minFunc_ok (ps : List Piece) (hok : Ok ps) (h0 : 0 < ps.length) (hp : ps.length ≤ 1000) : FnOk Tryd.prog 91 [.row 4 (ps.map pE), .v (.func (.func 92) #[] #[])] (fun r => r = .agg (pE (minP ps (ps.length - 1)))) := by
  refine fnOk_of (fn := Tryd.f91) 33 (by kernel_rfl) rfl (by kernel_rfl) (Nat.le_of_ble_eq_true rfl) ?_
  intro e_0 m_0 hA hm_0
  have s0_0 : evA e_0 (.tmp 0) = _ := hA 0 _ rfl
  have s1_0 : evA e_0 (.tmp 1) = _ := hA 1 _ rfl
  have ml_0 : m_0.length = 0 := by rw [hm_0]; rfl
  clear hA hm_0
  refine aw_seq <| at_ <| al_stm (st_alloc qaz123 rfl ml_0) trivial rfl (fun m_1 hm_1 => ?_)
  have mo0_1 := m_push hm_1 ml_0
  simp only [pS, Value.cells, Nat.reduceAdd, pE] at mo0_1
  have ml_1 := m_push_l hm_1 ml_0
  have ml_1 : _ = 1 := ml_1
  clear hm_1
  refine ae3 (up_m rfl s0_0) (up_m rfl s1_0) up_h ?_; clear s0_0 s1_0; intro e_2 s0_2 s1_2 s4_2
  refine then_n <| aw_seq <| aw_seq <| at_ <| ar (ro_move s0_2) rfl <| ar (ro_eq (ro_len_row up_h rfl k5_sl33.1) (by simp only [lnS] <;> rfl)) rfl ?_
  refine ar (ro_lss up_h ev_c) rfl <| ae4 (up_m rfl (u2 rfl s0_2)) (up_m rfl (u2 rfl s1_2)) (up_m rfl (u2 rfl s4_2)) up_h ?_; clear s0_2 s1_2 s4_2; intro e_3 s0_3 s1_3 s4_3 s9_3
  refine then_n <| aw_case s9_3 (fun hq_4 => ?_) (fun hq_4 => ?_)
  · replace hq_4 := bt hq_4; exfalso; omega
  replace hq_4 := bf hq_4
  refine aw_skip <| then_n <| aw_seq <| at_ <| ar (ro_move s0_3) rfl <| ar (ro_eq (ro_ix k5_sl33 up_h ev_c (by decide) (by first | (refine idx_map ?_; first | omega | (simp only [lnS]; omega)) | (refine idx_mapI ?_; first | omega | (simp only [lnS]; omega)) | (refine idx_mapN ?_; first | omega | (simp only [lnS]; omega)) | rfl)) (by simp only [pS, Value.cells, Nat.reduceAdd, pE] <;> rfl)) rfl ?_
  refine ar (ro_eq (ro_ld_ref k5_ty123 rfl up_h (nle rfl)) (by simp only [pS, Value.cells, Nat.reduceAdd, pE] <;> rfl)) rfl ?_
  refine al_stm (st_alloc qaz123 rfl ml_1) trivial rfl (fun m_5 hm_5 => ?_)
  have mo1_5 := m_push hm_5 ml_1
  simp only [pS, Value.cells, Nat.reduceAdd, pE] at mo1_5
  have mo0_5 := m_push_o hm_5 mo0_1
  have ml_5 := m_push_l hm_5 ml_1
  have ml_5 : _ = 2 := ml_5
  clear hm_5 mo0_1
  refine al_stm (st_store up_h (up_m rfl up_h) rfl rfl mo1_5 qsz123 rfl (nle rfl)) trivial rfl (fun m_6 hm_6 => ?_)
  have mo1_6 := m_set hm_6 mo1_5
  simp only [pS, Value.cells, Nat.reduceAdd, pE] at mo1_6
  have mo0_6 := m_set_o hm_6 mo0_5 (by decide)
  have ml_6 := m_set_l hm_6 ml_5
  clear hm_6 mo1_5 mo0_5
  refine ae4 (up_n (u4 rfl s0_3)) (up_n (u4 rfl s1_3)) (up_n (u4 rfl s4_3)) (up_n up_h) ?_; clear s0_3 s1_3 s4_3 s9_3; intro e_7 s0_7 s1_7 s4_7 s5_7
  refine then_n <| aw_seq <| aw_seq <| at_ <| ar (ro_assign ev_c) rfl <| ae5 (up_m rfl s0_7) (up_m rfl s1_7) (up_m rfl s4_7) (up_m rfl s5_7) up_h ?_; clear s0_7 s1_7 s4_7 s5_7; intro e_8 s0_8 s1_8 s4_8 s5_8 s6_8
  refine then_n <| aw_block <| aw_loop (S := (Int × Piece)) (fun s e mem => match s with | ⟨i, p⟩ => (evA e (.tmp 6) = .v (.int .i64 i)) ∧ (evA e (.tmp 0) = evA e_8 (.tmp 0)) ∧ (evA e (.tmp 1) = evA e_8 (.tmp 1)) ∧ (evA e (.tmp 4) = evA e_8 (.tmp 4)) ∧ (evA e (.tmp 5) = evA e_8 (.tmp 5)) ∧ (mem[1]? = some (.box 123 [.v (.int .i64 p.len), .v (.int .i64 p.grad), .v (.int .i64 p.lim), .v (.bool p.leave)])) ∧ (mem[0]? = m_6[0]?) ∧ (mem.length = 2) ∧ ((1 ≤ i ∧ i ≤ ps.length ∧ p = minP ps (i.toNat - 1)))) (fun s => match s with | ⟨i, p⟩ => (ps.length - i).toNat) ⟨_, _⟩ ⟨s6_8, rfl, rfl, rfl, rfl, mo1_6, rfl, ml_6, ?_⟩ ?_
  · exact ⟨by omega, by omega, rfl⟩
  · rintro ⟨i, p⟩ e_9 m_9 ⟨s6_9, k0_9, k1_9, k4_9, k5_9, mo1_9, mk0_9, ml_9, hinv⟩
    have s0_9 := k0_9.trans s0_8
    have s1_9 := k1_9.trans s1_8
    have s4_9 := k4_9.trans s4_8
    have s5_9 := k5_9.trans s5_8
    have mo0_9 := mk0_9.trans mo0_6
    (have hpl : 0 ≤ p.lim ∧ p.lim ≤ 20000000000 := (by have hm := minP_mem h0 (i.toNat - 1) (by omega); rw [← hinv.2.2] at hm; obtain ⟨n, hn, he⟩ := List.getElem_of_mem hm; have := (hok.at n).2.2; rwa [List.getD_eq_getElem?_getD, List.getElem?_eq_getElem hn, Option.getD_some, he] at this); have hin := hinv.2.1; have hin0 := hinv.1)
    refine aw_seq <| aw_seq <| at_ <| ar (ro_move s6_9) rfl <| ar (ro_move (up_m rfl s0_9)) rfl <| ar (ro_eq (ro_len_row up_h rfl k5_sl33.1) (by simp only [lnS] <;> rfl)) rfl ?_
    refine ar (ro_lss (u2 rfl up_h) up_h) rfl <| ae6 (u4 rfl s0_9) (u4 rfl s1_9) (u4 rfl s4_9) (u4 rfl s5_9) (u4 rfl s6_9) up_h ?_; clear s0_9 s1_9 s4_9 s5_9 s6_9; intro e_10 s0_10 s1_10 s4_10 s5_10 s6_10 s17_10
    refine then_n <| aw_case s17_10 (fun hq_11 => ?_) (fun hq_11 => ?_)
    ·replace hq_11 := bt hq_11
     refine aw_skip <| then_n <| aw_seq <| aw_block <| aw_seq <| aw_draw 8 (by kernel_rfl) (by kernel_rfl) (by kernel_rfl) (by kernel_rfl) ?_
     refine dr (ro_move s1_10) rfl <| dr (ro_move (up_m rfl s0_10)) rfl <| dr (ro_move (u2 rfl s6_10)) rfl <| dr (ro_eq (ro_ix k5_sl33 (up_m rfl up_h) up_h (by omega) (by first | (refine idx_map ?_; first | omega | (simp only [lnS]; omega)) | (refine idx_mapI ?_; first | omega | (simp only [lnS]; omega)) | (refine idx_mapN ?_; first | omega | (simp only [lnS]; omega)) | rfl)) (by simp only [pS, Value.cells, Nat.reduceAdd, pE] <;> rfl)) rfl ?_
     refine dr (ro_eq (ro_ld_ref k5_ty123 rfl up_h (nle rfl)) (by simp only [pS, Value.cells, Nat.reduceAdd, pE] <;> rfl)) rfl ?_
     refine dr (ro_eq (ro_ld_ptr k5_ty123 rfl mo1_9 (up_m rfl (u4 rfl s5_10)) (nle rfl)) (by simp only [pS, Value.cells, Nat.reduceAdd, pE] <;> rfl)) rfl ?_
     refine dr (ro_callf (up_m rfl (u4 rfl up_h)) (evL_cons (up_m rfl up_h) (evL_cons up_h evL_nil)) rfl (limits1_ok _ _ (hok.at _).2.2 (by first | assumption | exact (hok.at _).2.2)) k5_hcf92) rfl ?_
     refine dr (ro_lss up_h ev_c) rfl <| ds_nil <| ae6 (u8 rfl s0_10) (u8 rfl s1_10) (u8 rfl s4_10) (u8 rfl s5_10) (u8 rfl s6_10) up_h ?_; clear s0_10 s17_10 s1_10 s4_10 s5_10 s6_10; intro e_12 s0_12 s1_12 s4_12 s5_12 s6_12 s27_12
     refine then_n <| aw_case s27_12 (fun hq_13 => ?_) (fun hq_13 => ?_)
     ·replace hq_13 := bt hq_13
      refine at_ <| ar (ro_move s0_12) rfl <| ar (ro_move (up_m rfl s6_12)) rfl <| ar (ro_eq (ro_ix k5_sl33 (up_m rfl up_h) up_h (by omega) (by first | (refine idx_map ?_; first | omega | (simp only [lnS]; omega)) | (refine idx_mapI ?_; first | omega | (simp only [lnS]; omega)) | (refine idx_mapN ?_; first | omega | (simp only [lnS]; omega)) | rfl)) (by simp only [pS, Value.cells, Nat.reduceAdd, pE] <;> rfl)) rfl ?_
      refine ar (ro_eq (ro_ld_ref k5_ty123 rfl up_h (nle rfl)) (by simp only [pS, Value.cells, Nat.reduceAdd, pE] <;> rfl)) rfl ?_
      refine al_stm (st_store (u4 rfl s5_12) up_h rfl rfl mo1_9 qsz123 rfl (nle rfl)) trivial rfl (fun m_14 hm_14 => ?_)
      have mo1_14 := m_set hm_14 mo1_9
      simp only [pS, Value.cells, Nat.reduceAdd, pE] at mo1_14
      have mo0_14 := m_set_o hm_14 mo0_9 (by decide)
      have ml_14 := m_set_l hm_14 ml_9
      clear hm_14 mo1_9 mo0_9
      refine ae5 (up_n (u4 rfl s0_12)) (up_n (u4 rfl s1_12)) (up_n (u4 rfl s4_12)) (up_n (u4 rfl s5_12)) (up_n (u4 rfl s6_12)) ?_; clear s0_12 s1_12 s27_12 s4_12 s5_12 s6_12; intro e_15 s0_15 s1_15 s4_15 s5_15 s6_15
      refine block_n <| then_n <| at_ <| ar (ro_move s6_15) rfl ?_
      (refine ar (ro_add' up_h ev_c ?_) rfl ?_; · (unfold In64; omega))
      refine ar (ro_assign up_h) rfl <| ae5 (up_m rfl (u2 rfl s0_15)) (up_m rfl (u2 rfl s1_15)) (up_m rfl (u2 rfl s4_15)) (up_m rfl (u2 rfl s5_15)) up_h ?_; clear s0_15 s1_15 s4_15 s5_15 s6_15; intro e_16 s0_16 s1_16 s4_16 s5_16 s6_16
      refine then_n <| ⟨⟨_, _⟩, ⟨s6_16, (s0_16.trans s0_8.symm), (s1_16.trans s1_8.symm), (s4_16.trans s4_8.symm), (s5_16.trans s5_8.symm), mo1_14, (mo0_14.trans mo0_6.symm), ml_14, ?_⟩, ?_⟩
      · (obtain ⟨h1, h2, h3⟩ := hinv; refine ⟨by omega, by omega, ?_⟩; have e1 : (i + 1).toNat - 1 = (i.toNat - 1) + 1 := (by omega); have e2 : i.toNat - 1 + 1 = i.toNat := (by omega); rw [e1]; simp only [minP]; rw [e2, ← h3]; first | rw [if_pos (by assumption)] | rw [if_neg (by assumption)])
      · ((try dsimp only); omega)
     replace hq_13 := bf hq_13
     refine aw_skip <| block_n <| then_n <| at_ <| ar (ro_move s6_12) rfl ?_
     (refine ar (ro_add' up_h ev_c ?_) rfl ?_; · (unfold In64; omega))
     refine ar (ro_assign up_h) rfl <| ae5 (up_m rfl (u2 rfl s0_12)) (up_m rfl (u2 rfl s1_12)) (up_m rfl (u2 rfl s4_12)) (up_m rfl (u2 rfl s5_12)) up_h ?_; clear s0_12 s1_12 s27_12 s4_12 s5_12 s6_12; intro e_17 s0_17 s1_17 s4_17 s5_17 s6_17
     refine then_n <| ⟨⟨_, _⟩, ⟨s6_17, (s0_17.trans s0_8.symm), (s1_17.trans s1_8.symm), (s4_17.trans s4_8.symm), (s5_17.trans s5_8.symm), mo1_9, (mo0_9.trans mo0_6.symm), ml_9, ?_⟩, ?_⟩
     · (obtain ⟨h1, h2, h3⟩ := hinv; refine ⟨by omega, by omega, ?_⟩; have e1 : (i + 1).toNat - 1 = (i.toNat - 1) + 1 := (by omega); have e2 : i.toNat - 1 + 1 = i.toNat := (by omega); rw [e1]; simp only [minP]; rw [e2, ← h3]; first | rw [if_pos (by assumption)] | rw [if_neg (by assumption)])
     · ((try dsimp only); omega)
    replace hq_11 := bf hq_11
    refine aw_exit <| then_x <| then_x <| block_hit <| then_n <| aw_seq <| at_ <| ar (ro_eq (ro_ld_ptr k5_ty123 rfl mo1_9 s5_10 (nle rfl)) (by simp only [pS, Value.cells, Nat.reduceAdd, pE] <;> rfl)) rfl ?_
    refine al_stm (st_store (up_m rfl s4_10) up_h rfl rfl mo0_9 qsz123 rfl (nle rfl)) trivial rfl (fun m_18 hm_18 => ?_)
    have mo0_18 := m_set hm_18 mo0_9
    simp only [pS, Value.cells, Nat.reduceAdd, pE] at mo0_18
    have mo1_18 := m_set_o hm_18 mo1_9 (by decide)
    have ml_18 := m_set_l hm_18 ml_9
    clear hm_18 mo1_9 mo0_9
    refine ae1 (up_n (up_m rfl s4_10)) ?_; clear s0_10 s17_10 s1_10 s4_10 s5_10 s6_10; intro e_19 s4_19
    refine then_n <| aw_ret <| ret1 (.inr rfl) (by kernel_rfl) (resV_cell s4_19 mo0_18 k5_ty123 (nle rfl) (by simp)) (vw_r (.ro _ rfl)) ?_
    clear s4_19 mo0_18 mo1_18 ml_18
    (obtain ⟨h1, h2, h3⟩ := hinv; rw [h3, show i.toNat - 1 = ps.length - 1 by omega]; rfl)
end Go.Proofs.YtfmjmngkgmlghaaDoor

/- Contracts of chapter 5: limits, curves. No conditions on a program. -/
namespace Go.Proofs.YtfmjmngkgmlghaaDoor
open Go Go.RowKit Go.Proofs
set_option linter.unusedSimpArgs false
set_option linter.unusedVariables false
theorem k6_hcf91 : ∀ args w, (callFunc 91 args).run Tryd.prog w = .ok (.enter 91 args) w := fun _ _ => by kernel_rfl
theorem k6_sl33 : SlIs Tryd.prog 33 123 4 32 (.agg #[.int .i64 0, .int .i64 0, .int .i64 0, .bool false]) := ⟨by kernel_rfl, by kernel_rfl, by kernel_rfl⟩
theorem k6_sl50 : SlIs Tryd.prog 50 3 1 8 (.int .i64 0) := ⟨by kernel_rfl, by kernel_rfl, by kernel_rfl⟩
theorem k6_sz3 : (Tryd.prog.info? 3).map (·.size) = some 1 := by kernel_rfl
theorem k6_ty115 : TyIs Tryd.prog 115 true 2 := ⟨by kernel_rfl, by kernel_rfl⟩
theorem k6_ty117 : TyIs Tryd.prog 117 true 5 := ⟨by kernel_rfl, by kernel_rfl⟩
theorem k6_ty3 : TyIs Tryd.prog 3 false 1 := ⟨by kernel_rfl, by kernel_rfl⟩
theorem k6_ty33 : TyIs Tryd.prog 33 false 1 := ⟨by kernel_rfl, by kernel_rfl⟩

theorem td_m {α : Type} (f : α → List AV) (l : List α) (a b : Nat) : ((l.map f).take b).drop a = ((l.take b).drop a).map f := by rw [List.map_drop, List.map_take]
/-- The limit at a post. -/
def limW (ps : List Piece) (i : Nat) : Int :=
  if i = 0 then (ps.getD 0 default).lim else if i < ps.length then min (ps.getD (i - 1) default).lim (ps.getD i default).lim else (ps.getD (i - 1) default).lim
def meetW (ps : List Piece) (i : Int) : List Piece := (ps.take (min (ps.length : Int) (i + 1)).toNat).drop (max 0 (i - 1)).toNat
theorem meet_lim {ps : List Piece} {i : Int} (h0 : 0 ≤ i) (h1 : i ≤ ps.length) (hp : 0 < ps.length) : 0 < (meetW ps i).length ∧ (minP (meetW ps i) ((meetW ps i).length - 1)).lim = limW ps i.toNat := by
  obtain ⟨n, rfl⟩ : ∃ n : Nat, i = n := ⟨i.toNat, by omega⟩
  have get : ∀ j : Nat, (meetW ps n).getD j default = if (max 0 ((n : Int) - 1)).toNat + j < (min (ps.length : Int) ((n : Int) + 1)).toNat then ps.getD ((max 0 ((n : Int) - 1)).toNat + j) default else default := fun j => by
    unfold meetW
    simp only [List.getD_eq_getElem?_getD, List.getElem?_drop, List.getElem?_take]
    split <;> rfl
  have hlen : (meetW ps n).length = (min (ps.length : Int) ((n : Int) + 1)).toNat - (max 0 ((n : Int) - 1)).toNat := by
    unfold meetW; simp; omega
  simp only [Int.toNat_natCast]
  unfold limW
  by_cases c0 : n = 0
  · subst c0
    have hl : (meetW ps ((0 : Nat) : Int)).length = 1 := by rw [hlen]; omega
    have g0 : (meetW ps ((0 : Nat) : Int)).getD 0 default = ps.getD 0 default := by
      rw [get 0, if_pos (by omega)]; congr 1
    rw [hl, if_pos rfl]
    refine ⟨by omega, ?_⟩
    show ((meetW ps ((0 : Nat) : Int)).getD 0 default).lim = _
    rw [g0]
  · have g0 : (meetW ps (n : Int)).getD 0 default = ps.getD (n - 1) default := by
      rw [get 0, if_pos (by omega)]; congr 1; omega
    by_cases c1 : n < ps.length
    · have hl : (meetW ps (n : Int)).length = 2 := by rw [hlen]; omega
      have g1 : (meetW ps (n : Int)).getD 1 default = ps.getD n default := by
        rw [get 1, if_pos (by omega)]; congr 1; omega
      rw [hl, if_neg c0, if_pos c1]
      refine ⟨by omega, ?_⟩
      show (if ((meetW ps (n : Int)).getD 1 default).lim - ((meetW ps (n : Int)).getD 0 default).lim < 0 then (meetW ps (n : Int)).getD 1 default else (meetW ps (n : Int)).getD 0 default).lim = _
      rw [g0, g1]
      split <;> omega
    · have hl : (meetW ps (n : Int)).length = 1 := by rw [hlen]; omega
      rw [hl, if_neg c0, if_neg c1]
      refine ⟨by omega, ?_⟩
      show ((meetW ps (n : Int)).getD 0 default).lim = _
      rw [g0]
theorem Ok.meet {ps : List Piece} (h : Ok ps) (i : Int) : Ok (meetW ps i) := fun p hp => h p (List.mem_of_mem_take (List.mem_of_mem_drop hp))
theorem limW_bound {ps : List Piece} (h : Ok ps) (i : Nat) : 0 ≤ limW ps i ∧ limW ps i ≤ 20000000000 := by
  have h1 := (h.at 0).2.2; have h2 := (h.at i).2.2; have h3 := (h.at (i - 1)).2.2
  unfold limW
  split
  · exact h1
  · split <;> omega
def liW (ps : List Piece) (n : Nat) : List Int := (List.range n).map (limW ps)
theorem liW_len (ps : List Piece) (n : Nat) : (liW ps n).length = n := by simp [liW]
theorem liW_at (ps : List Piece) {n i : Nat} (h : i < n) : (liW ps n).getD i default = limW ps i := by simp [liW, List.getD_eq_getElem?_getD, h]
theorem liW_succ (ps : List Piece) (n : Nat) : liW ps n ++ [limW ps n] = liW ps (n + 1) := by simp [liW, List.range_succ]
theorem meetMin_ok (ps : List Piece) (hok : Ok ps) (hp : 0 < ps.length) (hp2 : ps.length ≤ 900) (i : Int) (h0 : 0 ≤ i) (h1 : i ≤ ps.length) : FnOk Tryd.prog 91 [.row 4 ((meetW ps i).map pE), .v (.func (.func 92) #[] #[])] (fun r => r = .agg (pE (minP (meetW ps i) ((meetW ps i).length - 1)))) :=
  minFunc_ok _ (hok.meet i) (meet_lim h0 h1 hp).1 (by unfold meetW; simp; omega)
set_option maxRecDepth 100000 in
set_option maxHeartbeats 4000000 in
theorem limits_ok (nm : ByteArray) (ps : List Piece) (hok : Ok ps) (hp : 0 < ps.length) (hp2 : ps.length ≤ 900) : FnOk Tryd.prog 68 [trA nm ps] (fun q => q = .row 1 ((liW ps (ps.length + 1)).map iE)) := by
  refine fnOk_of (fn := Tryd.f68) 32 (by kernel_rfl) rfl (by kernel_rfl) (Nat.le_of_ble_eq_true rfl) ?_
  intro e_0 m_0 hA hm_0
  have s0_0 : evA e_0 (.tmp 0) = _ := hA 0 _ rfl
  have ml_0 : m_0.length = 0 := by rw [hm_0]; rfl
  clear hA hm_0
  refine aw_seq <| at_ <| al_stm (st_box s0_0 rfl ml_0) trivial rfl (fun m_1 hm_1 => ?_)
  have mo0_1 := m_push hm_1 ml_0
  have ml_1 := m_push_l hm_1 ml_0
  have ml_1 : _ = 1 := ml_1
  clear hm_1
  refine ar (ro_assign ev_c) rfl <| ae1 (up_m rfl up_h) ?_; clear s0_0; intro e_2 s1_2
  refine then_n <| aw_seq <| at_ <| ar (ro_assign ev_c) rfl <| ae2 (up_m rfl s1_2) up_h ?_; clear s1_2; intro e_3 s1_3 s3_3
  refine then_n <| aw_seq <| aw_seq <| at_ <| ar (ro_eq (ro_ld_ptr k6_ty115 rfl mo0_1 s1_3 (nle rfl)) (by simp only [pS, Value.cells, Nat.reduceAdd, pE, one_iE, app_m, td_m] <;> rfl)) rfl ?_
  refine ar (ro_call (evL_cons up_h evL_nil) rfl (last_ok nm ps) qhcf70) rfl ?_
  (refine ar (ro_add' up_h ev_c ?_) rfl ?_; · (unfold In64; omega))
  refine ar (ro_move ev_c) rfl <| ae4 (u4 rfl s1_3) (u4 rfl s3_3) (up_m rfl up_h) up_h ?_; clear s1_3 s3_3; intro e_4 s1_4 s3_4 s8_4 s9_4
  refine then_n <| aw_block <| aw_adopt 3 1 s3_4 ml_1 (fun m_5 e_5 hm_5 he_5 => ?_)
  have mo1_5 := m_push hm_5 ml_1
  have mo0_5 := m_push_o hm_5 mo0_1
  have ml_5 := m_push_l hm_5 ml_1
  have ml_5 : _ = 2 := ml_5
  have s1_5 : evA e_5 (.tmp 1) = _ := (congrArg (fun q => evA q (.tmp 1)) he_5).trans (up_m rfl s1_4)
  have s3_5 : evA e_5 (.tmp 3) = _ := (congrArg (fun q => evA q (.tmp 3)) he_5).trans up_h
  have s8_5 : evA e_5 (.tmp 8) = _ := (congrArg (fun q => evA q (.tmp 8)) he_5).trans (up_m rfl s8_4)
  have s9_5 : evA e_5 (.tmp 9) = _ := (congrArg (fun q => evA q (.tmp 9)) he_5).trans (up_m rfl s9_4)
  clear hm_5 he_5
  refine aw_loop (S := (Int × List Int)) (fun s e mem => match s with | ⟨i, xs⟩ => (evA e (.tmp 9) = .v (.int .i64 i)) ∧ (evA e (.tmp 1) = evA e_5 (.tmp 1)) ∧ (evA e (.tmp 8) = evA e_5 (.tmp 8)) ∧ (mem[0]? = m_5[0]?) ∧ (∃ j, evA e (.tmp 3) = .own j ∧ mem[j]? = some (.row 3 1 (xs.map iE)) ∧ j ≠ 0) ∧ (∃ n, mem.length = n ∧ 2 ≤ n) ∧ ((0 ≤ i ∧ i ≤ ps.length + 1 ∧ xs = liW ps i.toNat))) (fun s => match s with | ⟨i, xs⟩ => (ps.length + 1 - i).toNat) ⟨_, []⟩ ⟨s9_5, rfl, rfl, rfl, ⟨_, s3_5, mo1_5, (by decide)⟩, ⟨_, ml_5, Nat.le_refl _⟩, ?_⟩ ?_
  · exact ⟨by omega, by omega, rfl⟩
  · rintro ⟨i, xs⟩ e_6 m_6 ⟨s9_6, k1_6, k8_6, mk0_6, ⟨j3_6, s3_6, mo_j3_6, nj3_0_6⟩, ⟨n_6, ml_6, hn_6⟩, hinv⟩
    have s1_6 := k1_6.trans s1_5
    have s8_6 := k8_6.trans s8_5
    have mo0_6 := mk0_6.trans mo0_5
    have jl3_6 := m_lt mo_j3_6 ml_6
    (have hl : xs.length = i.toNat := (by rw [hinv.2.2, liW_len]); have hin := hinv.2.1; have hin0 := hinv.1)
    refine aw_seq <| at_ <| ar (ro_lss s9_6 s8_6) rfl <| ae5 (up_m rfl s1_6) (up_m rfl s3_6) (up_m rfl s8_6) (up_m rfl s9_6) up_h ?_; clear s1_6 s3_6 s8_6 s9_6; intro e_7 s1_7 s3_7 s8_7 s9_7 s10_7
    refine then_n <| aw_seq <| aw_case s10_7 (fun hq_8 => ?_) (fun hq_8 => ?_)
    ·replace hq_8 := bt hq_8
     refine aw_skip <| then_n <| aw_seq <| aw_block <| aw_seq <| at_ <| ar (ro_move s9_7) rfl <| ar (ro_assign up_h) rfl <| ae5 (u2 rfl s1_7) (u2 rfl s3_7) up_h (u2 rfl s8_7) (u2 rfl s9_7) ?_; clear s10_7 s1_7 s3_7 s8_7 s9_7; intro e_9 s1_9 s3_9 s4_9 s8_9 s9_9
     refine then_n <| aw_seq <| aw_draw 13 (by kernel_rfl) (by kernel_rfl) (by kernel_rfl) (by kernel_rfl) ?_
     refine dr (ro_fld_ptr qfl115_0 rfl s1_9) rfl <| dr (ro_fld_ptr qfl35_1 rfl up_h) rfl <| dr (ro_eq (ro_ld_ptr k6_ty33 rfl mo0_6 up_h (nle rfl)) (by simp only [pS, Value.cells, Nat.reduceAdd, pE, one_iE, app_m, td_m] <;> rfl)) rfl ?_
     refine dr (ro_move (up_m rfl (u2 rfl s4_9))) rfl ?_
     (refine dr (ro_sub' up_h ev_c ?_) rfl ?_; · (unfold In64; omega))
     refine dr (ro_max ev_c up_h) rfl <| dr (ro_eq (ro_ld_ptr k6_ty115 rfl mo0_6 (u2 rfl (u4 rfl s1_9)) (nle rfl)) (by simp only [pS, Value.cells, Nat.reduceAdd, pE, one_iE, app_m, td_m] <;> rfl)) rfl ?_
     refine dr (ro_call (evL_cons up_h evL_nil) rfl (last_ok nm ps) qhcf70) rfl <| dr (ro_move (u8 rfl s4_9)) rfl ?_
     (refine dr (ro_add' up_h ev_c ?_) rfl ?_; · (unfold In64; omega))
     refine dr (ro_min (u2 rfl up_h) up_h) rfl <| dr (ro_eq (ro_sl k6_sl33 (u8 rfl up_h) (up_m rfl (u4 rfl up_h)) up_h (by omega) (by omega) (by simp only [lnS] <;> omega)) (by simp only [pS, Value.cells, Nat.reduceAdd, pE, one_iE, app_m, td_m] <;> rfl)) rfl ?_
     refine dr (ro_assign up_h) rfl <| ds_nil <| ae5 (up_m rfl (u4 rfl (u8 rfl s1_9))) (up_m rfl (u4 rfl (u8 rfl s3_9))) up_h (up_m rfl (u4 rfl (u8 rfl s8_9))) (up_m rfl (u4 rfl (u8 rfl s9_9))) ?_; clear s1_9 s3_9 s4_9 s8_9 s9_9; intro e_10 s1_10 s3_10 s5_10 s8_10 s9_10
     refine then_n <| at_ <| ar (ro_move s3_10) rfl <| ar (ro_move (up_m rfl s5_10)) rfl <| ar (ro_call (evL_cons up_h (evL_cons ev_f evL_nil)) rfl (meetMin_ok ps hok hp hp2 i (by omega) (by omega)) k6_hcf91) rfl ?_
     refine ar (ro_eq (ro_fld qfl123_2 up_h (nle rfl) rfl) (by simp only [pS, Value.cells, Nat.reduceAdd, pE, one_iE, app_m, td_m] <;> rfl)) rfl ?_
     refine ar (ro_lit k6_sl50 (evP_cons up_h evP_nil) rfl rfl rfl rfl) rfl <| al_stm (st_app k6_sl50 rfl ml_6 mo_j3_6 (u4 rfl up_h) up_h (by rfl) (by simp only [lnS] <;> omega)) trivial rfl (fun m_11 hm_11 => ?_)
     have mon_6_11 := m_swap hm_11 ml_6
     simp only [pS, Value.cells, Nat.reduceAdd, pE, one_iE, app_m, td_m] at mon_6_11
     have mo0_11 := m_swap_o hm_11 mo0_6 (by omega)
     have ml_11 := m_swap_l hm_11 ml_6
     clear hm_11 mo0_6 mo_j3_6
     refine ar (ro_assign up_h) rfl <| ae4 (up_m rfl (u2 rfl (u4 rfl s1_10))) up_h (up_m rfl (u2 rfl (u4 rfl s8_10))) (up_m rfl (u2 rfl (u4 rfl s9_10))) ?_; clear s1_10 s3_10 s5_10 s8_10 s9_10; intro e_12 s1_12 s3_12 s8_12 s9_12
     refine block_n <| then_n <| at_ ?_
     (refine ar (ro_add' s9_12 ev_c ?_) rfl ?_; · (unfold In64; omega))
     refine ar (ro_move up_h) rfl <| ae4 (u2 rfl s1_12) (u2 rfl s3_12) (u2 rfl s8_12) up_h ?_; clear s1_12 s3_12 s8_12 s9_12; intro e_13 s1_13 s3_13 s8_13 s9_13
     refine then_n <| ⟨⟨_, _⟩, ⟨s9_13, (s1_13.trans s1_5.symm), (s8_13.trans s8_5.symm), (mo0_11.trans mo0_5.symm), ⟨_, s3_13, mon_6_11, (by omega)⟩, ⟨_, ml_11, by omega⟩, ?_⟩, ?_⟩
     · (obtain ⟨h1, h2, h3⟩ := hinv; refine ⟨by omega, by omega, ?_⟩; rw [(meet_lim (by omega) (by omega) hp).2, h3, liW_succ]; congr 1; omega)
     · ((try dsimp only); omega)
    replace hq_8 := bf hq_8
    refine aw_exit <| then_x <| then_x <| block_hit <| then_n <| aw_seq <| at_ <| ar (ro_move s3_7) rfl <| ar (ro_assign up_h) rfl <| ae1 up_h ?_; clear s10_7 s1_7 s3_7 s8_7 s9_7; intro e_14 s2_14
    refine then_n <| aw_ret <| ret1 (.inr rfl) (by kernel_rfl) (resV_tmp s2_14) (.own _ _ _ _ mo_j3_6) ?_
    clear s2_14 mo0_6 mo_j3_6 ml_6
    (obtain ⟨h1, h2, h3⟩ := hinv; rw [h3, show i.toNat = ps.length + 1 by omega])
/-- The curve from behind: so many posts ahead of the last one. -/
def bwD (ps : List Piece) (b sq : Int) (post : Nat) : Nat → Int
  | 0 => sq
  | k + 1 => if bwD ps b sq post k = -1 then -1 else max (-1) (min (limW ps (post - k - 1)) (bwD ps b sq post k + losW b (ps.getD (post - k - 1) default)))
theorem bwD_bound {ps : List Piece} (h : Ok ps) {b sq : Int} {post : Nat} (hs : -1 ≤ sq ∧ sq ≤ 20000000000) : ∀ k, -1 ≤ bwD ps b sq post k ∧ bwD ps b sq post k ≤ 20000000000
  | 0 => hs
  | k + 1 => by
    have := (limW_bound h (post - k - 1)).2
    simp only [bwD]
    split <;> omega
def bwL (ps : List Piece) (b sq : Int) (post : Nat) : List Int := (List.range (post + 1)).map fun j => bwD ps b sq post (post - j)
theorem getD_se {xs : List Int} {i : Nat} {v : Int} (h : i < xs.length) : (xs.set i v).getD i default = v := by simp [List.getD_eq_getElem?_getD, h]
theorem getD_sn {xs : List Int} {i j : Nat} {v : Int} (h : i ≠ j) : (xs.set i v).getD j default = xs.getD j default := by simp [List.getD_eq_getElem?_getD, List.getElem?_set, h]
theorem list_eq {xs : List Int} {n : Nat} {f : Nat → Int} (hl : xs.length = n) (h : ∀ j, j < n → xs.getD j default = f j) : xs = (List.range n).map f := by
  apply List.ext_getElem (by simpa using hl)
  intro j h1 h2
  have := h j (by omega)
  simp only [List.getD_eq_getElem?_getD, List.getElem?_eq_getElem h1, Option.getD_some] at this
  simpa using this
set_option maxRecDepth 100000 in
set_option maxHeartbeats 4000000 in
theorem backward_ok (nm : ByteArray) (ps : List Piece) (hok : Ok ps) (hp : 0 < ps.length) (hp2 : ps.length ≤ 900) (b d v sq post : Int) (hb : 0 ≤ b ∧ b ≤ 3000) (hsq : -1 ≤ sq ∧ sq ≤ 20000000000) (h0 : 0 ≤ post) (h1 : post ≤ ps.length) :
    FnOk Tryd.prog 69 [riA nm ps b d v, iA sq, iA post] (fun q => q = .row 1 ((bwL ps b sq post.toNat).map iE)) := by
  refine fnOk_of (fn := Tryd.f69) 54 (by kernel_rfl) rfl (by kernel_rfl) (Nat.le_of_ble_eq_true rfl) ?_
  intro e_0 m_0 hA hm_0
  have s0_0 : evA e_0 (.tmp 0) = _ := hA 0 _ rfl
  have s1_0 : evA e_0 (.tmp 1) = _ := hA 1 _ rfl
  have s2_0 : evA e_0 (.tmp 2) = _ := hA 2 _ rfl
  have ml_0 : m_0.length = 0 := by rw [hm_0]; rfl
  clear hA hm_0
  have hlw := liW_len ps (ps.length + 1)
  refine aw_seq <| at_ <| al_stm (st_box s0_0 rfl ml_0) trivial rfl (fun m_1 hm_1 => ?_)
  have mo0_1 := m_push hm_1 ml_0
  have ml_1 := m_push_l hm_1 ml_0
  have ml_1 : _ = 1 := ml_1
  clear hm_1
  refine ar (ro_assign ev_c) rfl <| ae3 (u2 rfl s1_0) (u2 rfl s2_0) (up_m rfl up_h) ?_; clear s0_0 s1_0 s2_0; intro e_2 s1_2 s2_2 s3_2
  refine then_n <| aw_seq <| at_ <| ar (ro_fld_ptr qfl117_0 rfl s3_2) rfl <| ar (ro_eq (ro_ld_ptr k6_ty115 rfl mo0_1 up_h (nle rfl)) (by simp only [pS, Value.cells, Nat.reduceAdd, rep_iE, set_iE] <;> rfl)) rfl ?_
  refine ar (ro_call (evL_cons up_h evL_nil) rfl (limits_ok nm ps hok hp hp2) qhcf68) rfl <| ar (ro_assign up_h) rfl <| ae4 (u4 rfl s1_2) (u4 rfl s2_2) (u4 rfl s3_2) up_h ?_; clear s1_2 s2_2 s3_2; intro e_3 s1_3 s2_3 s3_3 s7_3
  refine then_n <| aw_seq <| at_ <| ar (ro_move s2_3) rfl ?_
  (refine ar (ro_add' up_h ev_c ?_) rfl ?_; · (unfold In64; omega))
  refine al_stm (st_mk k6_sl50 rfl rfl ml_1 up_h up_h (by omega) (by omega)) trivial rfl (fun m_4 hm_4 => ?_)
  have mo1_4 := m_push hm_4 ml_1
  simp only [pS, Value.cells, Nat.reduceAdd, rep_iE, set_iE] at mo1_4
  have mo0_4 := m_push_o hm_4 mo0_1
  have ml_4 := m_push_l hm_4 ml_1
  have ml_4 : _ = 2 := ml_4
  clear hm_4 mo0_1
  refine ar (ro_assign up_h) rfl <| ae5 (u4 rfl s1_3) (u4 rfl s2_3) (u4 rfl s3_3) (u4 rfl s7_3) up_h ?_; clear s1_3 s2_3 s3_3 s7_3; intro e_5 s1_5 s2_5 s3_5 s7_5 s8_5
  refine then_n <| aw_seq <| at_ <| ar (ro_move s8_5) rfl <| ar (ro_move (up_m rfl s2_5)) rfl <| ar (ro_move (u2 rfl s1_5)) rfl <| ar (ro_ix_own k6_sl50 mo1_4 (u2 rfl up_h) (up_m rfl up_h) (by omega) (by simp only [lnS] <;> omega)) rfl ?_
  refine al_stm (st_store_el up_h (up_m rfl up_h) rfl rfl rfl mo1_4 (Nat.add_zero _).symm (by refine idx_mapI ?_; first | omega | (simp only [lnS]; omega)) k6_sz3 rfl (nle rfl)) trivial rfl (fun m_6 hm_6 => ?_)
  have mo1_6 := m_set hm_6 mo1_4
  simp only [pS, Value.cells, Nat.reduceAdd, rep_iE, set_iE] at mo1_6
  have mo0_6 := m_set_o hm_6 mo0_4 (by decide)
  have ml_6 := m_set_l hm_6 ml_4
  clear hm_6 mo1_4 mo0_4
  refine ae4 (up_n (u4 rfl s2_5)) (up_n (u4 rfl s3_5)) (up_n (u4 rfl s7_5)) (up_n (u4 rfl s8_5)) ?_; clear s1_5 s2_5 s3_5 s7_5 s8_5; intro e_7 s2_7 s3_7 s7_7 s8_7
  refine then_n <| aw_seq <| aw_seq <| at_ <| ar (ro_move s2_7) rfl ?_
  (refine ar (ro_sub' up_h ev_c ?_) rfl ?_; · (unfold In64; omega))
  refine ar (ro_assign up_h) rfl <| ae4 (up_m rfl (u2 rfl s3_7)) (up_m rfl (u2 rfl s7_7)) (up_m rfl (u2 rfl s8_7)) up_h ?_; clear s2_7 s3_7 s7_7 s8_7; intro e_8 s3_8 s7_8 s8_8 s9_8
  refine then_n <| aw_block <| aw_loop (S := (Int × List Int)) (fun s e mem => match s with | ⟨i, xs⟩ => (evA e (.tmp 9) = .v (.int .i64 i)) ∧ (evA e (.tmp 3) = evA e_8 (.tmp 3)) ∧ (evA e (.tmp 7) = evA e_8 (.tmp 7)) ∧ (evA e (.tmp 8) = evA e_8 (.tmp 8)) ∧ (mem[1]? = some (.row 3 1 (xs.map iE))) ∧ (mem[0]? = m_6[0]?) ∧ (mem.length = 2) ∧ ((-1 ≤ i ∧ i < post ∧ xs.length = post.toNat + 1 ∧ ∀ j : Nat, i < j → j ≤ post.toNat → xs.getD j default = bwD ps b sq post.toNat (post.toNat - j)))) (fun s => match s with | ⟨i, xs⟩ => (i + 1).toNat) ⟨_, _⟩ ⟨s9_8, rfl, rfl, rfl, mo1_6, rfl, ml_6, ?_⟩ ?_
  · (refine ⟨by omega, by omega, by simp; omega, fun j hj hj2 => ?_⟩; have hjp : j = post.toNat := (by omega); rw [hjp, getD_se (by simp; omega), Nat.sub_self]; rfl)
  · rintro ⟨i, xs⟩ e_9 m_9 ⟨s9_9, k3_9, k7_9, k8_9, mo1_9, mk0_9, ml_9, hinv⟩
    have s3_9 := k3_9.trans s3_8
    have s7_9 := k7_9.trans s7_8
    have s8_9 := k8_9.trans s8_8
    have mo0_9 := mk0_9.trans mo0_6
    refine aw_seq <| aw_seq <| at_ <| ar (ro_move s9_9) rfl <| ar (ro_geq up_h ev_c) rfl <| ae5 (u2 rfl s3_9) (u2 rfl s7_9) (u2 rfl s8_9) (u2 rfl s9_9) up_h ?_; clear s3_9 s7_9 s8_9 s9_9; intro e_10 s3_10 s7_10 s8_10 s9_10 s23_10
    refine then_n <| aw_case s23_10 (fun hq_11 => ?_) (fun hq_11 => ?_)
    ·replace hq_11 := bt hq_11
     (obtain ⟨q1, q2, q3, q4⟩ := hinv; have hq4 := q4 (i + 1).toNat (by omega) (by omega); have hbd := bwD_bound hok (b := b) (post := post.toNat) hsq (post.toNat - (i + 1).toNat); have hlb := limW_bound hok i.toNat; have hpa := hok.at i.toNat; have hlos := los_bound (dec := b) (p := ps.getD i.toNat default) (by omega) hpa.1 hpa.2.1; have hset : (xs.set i.toNat (-1)).getD (i + 1).toNat default = xs.getD (i + 1).toNat default := getD_sn (by omega); have hli : (liW ps (ps.length + 1)).getD i.toNat default = limW ps i.toNat := liW_at ps (by omega))
     refine aw_skip <| then_n <| aw_seq <| aw_block <| aw_seq <| at_ <| ar (ro_move s8_10) rfl <| ar (ro_move (up_m rfl s9_10)) rfl <| ar (ro_ix_own k6_sl50 mo1_9 (up_m rfl up_h) up_h (by omega) (by simp only [lnS] <;> omega)) rfl ?_
     refine al_stm (st_store_el up_h ev_c rfl rfl rfl mo1_9 (Nat.add_zero _).symm (by first | (refine idx_map ?_; first | omega | (simp only [lnS]; omega)) | (refine idx_mapI ?_; first | omega | (simp only [lnS]; omega)) | (refine idx_mapN ?_; first | omega | (simp only [lnS]; omega)) | rfl) k6_sz3 rfl (nle rfl)) trivial rfl (fun m_12 hm_12 => ?_)
     have mo1_12 := m_set hm_12 mo1_9
     simp only [pS, Value.cells, Nat.reduceAdd, rep_iE, set_iE] at mo1_12
     have mo0_12 := m_set_o hm_12 mo0_9 (by decide)
     have ml_12 := m_set_l hm_12 ml_9
     clear hm_12 mo1_9 mo0_9
     refine ae4 (up_n (up_m rfl (u2 rfl s3_10))) (up_n (up_m rfl (u2 rfl s7_10))) (up_n (up_m rfl (u2 rfl s8_10))) (up_n (up_m rfl (u2 rfl s9_10))) ?_; clear s23_10 s3_10 s7_10 s8_10 s9_10; intro e_13 s3_13 s7_13 s8_13 s9_13
     refine then_n <| aw_seq <| at_ <| ar (ro_move s8_13) rfl <| ar (ro_move (up_m rfl s9_13)) rfl ?_
     (refine ar (ro_add' up_h ev_c ?_) rfl ?_; · (unfold In64; omega))
     refine ar (ro_ix_own k6_sl50 mo1_12 (u2 rfl up_h) up_h (by omega) (by simp only [lnS] <;> omega)) rfl ?_
     refine ar (ro_eq (ro_ld_el k6_ty3 rfl mo1_12 up_h (nle rfl) (by refine idx_mapI ?_; first | omega | (simp only [lnS]; omega))) (by simp only [pS, Value.cells, Nat.reduceAdd, rep_iE, set_iE] <;> rfl)) rfl ?_
     refine ar (ro_neq up_h ev_c) rfl <| ae5 (u2 rfl (u4 rfl s3_13)) (u2 rfl (u4 rfl s7_13)) (u2 rfl (u4 rfl s8_13)) (u2 rfl (u4 rfl s9_13)) up_h ?_; clear s3_13 s7_13 s8_13 s9_13; intro e_14 s3_14 s7_14 s8_14 s9_14 s34_14
     refine then_n <| aw_case s34_14 (fun hq_15 => ?_) (fun hq_15 => ?_)
     ·replace hq_15 := bnt hq_15
      refine aw_draw 18 (by kernel_rfl) (by kernel_rfl) (by kernel_rfl) (by kernel_rfl) ?_
      refine dr (ro_move s8_14) rfl <| dr (ro_move (up_m rfl s9_14)) rfl <| dr (ro_move (u2 rfl s7_14)) rfl <| dr (ro_move (up_m rfl (u2 rfl s9_14))) rfl <| dr (ro_eq (ro_ix k6_sl50 (up_m rfl up_h) up_h (by omega) (by first | (refine idx_map ?_; first | omega | (simp only [lnS]; omega)) | (refine idx_mapI ?_; first | omega | (simp only [lnS]; omega)) | (refine idx_mapN ?_; first | omega | (simp only [lnS]; omega)) | rfl)) (by simp only [pS, Value.cells, Nat.reduceAdd, rep_iE, set_iE] <;> rfl)) rfl ?_
      refine dr (ro_eq (ro_ld_ref k6_ty3 rfl up_h (nle rfl)) (by simp only [pS, Value.cells, Nat.reduceAdd, rep_iE, set_iE] <;> rfl)) rfl ?_
      refine dr (ro_move (u2 rfl (u4 rfl s8_14))) rfl <| dr (ro_move (up_m rfl (u2 rfl (u4 rfl s9_14)))) rfl ?_
      (refine dr (ro_add' up_h ev_c ?_) rfl ?_; · (unfold In64; omega))
      refine dr (ro_ix_own k6_sl50 mo1_12 (u2 rfl up_h) up_h (by omega) (by simp only [lnS] <;> omega)) rfl ?_
      refine dr (ro_eq (ro_ld_el k6_ty3 rfl mo1_12 up_h (nle rfl) (by refine idx_mapI ?_; first | omega | (simp only [lnS]; omega))) (by simp only [pS, Value.cells, Nat.reduceAdd, rep_iE, set_iE] <;> rfl)) rfl ?_
      refine dr (ro_eq (ro_ld_ptr k6_ty117 rfl mo0_12 (up_m rfl (u2 rfl (u8 rfl s3_14))) (nle rfl)) (by simp only [pS, Value.cells, Nat.reduceAdd, rep_iE, set_iE] <;> rfl)) rfl ?_
      refine dr (ro_move (u4 rfl (u8 rfl s9_14))) rfl <| dr (ro_call (evL_cons (up_m rfl up_h) (evL_cons up_h evL_nil)) rfl (braked_ok nm ps hok b d v i (by omega) (by omega) hb) qhcf65) rfl ?_
      (refine dr (ro_add' (up_m rfl (u2 rfl up_h)) up_h ?_) rfl ?_; · (unfold In64; omega))
      refine dr (ro_min (up_m rfl (u8 rfl up_h)) up_h) rfl <| dr (ro_max ev_c up_h) rfl <| dr (ro_ix_own k6_sl50 mo1_12 (u16 rfl up_h) (up_m rfl (u2 rfl (u4 rfl (u8 rfl up_h)))) (by omega) (by simp only [lnS] <;> omega)) rfl ?_
      refine ds_nil <| al_stm (st_store_el up_h (up_m rfl up_h) rfl rfl rfl mo1_12 (Nat.add_zero _).symm (by refine idx_mapI ?_; first | omega | (simp only [lnS]; omega)) k6_sz3 rfl (nle rfl)) trivial rfl (fun m_16 hm_16 => ?_)
      have mo1_16 := m_set hm_16 mo1_12
      simp only [pS, Value.cells, Nat.reduceAdd, rep_iE, set_iE] at mo1_16
      have mo0_16 := m_set_o hm_16 mo0_12 (by decide)
      have ml_16 := m_set_l hm_16 ml_12
      clear hm_16 mo1_12 mo0_12
      refine ae4 (up_n (u2 rfl (u16 rfl s3_14))) (up_n (u2 rfl (u16 rfl s7_14))) (up_n (u2 rfl (u16 rfl s8_14))) (up_n (u2 rfl (u16 rfl s9_14))) ?_; clear s34_14 s3_14 s7_14 s8_14 s9_14; intro e_17 s3_17 s7_17 s8_17 s9_17
      refine block_n <| then_n <| at_ <| ar (ro_move s9_17) rfl ?_
      (refine ar (ro_sub' up_h ev_c ?_) rfl ?_; · (unfold In64; omega))
      refine ar (ro_assign up_h) rfl <| ae4 (up_m rfl (u2 rfl s3_17)) (up_m rfl (u2 rfl s7_17)) (up_m rfl (u2 rfl s8_17)) up_h ?_; clear s3_17 s7_17 s8_17 s9_17; intro e_18 s3_18 s7_18 s8_18 s9_18
      refine then_n <| ⟨⟨_, _⟩, ⟨s9_18, (s3_18.trans s3_8.symm), (s7_18.trans s7_8.symm), (s8_18.trans s8_8.symm), mo1_16, (mo0_16.trans mo0_6.symm), ml_16, ?_⟩, ?_⟩
      · (refine ⟨by omega, by omega, by simp; omega, fun j hj hj2 => ?_⟩; by_cases hji : j = i.toNat; (have ek : post.toNat - j = (post.toNat - (i + 1).toNat) + 1 := (by omega); have e2 : post.toNat - (post.toNat - (i + 1).toNat) - 1 = i.toNat := (by omega); rw [ek]; simp only [bwD, e2]; first | (rw [hji, getD_se (by omega)]; rw [if_pos (by rw [← hq4, ← hset]; assumption)]; done) | (rw [hji, getD_se (by omega)]; rw [if_pos (by rw [← hq4, ← hset]; assumption)]) | (rw [hji, getD_se (by simp; omega), if_neg (by omega), hli, hset, hq4])); (first | (rw [getD_sn (by omega)]; exact q4 j (by omega) hj2) | (rw [getD_sn (by omega), getD_sn (by omega)]; exact q4 j (by omega) hj2)))
      · ((try dsimp only); omega)
     replace hq_15 := bnf hq_15
     refine aw_skip <| block_n <| then_n <| at_ <| ar (ro_move s9_14) rfl ?_
     (refine ar (ro_sub' up_h ev_c ?_) rfl ?_; · (unfold In64; omega))
     refine ar (ro_assign up_h) rfl <| ae4 (up_m rfl (u2 rfl s3_14)) (up_m rfl (u2 rfl s7_14)) (up_m rfl (u2 rfl s8_14)) up_h ?_; clear s34_14 s3_14 s7_14 s8_14 s9_14; intro e_19 s3_19 s7_19 s8_19 s9_19
     refine then_n <| ⟨⟨_, _⟩, ⟨s9_19, (s3_19.trans s3_8.symm), (s7_19.trans s7_8.symm), (s8_19.trans s8_8.symm), mo1_12, (mo0_12.trans mo0_6.symm), ml_12, ?_⟩, ?_⟩
     · (refine ⟨by omega, by omega, by simp; omega, fun j hj hj2 => ?_⟩; by_cases hji : j = i.toNat; (have ek : post.toNat - j = (post.toNat - (i + 1).toNat) + 1 := (by omega); have e2 : post.toNat - (post.toNat - (i + 1).toNat) - 1 = i.toNat := (by omega); rw [ek]; simp only [bwD, e2]; first | (rw [hji, getD_se (by omega)]; rw [if_pos (by rw [← hq4, ← hset]; assumption)]; done) | (rw [hji, getD_se (by omega)]; rw [if_pos (by rw [← hq4, ← hset]; assumption)]) | (rw [hji, getD_se (by simp; omega), if_neg (by omega), hli, hset, hq4])); (first | (rw [getD_sn (by omega)]; exact q4 j (by omega) hj2) | (rw [getD_sn (by omega), getD_sn (by omega)]; exact q4 j (by omega) hj2)))
     · ((try dsimp only); omega)
    replace hq_11 := bf hq_11
    refine aw_exit <| then_x <| then_x <| block_hit <| then_n <| aw_seq <| at_ <| ar (ro_move s8_10) rfl <| ar (ro_assign up_h) rfl <| ae1 up_h ?_; clear s23_10 s3_10 s7_10 s8_10 s9_10; intro e_20 s6_20
    refine then_n <| aw_ret <| ret1 (.inr rfl) (by kernel_rfl) (resV_tmp s6_20) (.own _ _ _ _ mo1_9) ?_
    clear s6_20 mo1_9 mo0_9 ml_9
    (obtain ⟨q1, q2, q3, q4⟩ := hinv; congr 2; exact list_eq q3 (fun j hj => q4 j (by omega) (by omega)))
end Go.Proofs.YtfmjmngkgmlghaaDoor

/- Contracts of chapter 5: the exported functions on places, limits, curves. No conditions on a program. -/
namespace Go.Proofs.YtfmjmngkgmlghaaDoor
open Go Go.RowKit Go.Proofs
set_option linter.unusedSimpArgs false
set_option linter.unusedVariables false
theorem k7_fl123_3 : FldIs Tryd.prog 123 3 3 false 1 := by unfold FldIs; kernel_rfl
theorem k7_sl109 : SlIs Tryd.prog 109 26 1 8 (.int .i64 0) := ⟨by kernel_rfl, by kernel_rfl, by kernel_rfl⟩
theorem k7_sl33 : SlIs Tryd.prog 33 123 4 32 (.agg #[.int .i64 0, .int .i64 0, .int .i64 0, .bool false]) := ⟨by kernel_rfl, by kernel_rfl, by kernel_rfl⟩
theorem k7_ty115 : TyIs Tryd.prog 115 true 2 := ⟨by kernel_rfl, by kernel_rfl⟩
theorem k7_ty117 : TyIs Tryd.prog 117 true 5 := ⟨by kernel_rfl, by kernel_rfl⟩
theorem k7_ty3 : TyIs Tryd.prog 3 false 1 := ⟨by kernel_rfl, by kernel_rfl⟩
theorem k7_ty33 : TyIs Tryd.prog 33 false 1 := ⟨by kernel_rfl, by kernel_rfl⟩
theorem k7_ty35 : TyIs Tryd.prog 35 true 2 := ⟨by kernel_rfl, by kernel_rfl⟩
theorem k7_ty4 : TyIs Tryd.prog 4 false 1 := ⟨by kernel_rfl, by kernel_rfl⟩
theorem k7_ty80 : TyIs Tryd.prog 80 true 3 := ⟨by kernel_rfl, by kernel_rfl⟩

theorem firstE_cons {e : Int} {l : List Int} (h : firstE (e :: l) = 0) : e = 0 ∧ firstE l = 0 := by
  simp only [firstE] at h
  by_cases he : e = 0
  · rw [if_pos he] at h; exact ⟨he, h⟩
  · rw [if_neg he] at h; exact absurd h he
theorem unlessE_zero {ok : Bool} {e : Int} (h : unlessE ok e = 0) (he : e ≠ 0) : ok = true := by
  cases ok
  · exact absurd h he
  · rfl
def trackR (ps : List Piece) : Prop := Ok ps ∧ 1 ≤ ps.length ∧ ps.length ≤ 12
theorem chk_right {nm : ByteArray} {ps : List Piece} (h : (chk nm ps).2 = 0) : trackR ps := by
  unfold chk at h
  by_cases h0 : err0 nm ps ≠ 0
  · rw [if_pos h0] at h; exact absurd h h0
  · rw [if_neg h0] at h
    have h0' : err0 nm ps = 0 := by simpa using h0
    obtain ⟨_, h1⟩ := firstE_cons h0'
    obtain ⟨h2, h3⟩ := firstE_cons h1
    obtain ⟨h4, _⟩ := firstE_cons h3
    have h5 := unlessE_zero h2 (by decide)
    have h6 := unlessE_zero h4 (by decide)
    simp only [decide_eq_true_eq] at h5 h6
    refine ⟨fun p hp => ?_, by omega, by omega⟩
    cases hf : ps.findIdx? fun p => !pieceB p with
    | some i => rw [hf] at h; simp at h
    | none =>
      rw [List.findIdx?_eq_none_iff] at hf
      simpa using hf p hp
def sysR (b d v : Int) : Prop := (1 ≤ b ∧ b ≤ 3000) ∧ (0 ≤ d ∧ d ≤ 500) ∧ (0 ≤ v ∧ v ≤ 2000) ∧ d ≤ b
theorem sys_right {b d v : Int} (h : sysE b d v = 0) : sysR b d v := by
  obtain ⟨h1, h2⟩ := firstE_cons h
  obtain ⟨h3, _⟩ := firstE_cons h2
  have h4 := unlessE_zero h1 (by decide)
  have h5 := unlessE_zero h3 (by decide)
  simp only [sysRight, withinB, Bool.and_eq_true, decide_eq_true_eq] at h4 h5
  exact ⟨by omega, by omega, by omega, by omega⟩
theorem ride_right {nm : ByteArray} {ps : List Piece} {b d v : Int} {l : List Int} (h : firstE (firstE [(chk nm ps).2, sysE b d v] :: l) = 0) : trackR ps ∧ sysR b d v ∧ firstE l = 0 := by
  obtain ⟨h1, h2⟩ := firstE_cons h
  obtain ⟨h3, h4⟩ := firstE_cons h1
  exact ⟨chk_right h3, sys_right (firstE_cons h4).1, h2⟩

def stopE (ps : List Piece) (stop : Int) : Int := if withinB stop 0 (ps.length - 1) then unlessE (ps.getD stop.toNat default).leave 15 else 6
def stateE (ps : List Piece) (post sq : Int) : Int := firstE [unlessE (withinB post 0 ps.length) 6, unlessE (withinB sq 0 20000000000) 2]
theorem stop_right {ps : List Piece} {stop : Int} (h : stopE ps stop = 0) : 0 ≤ stop ∧ stop < ps.length ∧ (ps.getD stop.toNat default).leave = true := by
  unfold stopE at h
  split at h
  · rename_i hw
    simp only [withinB, Bool.and_eq_true, decide_eq_true_eq] at hw
    exact ⟨by omega, by omega, unlessE_zero h (by decide)⟩
  · cases h
section
variable (nm : ByteArray) (ps : List Piece) (hp : ps.length ≤ 1000000000) (b d v : Int)
include hp
set_option maxRecDepth 100000 in
set_option maxHeartbeats 1000000 in
theorem stopErr_ok (stop : Int) : FnOk Tryd.prog 59 [riA nm ps b d v, iA stop] (fun q => q = iA (stopE ps stop)) := by
  refine fnOk_of (fn := Tryd.f59) 23 (by kernel_rfl) rfl (by kernel_rfl) (Nat.le_of_ble_eq_true rfl) ?_
  intro e_0 m_0 hA hm_0
  have s0_0 : evA e_0 (.tmp 0) = _ := hA 0 _ rfl
  have s1_0 : evA e_0 (.tmp 1) = _ := hA 1 _ rfl
  have ml_0 : m_0.length = 0 := by rw [hm_0]; rfl
  clear hA hm_0
  refine aw_seq <| at_ <| al_stm (st_box s0_0 rfl ml_0) trivial rfl (fun m_1 hm_1 => ?_)
  have mo0_1 := m_push hm_1 ml_0
  have ml_1 := m_push_l hm_1 ml_0
  have ml_1 : _ = 1 := ml_1
  clear hm_1
  refine ar (ro_assign ev_c) rfl <| ae2 (u2 rfl s1_0) (up_m rfl up_h) ?_; clear s0_0 s1_0; intro e_2 s1_2 s2_2
  refine then_n <| aw_seq <| aw_seq <| at_ <| ar (ro_move s1_2) rfl <| ar (ro_fld_ptr qfl117_0 rfl (up_m rfl s2_2)) rfl <| ar (ro_fld_ptr qfl115_0 rfl up_h) rfl <| ar (ro_fld_ptr qfl35_1 rfl up_h) rfl <| ar (ro_eq (ro_ld_ptr k7_ty33 rfl mo0_1 up_h (nle rfl)) (by simp only [pS, Value.cells, Nat.reduceAdd, pE] <;> rfl)) rfl ?_
  refine ar (ro_eq (ro_len_row up_h rfl k7_sl33.1) (by simp only [lnS] <;> rfl)) rfl ?_
  (refine ar (ro_sub' up_h ev_c ?_) rfl ?_; · (unfold In64; omega))
  refine ar (ro_call (evL_cons (u2 rfl (u4 rfl up_h)) (evL_cons ev_c (evL_cons up_h evL_nil))) rfl (within_ok _ _ _) qhcf88) rfl <| ar (ro_not up_h) rfl <| ae3 (up_m rfl (u8 rfl s1_2)) (up_m rfl (u8 rfl s2_2)) up_h ?_; clear s1_2 s2_2; intro e_3 s1_3 s2_3 s13_3
  refine then_n <| aw_case s13_3 (fun hq_4 => ?_) (fun hq_4 => ?_)
  ·replace hq_4 := bt' hq_4
   refine aw_seq <| at_ <| ar (ro_assign ev_c) rfl <| ae1 up_h ?_; clear s13_3 s1_3 s2_3; intro e_5 s4_5
   refine then_n <| aw_ret <| then_r <| ret1 (.inr rfl) (by kernel_rfl) (resV_tmp s4_5) (.ro _ rfl) ?_
   clear s4_5 mo0_1 ml_1
   (have hw : withinB stop 0 (ps.length - 1) = false := (by assumption); rw [stopE, if_neg (by simp [hw])])
  replace hq_4 := bf' hq_4
  (have hw : withinB stop 0 (ps.length - 1) = true := (by assumption); simp only [withinB, Bool.and_eq_true, decide_eq_true_eq] at hw)
  refine aw_skip <| then_n <| aw_seq <| at_ <| ar (ro_fld_ptr qfl117_0 rfl s2_3) rfl <| ar (ro_fld_ptr qfl115_0 rfl up_h) rfl <| ar (ro_fld_ptr qfl35_1 rfl up_h) rfl <| ar (ro_eq (ro_ld_ptr k7_ty33 rfl mo0_1 up_h (nle rfl)) (by simp only [pS, Value.cells, Nat.reduceAdd, pE] <;> rfl)) rfl ?_
  refine ar (ro_move (u4 rfl s1_3)) rfl <| ar (ro_eq (ro_ix k7_sl33 (up_m rfl up_h) up_h (by omega) (by first | (refine idx_map ?_; first | omega | (simp only [lnS]; omega)) | (refine idx_mapI ?_; first | omega | (simp only [lnS]; omega)) | (refine idx_mapN ?_; first | omega | (simp only [lnS]; omega)) | rfl)) (by simp only [pS, Value.cells, Nat.reduceAdd, pE] <;> rfl)) rfl ?_
  refine ar (ro_eq (ro_fld_ref k7_fl123_3 rfl up_h) (by simp only [pS, Value.cells, Nat.reduceAdd, pE] <;> rfl)) rfl ?_
  refine ar (ro_eq (ro_ld_ref k7_ty4 rfl up_h (nle rfl)) (by simp only [pS, Value.cells, Nat.reduceAdd, pE] <;> rfl)) rfl ?_
  refine ar (ro_call (evL_cons up_h (evL_cons ev_c evL_nil)) rfl (unless_ok _ _) qhcf66) rfl <| ar (ro_assign up_h) rfl <| ae1 up_h ?_; clear s13_3 s1_3 s2_3; intro e_6 s4_6
  refine then_n <| aw_ret <| ret1 (.inr rfl) (by kernel_rfl) (resV_tmp s4_6) (.ro _ rfl) ?_
  clear s4_6 mo0_1 ml_1
  (rw [stopE, if_pos (by simp [withinB]; omega)])
set_option maxRecDepth 100000 in
set_option maxHeartbeats 1000000 in
theorem stateErr_ok (post sq : Int) : FnOk Tryd.prog 63 [riA nm ps b d v, .agg [iA post, iA sq]] (fun q => q = iA (stateE ps post sq)) := by
  have _hp := hp
  refine fnOk_of (fn := Tryd.f63) 18 (by kernel_rfl) rfl (by kernel_rfl) (Nat.le_of_ble_eq_true rfl) ?_
  intro e_0 m_0 hA hm_0
  have s0_0 : evA e_0 (.tmp 0) = _ := hA 0 _ rfl
  have s1_0 : evA e_0 (.tmp 1) = _ := hA 1 _ rfl
  have ml_0 : m_0.length = 0 := by rw [hm_0]; rfl
  clear hA hm_0
  refine aw_seq <| at_ <| al_stm (st_box s0_0 rfl ml_0) trivial rfl (fun m_1 hm_1 => ?_)
  have mo0_1 := m_push hm_1 ml_0
  have ml_1 := m_push_l hm_1 ml_0
  have ml_1 : _ = 1 := ml_1
  clear hm_1
  refine al_stm (st_box (up_m rfl s1_0) rfl ml_1) trivial rfl (fun m_2 hm_2 => ?_)
  have mo1_2 := m_push hm_2 ml_1
  have mo0_2 := m_push_o hm_2 mo0_1
  have ml_2 := m_push_l hm_2 ml_1
  have ml_2 : _ = 2 := ml_2
  clear hm_2 mo0_1
  refine ar (ro_assign ev_c) rfl <| ae2 (u2 rfl up_h) (up_m rfl up_h) ?_; clear s0_0 s1_0; intro e_3 s2_3 s3_3
  refine then_n <| aw_seq <| aw_draw 14 (by kernel_rfl) (by kernel_rfl) (by kernel_rfl) (by kernel_rfl) ?_
  refine dr (ro_fld_ptr qfl37_0 rfl s3_3) rfl <| dr (ro_eq (ro_ld_ptr k7_ty3 rfl mo1_2 up_h (nle rfl)) (by simp only [pS, Value.cells, Nat.reduceAdd] <;> rfl)) rfl ?_
  refine dr (ro_fld_ptr qfl117_0 rfl (u2 rfl s2_3)) rfl <| dr (ro_eq (ro_ld_ptr k7_ty115 rfl mo0_2 up_h (nle rfl)) (by simp only [pS, Value.cells, Nat.reduceAdd] <;> rfl)) rfl ?_
  refine dr (ro_call (evL_cons up_h evL_nil) rfl (last_ok nm ps) qhcf70) rfl <| dr (ro_call (evL_cons (up_m rfl (u2 rfl up_h)) (evL_cons ev_c (evL_cons up_h evL_nil))) rfl (within_ok _ _ _) qhcf88) rfl <| dr (ro_call (evL_cons up_h (evL_cons ev_c evL_nil)) rfl (unless_ok _ _) qhcf66) rfl <| dr (ro_fld_ptr qfl37_1 rfl (up_m rfl (u2 rfl (u4 rfl s3_3)))) rfl <| dr (ro_eq (ro_ld_ptr k7_ty3 rfl mo1_2 up_h (nle rfl)) (by simp only [pS, Value.cells, Nat.reduceAdd] <;> rfl)) rfl ?_
  refine dr (ro_call (evL_cons up_h evL_nil) rfl (isSquare_ok _) qhcf67) rfl <| dr (ro_call (evL_cons up_h (evL_cons ev_c evL_nil)) rfl (unless_ok _ _) qhcf66) rfl <| dr (ro_lit k7_sl109 (evP_cons (u4 rfl up_h) (evP_cons up_h evP_nil)) rfl rfl rfl rfl) rfl <| dr (ro_call (evL_cons up_h evL_nil) rfl (first_ok [_, _] (by simp)) qhcf58) rfl ?_
  refine dr (ro_assign up_h) rfl <| ds_nil <| ae1 up_h ?_; clear s2_3 s3_3; intro e_4 s4_4
  refine then_n <| aw_ret <| ret1 (.inr rfl) (by kernel_rfl) (resV_tmp s4_4) (.ro _ rfl) ?_
  clear s4_4 mo1_2 mo0_2 ml_2
  rfl
end
def curE (nm : ByteArray) (ps : List Piece) (b d v stop : Int) : Int := firstE [firstE [(chk nm ps).2, sysE b d v], stopE ps stop]
section
variable (nm : ByteArray) (ps : List Piece) (hok : trackR ps) (b d v : Int) (hb : sysR b d v)
include hok hb
set_option maxRecDepth 100000 in
set_option maxHeartbeats 1000000 in
theorem curve_ok (stop : Int) (h0 : 0 ≤ stop) (h1 : stop < ps.length) : FnOk Tryd.prog 60 [riA nm ps b d v, iA stop] (fun q => q = .row 1 ((bwL ps b 0 (stop + 1).toNat).map iE)) := by
  obtain ⟨q1, q2, q3⟩ := hok
  obtain ⟨r1, r2, r3, r4⟩ := hb
  refine fnOk_of (fn := Tryd.f60) 9 (by kernel_rfl) rfl (by kernel_rfl) (Nat.le_of_ble_eq_true rfl) ?_
  intro e_0 m_0 hA hm_0
  have s0_0 : evA e_0 (.tmp 0) = _ := hA 0 _ rfl
  have s1_0 : evA e_0 (.tmp 1) = _ := hA 1 _ rfl
  have ml_0 : m_0.length = 0 := by rw [hm_0]; rfl
  clear hA hm_0
  refine aw_seq <| at_ <| al_stm (st_box s0_0 rfl ml_0) trivial rfl (fun m_1 hm_1 => ?_)
  have mo0_1 := m_push hm_1 ml_0
  have ml_1 := m_push_l hm_1 ml_0
  have ml_1 : _ = 1 := ml_1
  clear hm_1
  refine ar (ro_assign ev_c) rfl <| ae2 (u2 rfl s1_0) (up_m rfl up_h) ?_; clear s0_0 s1_0; intro e_2 s1_2 s2_2
  refine then_n <| aw_seq <| at_ <| ar (ro_eq (ro_ld_ptr k7_ty117 rfl mo0_1 s2_2 (nle rfl)) (by simp only [pS, Value.cells, Nat.reduceAdd] <;> rfl)) rfl ?_
  refine ar (ro_move (up_m rfl s1_2)) rfl ?_
  (refine ar (ro_add' up_h ev_c ?_) rfl ?_; · (unfold In64; omega))
  refine ar (ro_call (evL_cons (u2 rfl up_h) (evL_cons ev_c (evL_cons up_h evL_nil))) rfl (backward_ok nm ps q1 (by omega) (by omega) b d v 0 (stop + 1) (by omega) (by omega) (by omega) (by omega)) qhcf69) rfl ?_
  refine ar (ro_assign up_h) rfl <| ae1 up_h ?_; clear s1_2 s2_2; intro e_3 s4_3
  refine then_n <| aw_ret <| ret1 (.inr rfl) (by kernel_rfl) (resV_tmp s4_3) (.ro _ rfl) ?_
  clear s4_3 mo0_1 ml_1
  rfl
end
section
variable (nm : ByteArray) (ps : List Piece) (hs : nm.size ≤ 1000000000) (hp : ps.length ≤ 1000000000) (b d v : Int)
include hs hp
set_option maxRecDepth 100000 in
set_option maxHeartbeats 1000000 in
theorem curveOf_ok (stop : Int) : FnOk Tryd.prog 34 [trA nm ps, syA b d v, iA stop] (fun q => q = .tuple [.row 1 ((if curE nm ps b d v stop = 0 then bwL ps b 0 (stop + 1).toNat else []).map iE), iA (curE nm ps b d v stop)]) := by
  refine fnOk_of (fn := Tryd.f34) 28 (by kernel_rfl) rfl (by kernel_rfl) (Nat.le_of_ble_eq_true rfl) ?_
  intro e_0 m_0 hA hm_0
  have s0_0 : evA e_0 (.tmp 0) = _ := hA 0 _ rfl
  have s1_0 : evA e_0 (.tmp 1) = _ := hA 1 _ rfl
  have s2_0 : evA e_0 (.tmp 2) = _ := hA 2 _ rfl
  have ml_0 : m_0.length = 0 := by rw [hm_0]; rfl
  clear hA hm_0
  refine aw_seq <| at_ <| al_stm (st_box s0_0 rfl ml_0) trivial rfl (fun m_1 hm_1 => ?_)
  have mo0_1 := m_push hm_1 ml_0
  have ml_1 := m_push_l hm_1 ml_0
  have ml_1 : _ = 1 := ml_1
  clear hm_1
  refine al_stm (st_box (up_m rfl s1_0) rfl ml_1) trivial rfl (fun m_2 hm_2 => ?_)
  have mo1_2 := m_push hm_2 ml_1
  have mo0_2 := m_push_o hm_2 mo0_1
  have ml_2 := m_push_l hm_2 ml_1
  have ml_2 : _ = 2 := ml_2
  clear hm_2 mo0_1
  refine ar (ro_assign ev_c) rfl <| ar (ro_assign ev_c) rfl <| ae3 (u4 rfl s2_0) (up_m rfl (u2 rfl up_h)) (u2 rfl up_h) ?_; clear s0_0 s1_0 s2_0; intro e_3 s2_3 s3_3 s4_3
  refine then_n <| aw_seq <| at_ <| ar (ro_eq (ro_ld_ptr k7_ty35 rfl mo0_2 s3_3 (nle rfl)) (by simp only [pS, Value.cells, Nat.reduceAdd] <;> rfl)) rfl ?_
  refine ar (ro_eq (ro_ld_ptr k7_ty80 rfl mo1_2 (up_m rfl s4_3) (nle rfl)) (by simp only [pS, Value.cells, Nat.reduceAdd] <;> rfl)) rfl ?_
  refine ar (ro_call (evL_cons (up_m rfl up_h) (evL_cons up_h evL_nil)) rfl (openRide_ok nm ps hs hp b d v) qhcf57) rfl <| ar (ro_move up_h) rfl <| ar (ro_extract up_h rfl) rfl <| ar (ro_extract (up_m rfl up_h) rfl) rfl <| al_stm (st_alloc qaz117 rfl ml_2) trivial rfl (fun m_4 hm_4 => ?_)
  have mo2_4 := m_push hm_4 ml_2
  simp only [pS, Value.cells, Nat.reduceAdd] at mo2_4
  have mo1_4 := m_push_o hm_4 mo1_2
  have mo0_4 := m_push_o hm_4 mo0_2
  have ml_4 := m_push_l hm_4 ml_2
  have ml_4 : _ = 3 := ml_4
  clear hm_4 mo1_2 mo0_2
  refine al_stm (st_store up_h (u2 rfl up_h) rfl rfl mo2_4 qsz117 rfl (nle rfl)) trivial rfl (fun m_5 hm_5 => ?_)
  have mo2_5 := m_set hm_5 mo2_4
  simp only [pS, Value.cells, Nat.reduceAdd] at mo2_5
  have mo1_5 := m_set_o hm_5 mo1_4 (by decide)
  have mo0_5 := m_set_o hm_5 mo0_4 (by decide)
  have ml_5 := m_set_l hm_5 ml_4
  clear hm_5 mo2_4 mo1_4 mo0_4
  refine ar (ro_assign (up_n (up_m rfl up_h))) rfl <| ae3 (up_m rfl (up_n (up_m rfl (u2 rfl (u4 rfl s2_3))))) (up_m rfl (up_n up_h)) up_h ?_; clear s2_3 s3_3 s4_3; intro e_6 s2_6 s8_6 s9_6
  refine then_n <| aw_seq <| aw_seq <| at_ <| ar (ro_move s9_6) rfl <| ar (ro_eq (ro_ld_ptr k7_ty117 rfl mo2_5 (up_m rfl s8_6) (nle rfl)) (by simp only [pS, Value.cells, Nat.reduceAdd] <;> rfl)) rfl ?_
  refine ar (ro_move (u2 rfl s2_6)) rfl <| ar (ro_call (evL_cons (up_m rfl up_h) (evL_cons up_h evL_nil)) rfl (stopErr_ok nm ps hp b d v stop) qhcf59) rfl <| ar (ro_lit k7_sl109 (evP_cons (up_m rfl (u2 rfl up_h)) (evP_cons up_h evP_nil)) rfl rfl rfl rfl) rfl <| ar (ro_call (evL_cons up_h evL_nil) rfl (first_ok [_, _] (by simp)) qhcf58) rfl ?_
  refine ar (ro_assign up_h) rfl <| ae3 (up_m rfl (u2 rfl (u4 rfl s2_6))) (up_m rfl (u2 rfl (u4 rfl s8_6))) up_h ?_; clear s2_6 s8_6 s9_6; intro e_7 s2_7 s8_7 s9_7
  refine then_n <| aw_seq <| at_ <| ar (ro_move s9_7) rfl <| ar (ro_neq up_h ev_c) rfl <| ae4 (u2 rfl s2_7) (u2 rfl s8_7) (u2 rfl s9_7) up_h ?_; clear s2_7 s8_7 s9_7; intro e_8 s2_8 s8_8 s9_8 s23_8
  refine then_n <| aw_case s23_8 (fun hq_9 => ?_) (fun hq_9 => ?_)
  ·replace hq_9 := bnt hq_9
   refine aw_seq <| at_ <| ar (ro_move s9_8) rfl <| ar (ro_assign ev_c) rfl <| ar (ro_assign (up_m rfl up_h)) rfl <| ae2 (up_m rfl up_h) up_h ?_; clear s23_8 s2_8 s8_8 s9_8; intro e_10 s6_10 s7_10
   refine then_n <| aw_ret <| then_r <| ret2 (.inr rfl) (by kernel_rfl) (resV_tmp s6_10) (resV_tmp s7_10) (.nil 1) (.ro _ rfl) ?_
   clear s6_10 s7_10 mo2_5 mo1_5 mo0_5 ml_5
   (have hq : ¬ curE nm ps b d v stop = 0 := (by assumption); rw [if_neg hq]; rfl)
  replace hq_9 := bnf hq_9
  (have hq : curE nm ps b d v stop = 0 := (by assumption); have hR := ride_right hq; have hS := stop_right (firstE_cons hR.2.2).1)
  refine aw_skip <| then_n <| aw_seq <| at_ <| ar (ro_eq (ro_ld_ptr k7_ty117 rfl mo2_5 s8_8 (nle rfl)) (by simp only [pS, Value.cells, Nat.reduceAdd] <;> rfl)) rfl ?_
  refine ar (ro_move (up_m rfl s2_8)) rfl <| ar (ro_call (evL_cons (up_m rfl up_h) (evL_cons up_h evL_nil)) rfl (curve_ok nm ps hR.1 b d v hR.2.1 stop hS.1 hS.2.1) qhcf60) rfl <| ar (ro_assign up_h) rfl <| ar (ro_assign ev_c) rfl <| ae2 (up_m rfl up_h) up_h ?_; clear s23_8 s2_8 s8_8 s9_8; intro e_11 s6_11 s7_11
  refine then_n <| aw_ret <| ret2 (.inr rfl) (by kernel_rfl) (resV_tmp s6_11) (resV_tmp s7_11) (.ro _ rfl) (.ro _ rfl) ?_
  clear s6_11 s7_11 mo2_5 mo1_5 mo0_5 ml_5
  (rw [hq, if_pos rfl])
end
end Go.Proofs.YtfmjmngkgmlghaaDoor

/- Contracts of chapter 5: runs, the fastest squares. No conditions on a program. -/
namespace Go.Proofs.YtfmjmngkgmlghaaDoor
open Go Go.RowKit Go.Proofs
set_option linter.unusedSimpArgs false
set_option linter.unusedVariables false
theorem k8_hcf61 : ∀ args w, (callFunc 61 args).run Tryd.prog w = .ok (.enter 61 args) w := fun _ _ => by kernel_rfl
theorem k8_hcf62 : ∀ args w, (callFunc 62 args).run Tryd.prog w = .ok (.enter 62 args) w := fun _ _ => by kernel_rfl
theorem k8_hcf89 : ∀ args w, (callFunc 89 args).run Tryd.prog w = .ok (.enter 89 args) w := fun _ _ => by kernel_rfl
theorem k8_sl109 : SlIs Tryd.prog 109 26 1 8 (.int .i64 0) := ⟨by kernel_rfl, by kernel_rfl, by kernel_rfl⟩
theorem k8_sl50 : SlIs Tryd.prog 50 3 1 8 (.int .i64 0) := ⟨by kernel_rfl, by kernel_rfl, by kernel_rfl⟩
theorem k8_ty117 : TyIs Tryd.prog 117 true 5 := ⟨by kernel_rfl, by kernel_rfl⟩
theorem k8_ty3 : TyIs Tryd.prog 3 false 1 := ⟨by kernel_rfl, by kernel_rfl⟩
theorem k8_ty35 : TyIs Tryd.prog 35 true 2 := ⟨by kernel_rfl, by kernel_rfl⟩
theorem k8_ty37 : TyIs Tryd.prog 37 true 2 := ⟨by kernel_rfl, by kernel_rfl⟩
theorem k8_ty80 : TyIs Tryd.prog 80 true 3 := ⟨by kernel_rfl, by kernel_rfl⟩

theorem bwL_len (ps : List Piece) (b sq : Int) (n : Nat) : (bwL ps b sq n).length = n + 1 := by simp [bwL]
theorem bwL_at (ps : List Piece) (b sq : Int) {n j : Nat} (h : j ≤ n) : (bwL ps b sq n).getD j default = bwD ps b sq n (n - j) := by simp [bwL, List.getD_eq_getElem?_getD, show j < n + 1 by omega]
theorem bwL_bound {ps : List Piece} (h : Ok ps) {b sq : Int} (hs : -1 ≤ sq ∧ sq ≤ 20000000000) (n j : Nat) : -1 ≤ (bwL ps b sq n).getD j default ∧ (bwL ps b sq n).getD j default ≤ 20000000000 := by
  by_cases hj : j ≤ n
  · rw [bwL_at ps b sq hj]; exact bwD_bound h hs _
  · have : (bwL ps b sq n).getD j default = 0 := by
      rw [List.getD_eq_getElem?_getD, List.getElem?_eq_none (by rw [bwL_len]; omega)]; rfl
    rw [this]; omega
/-- A run, so many posts on. -/
def goL (f : Nat → Int → Int) (sq : Int) : Nat → Option (List Int)
  | 0 => some [sq]
  | k + 1 => match goL f sq k with
    | none => none
    | some l => if f k (l.getD k default) < 0 then none else some (l ++ [f k (l.getD k default)])
theorem goL_none {f : Nat → Int → Int} {sq : Int} {k : Nat} (h : goL f sq k = none) : ∀ m, goL f sq (k + m) = none
  | 0 => h
  | m + 1 => by
    have := goL_none h m
    show goL f sq (k + m + 1) = none
    simp only [goL, this]
theorem goL_stop {f : Nat → Int → Int} {sq : Int} {k n : Nat} {l : List Int} (h : goL f sq k = some l) (hk : k < n) (hf : f k (l.getD k default) < 0) : goL f sq n = none := by
  have h1 : goL f sq (k + 1) = none := by simp only [goL, h]; rw [if_pos hf]
  have := goL_none h1 (n - (k + 1))
  rwa [show k + 1 + (n - (k + 1)) = n by omega] at this
theorem goL_step {f : Nat → Int → Int} {sq : Int} {k : Nat} {l : List Int} (h : goL f sq k = some l) (hf : ¬ f k (l.getD k default) < 0) : goL f sq (k + 1) = some (l ++ [f k (l.getD k default)]) := by
  simp only [goL, h]; rw [if_neg hf]
theorem goL_len {f : Nat → Int → Int} {sq : Int} : ∀ {k : Nat} {l : List Int}, goL f sq k = some l → l.length = k + 1
  | 0, l, h => by cases h; rfl
  | k + 1, l, h => by
    simp only [goL] at h
    split at h
    · cases h
    · rename_i q hq
      split at h
      · cases h
      · cases h; simp [goL_len hq]
theorem getD_snoc {l : List Int} {v : Int} {n : Nat} (h : l.length = n) : (l ++ [v]).getD n default = v := by
  subst h; simp [List.getD_eq_getElem?_getD]
/-- What a run to a stop comes to at the next post. -/
def runF (ps : List Piece) (b d stop : Int) (post : Nat) (k : Nat) (x : Int) : Int := min ((bwL ps b 0 (stop + 1).toNat).getD (post + k + 1) default) (x - losW d (ps.getD (post + k) default))
def runW (ps : List Piece) (b d stop post sq : Int) : List Int × Int :=
  if (bwL ps b 0 (stop + 1).toNat).getD post.toNat default = -1 ∨ (bwL ps b 0 (stop + 1).toNat).getD post.toNat default < sq then ([], 24) else
  match goL (runF ps b d stop post.toNat) sq (stop - post).toNat with
  | none => ([], 12)
  | some l => (l, 0)
set_option maxRecDepth 100000 in
set_option maxHeartbeats 4000000 in
theorem run_ok (nm : ByteArray) (ps : List Piece) (hok : trackR ps) (b d v : Int) (hb : sysR b d v) (post sq stop : Int) (h0 : 0 ≤ post) (h1 : post ≤ stop) (h2 : stop < ps.length) (hsq : 0 ≤ sq ∧ sq ≤ 20000000000) :
    FnOk Tryd.prog 62 [riA nm ps b d v, .agg [iA post, iA sq], iA stop] (fun q => q = .tuple [.row 1 ((runW ps b d stop post sq).1.map iE), iA (runW ps b d stop post sq).2]) := by
  obtain ⟨q1, q2, q3⟩ := hok
  obtain ⟨r1, r2, r3, r4⟩ := hb
  have hcl := bwL_len ps b 0 (stop + 1).toNat
  refine fnOk_of (fn := Tryd.f62) 62 (by kernel_rfl) rfl (by kernel_rfl) (Nat.le_of_ble_eq_true rfl) ?_
  intro e_0 m_0 hA hm_0
  have s0_0 : evA e_0 (.tmp 0) = _ := hA 0 _ rfl
  have s1_0 : evA e_0 (.tmp 1) = _ := hA 1 _ rfl
  have s2_0 : evA e_0 (.tmp 2) = _ := hA 2 _ rfl
  have ml_0 : m_0.length = 0 := by rw [hm_0]; rfl
  clear hA hm_0
  refine aw_seq <| at_ <| al_stm (st_box s0_0 rfl ml_0) trivial rfl (fun m_1 hm_1 => ?_)
  have mo0_1 := m_push hm_1 ml_0
  have ml_1 := m_push_l hm_1 ml_0
  have ml_1 : _ = 1 := ml_1
  clear hm_1
  refine al_stm (st_box (up_m rfl s1_0) rfl ml_1) trivial rfl (fun m_2 hm_2 => ?_)
  have mo1_2 := m_push hm_2 ml_1
  have mo0_2 := m_push_o hm_2 mo0_1
  have ml_2 := m_push_l hm_2 ml_1
  have ml_2 : _ = 2 := ml_2
  clear hm_2 mo0_1
  refine ar (ro_assign ev_c) rfl <| ar (ro_assign ev_c) rfl <| ae3 (u4 rfl s2_0) (up_m rfl (u2 rfl up_h)) (u2 rfl up_h) ?_; clear s0_0 s1_0 s2_0; intro e_3 s2_3 s3_3 s4_3
  refine then_n <| aw_seq <| at_ <| ar (ro_eq (ro_ld_ptr k8_ty117 rfl mo0_2 s3_3 (nle rfl)) (by simp only [pS, Value.cells, Nat.reduceAdd, one_iE, app_m] <;> rfl)) rfl ?_
  refine ar (ro_move (up_m rfl s2_3)) rfl <| ar (ro_call (evL_cons (up_m rfl up_h) (evL_cons up_h evL_nil)) rfl (curve_ok nm ps ⟨q1, q2, q3⟩ b d v ⟨r1, r2, r3, r4⟩ stop (by omega) h2) qhcf60) rfl ?_
  refine ar (ro_assign up_h) rfl <| ae4 (u4 rfl s2_3) (u4 rfl s3_3) (u4 rfl s4_3) up_h ?_; clear s2_3 s3_3 s4_3; intro e_4 s2_4 s3_4 s4_4 s8_4
  refine then_n <| aw_seq <| aw_seq <| at_ <| ar (ro_move s8_4) rfl <| ar (ro_fld_ptr qfl37_0 rfl (up_m rfl s4_4)) rfl <| ar (ro_eq (ro_ld_ptr k8_ty3 rfl mo1_2 up_h (nle rfl)) (by simp only [pS, Value.cells, Nat.reduceAdd, one_iE, app_m] <;> rfl)) rfl ?_
  refine ar (ro_eq (ro_ix k8_sl50 (u2 rfl up_h) up_h (by omega) (by first | (refine idx_map ?_; first | omega | (simp only [lnS]; omega)) | (refine idx_mapI ?_; first | omega | (simp only [lnS]; omega)) | (refine idx_mapN ?_; first | omega | (simp only [lnS]; omega)) | rfl)) (by simp only [pS, Value.cells, Nat.reduceAdd, one_iE, app_m] <;> rfl)) rfl ?_
  refine ar (ro_eq (ro_ld_ref k8_ty3 rfl up_h (nle rfl)) (by simp only [pS, Value.cells, Nat.reduceAdd, one_iE, app_m] <;> rfl)) rfl ?_
  refine ar (ro_assign up_h) rfl <| ae5 (u2 rfl (u4 rfl s2_4)) (u2 rfl (u4 rfl s3_4)) (u2 rfl (u4 rfl s4_4)) (u2 rfl (u4 rfl s8_4)) up_h ?_; clear s2_4 s3_4 s4_4 s8_4; intro e_5 s2_5 s3_5 s4_5 s8_5 s9_5
  refine then_n <| aw_seq <| aw_cut (fun e mem => (evA e (.tmp 28) = .v (.bool (decide ((bwL ps b 0 (stop + 1).toNat).getD post.toNat default = -1 ∨ (bwL ps b 0 (stop + 1).toNat).getD post.toNat default < sq)))) ∧ (evA e (.tmp 2) = evA e_5 (.tmp 2)) ∧ (evA e (.tmp 3) = evA e_5 (.tmp 3)) ∧ (evA e (.tmp 4) = evA e_5 (.tmp 4)) ∧ (evA e (.tmp 8) = evA e_5 (.tmp 8)) ∧ m_2 = mem) ?_ ?_
  ·
    refine at_ <| ar (ro_move s9_5) rfl <| ar (ro_eql up_h ev_c) rfl ?_
    refine ar (ro_move up_h) rfl <| al_case up_h (fun hb_7 hq_7 => ?_) (fun hb_7 hq_7 => ?_)
    ·replace hq_7 := bt hq_7
     refine al_skip' ⟨_, rfl, .inl hb_7⟩ rfl ?_
     refine al_skip' ⟨_, rfl, .inl (up_m rfl hb_7)⟩ rfl ?_
     refine al_skip' ⟨_, rfl, .inl (u2 rfl hb_7)⟩ rfl ?_
     refine al_skip' ⟨_, rfl, .inl (up_m rfl (u2 rfl hb_7))⟩ rfl ?_
     refine ar (ro_pickT (u4 rfl hb_7) ev_c) rfl <| ae5 (u8 rfl s2_5) (u8 rfl s3_5) (u8 rfl s4_5) (u8 rfl s8_5) up_h ?_; intro e_8 s2_8 s3_8 s4_8 s8_8 s28_8
     refine then_n ⟨(s28_8).trans (by (refine avb ?_; simp only [decide_eq_true_eq, true_iff]; omega)), (s2_8).trans (s2_5).symm, (s3_8).trans (s3_5).symm, (s4_8).trans (s4_5).symm, (s8_8).trans (s8_5).symm, rfl⟩
    replace hq_7 := bf hq_7
    refine al_ro' (ro_fld_ptr qfl37_1 rfl (up_m rfl (u2 rfl s4_5))) ⟨_, rfl, hb_7⟩ rfl ?_
    refine al_ro' (ro_eq (ro_ld_ptr k8_ty3 rfl mo1_2 up_h (nle rfl)) (by simp only [pS, Value.cells, Nat.reduceAdd, one_iE, app_m] <;> rfl)) ⟨_, rfl, (up_m rfl hb_7)⟩ rfl ?_
    refine al_ro' (ro_move (up_m rfl (u4 rfl s9_5))) ⟨_, rfl, (u2 rfl hb_7)⟩ rfl ?_
    refine al_ro' (ro_gtr (up_m rfl up_h) up_h) ⟨_, rfl, (up_m rfl (u2 rfl hb_7))⟩ rfl ?_
    refine ar (ro_pickF (u4 rfl hb_7) up_h) rfl <| ae5 (u8 rfl s2_5) (u8 rfl s3_5) (u8 rfl s4_5) (u8 rfl s8_5) up_h ?_; intro e_9 s2_9 s3_9 s4_9 s8_9 s28_9
    refine then_n ⟨(s28_9).trans (by (refine avb ?_; simp only [decide_eq_true_eq, true_iff]; omega)), (s2_9).trans (s2_5).symm, (s3_9).trans (s3_5).symm, (s4_9).trans (s4_5).symm, (s8_9).trans (s8_5).symm, rfl⟩
  · rintro e_6 _ ⟨s28_6, k2_6, k3_6, k4_6, k8_6, rfl⟩
    have s2_6 := k2_6.trans s2_5
    have s3_6 := k3_6.trans s3_5
    have s4_6 := k4_6.trans s4_5
    have s8_6 := k8_6.trans s8_5
    refine aw_case s28_6 (fun hq_10 => ?_) (fun hq_10 => ?_)
    ·replace hq_10 := bt hq_10
     refine aw_seq <| at_ <| ar (ro_assign ev_c) rfl <| ar (ro_assign ev_c) rfl <| ae2 (up_m rfl up_h) up_h ?_; clear s28_6 s2_6 s3_6 s4_6 s8_6; intro e_11 s6_11 s7_11
     refine then_n <| aw_ret <| then_r <| ret2 (.inr rfl) (by kernel_rfl) (resV_tmp s6_11) (resV_tmp s7_11) (.nil 1) (.ro _ rfl) ?_
     clear s6_11 s7_11 mo1_2 mo0_2 ml_2
     (have hc : (bwL ps b 0 (stop + 1).toNat).getD post.toNat default = -1 ∨ (bwL ps b 0 (stop + 1).toNat).getD post.toNat default < sq := (by assumption); rw [runW, if_pos hc]; rfl)
    replace hq_10 := bf hq_10
    refine aw_skip <| then_n <| aw_seq <| at_ <| ar (ro_fld_ptr qfl37_1 rfl s4_6) rfl <| ar (ro_eq (ro_ld_ptr k8_ty3 rfl mo1_2 up_h (nle rfl)) (by simp only [pS, Value.cells, Nat.reduceAdd, one_iE, app_m] <;> rfl)) rfl ?_
    refine al_stm (st_lit k8_sl50 ml_2 (evP_cons up_h evP_nil) rfl rfl rfl rfl) trivial rfl (fun m_12 hm_12 => ?_)
    have mo2_12 := m_push hm_12 ml_2
    simp only [pS, Value.cells, Nat.reduceAdd, one_iE, app_m] at mo2_12
    have mo1_12 := m_push_o hm_12 mo1_2
    have mo0_12 := m_push_o hm_12 mo0_2
    have ml_12 := m_push_l hm_12 ml_2
    have ml_12 : _ = 3 := ml_12
    clear hm_12 mo1_2 mo0_2
    refine ar (ro_assign up_h) rfl <| ae5 (u4 rfl s2_6) (u4 rfl s3_6) (u4 rfl s4_6) (u4 rfl s8_6) up_h ?_; clear s28_6 s2_6 s3_6 s4_6 s8_6; intro e_13 s2_13 s3_13 s4_13 s8_13 s10_13
    refine then_n <| aw_seq <| aw_seq <| at_ <| ar (ro_fld_ptr qfl37_0 rfl s4_13) rfl <| ar (ro_eq (ro_ld_ptr k8_ty3 rfl mo1_12 up_h (nle rfl)) (by simp only [pS, Value.cells, Nat.reduceAdd, one_iE, app_m] <;> rfl)) rfl ?_
    refine ar (ro_assign up_h) rfl <| ae5 (up_m rfl (u2 rfl s2_13)) (up_m rfl (u2 rfl s3_13)) (up_m rfl (u2 rfl s8_13)) (up_m rfl (u2 rfl s10_13)) up_h ?_; clear s10_13 s2_13 s3_13 s4_13 s8_13; intro e_14 s2_14 s3_14 s8_14 s10_14 s11_14
    refine then_n <| aw_block <| aw_loop (S := (Int × List Int)) (fun s e mem => match s with | ⟨i, xs⟩ => (evA e (.tmp 11) = .v (.int .i64 i)) ∧ (evA e (.tmp 2) = evA e_14 (.tmp 2)) ∧ (evA e (.tmp 3) = evA e_14 (.tmp 3)) ∧ (evA e (.tmp 8) = evA e_14 (.tmp 8)) ∧ (mem[1]? = m_12[1]?) ∧ (mem[0]? = m_12[0]?) ∧ (∃ j, evA e (.tmp 10) = .own j ∧ mem[j]? = some (.row 3 1 (xs.map iE)) ∧ j ≠ 1 ∧ j ≠ 0) ∧ (∃ n, mem.length = n ∧ 3 ≤ n) ∧ ((post ≤ i ∧ i ≤ stop ∧ goL (runF ps b d stop post.toNat) sq (i - post).toNat = some xs ∧ 0 ≤ xs.getD (i - post).toNat default ∧ xs.getD (i - post).toNat default ≤ 20000000000))) (fun s => match s with | ⟨i, xs⟩ => (stop - i).toNat) ⟨_, [sq]⟩ ⟨s11_14, rfl, rfl, rfl, rfl, rfl, ⟨_, s10_14, mo2_12, (by decide), (by decide)⟩, ⟨_, ml_12, Nat.le_refl _⟩, ?_⟩ ?_
    · (refine ⟨by omega, by omega, ?_, ?_⟩; (rw [show (post - post).toNat = 0 by omega]; rfl); (rw [show (post - post).toNat = 0 by omega]; exact hsq))
    · rintro ⟨i, xs⟩ e_15 m_15 ⟨s11_15, k2_15, k3_15, k8_15, mk1_15, mk0_15, ⟨j10_15, s10_15, mo_j10_15, nj10_1_15, nj10_0_15⟩, ⟨n_15, ml_15, hn_15⟩, hinv⟩
      have s2_15 := k2_15.trans s2_14
      have s3_15 := k3_15.trans s3_14
      have s8_15 := k8_15.trans s8_14
      have mo1_15 := mk1_15.trans mo1_12
      have mo0_15 := mk0_15.trans mo0_12
      have jl10_15 := m_lt mo_j10_15 ml_15
      (obtain ⟨p1, p2, p3, p4, p5⟩ := hinv; have hl := goL_len p3; have hpa := q1.at i.toNat; have hlos := los_bound (dec := d) (p := ps.getD i.toNat default) (by omega) hpa.1 hpa.2.1; have hlast : xs.getD ((xs.length : Int) - 1).toNat default = xs.getD (i - post).toNat default := (by congr 1; omega); have hcb := bwL_bound q1 (b := b) (sq := 0) (by omega) (stop + 1).toNat (i + 1).toNat; have hf : ∀ x, runF ps b d stop post.toNat (i - post).toNat x = min ((bwL ps b 0 (stop + 1).toNat).getD (i + 1).toNat default) (x - losW d (ps.getD i.toNat default)) := (fun x => by unfold runF; rw [show post.toNat + (i - post).toNat + 1 = (i + 1).toNat by omega, show post.toNat + (i - post).toNat = i.toNat by omega]))
      refine aw_seq <| aw_seq <| at_ <| ar (ro_move s11_15) rfl <| ar (ro_move (up_m rfl s2_15)) rfl <| ar (ro_lss (up_m rfl up_h) up_h) rfl <| ae6 (up_m rfl (u2 rfl s2_15)) (up_m rfl (u2 rfl s3_15)) (up_m rfl (u2 rfl s8_15)) (up_m rfl (u2 rfl s10_15)) (up_m rfl (u2 rfl s11_15)) up_h ?_; clear s10_15 s11_15 s2_15 s3_15 s8_15; intro e_16 s2_16 s3_16 s8_16 s10_16 s11_16 s36_16
      refine then_n <| aw_case s36_16 (fun hq_17 => ?_) (fun hq_17 => ?_)
      ·replace hq_17 := bt hq_17
       refine aw_skip <| then_n <| aw_seq <| aw_block <| aw_seq <| aw_draw 17 (by kernel_rfl) (by kernel_rfl) (by kernel_rfl) (by kernel_rfl) ?_
       refine dr (ro_move s8_16) rfl <| dr (ro_move (up_m rfl s11_16)) rfl ?_
       (refine dr (ro_add' up_h ev_c ?_) rfl ?_; · (unfold In64; omega))
       refine dr (ro_eq (ro_ix k8_sl50 (u2 rfl up_h) up_h (by omega) (by first | (refine idx_map ?_; first | omega | (simp only [lnS]; omega)) | (refine idx_mapI ?_; first | omega | (simp only [lnS]; omega)) | (refine idx_mapN ?_; first | omega | (simp only [lnS]; omega)) | rfl)) (by simp only [pS, Value.cells, Nat.reduceAdd, one_iE, app_m] <;> rfl)) rfl ?_
       refine dr (ro_eq (ro_ld_ref k8_ty3 rfl up_h (nle rfl)) (by simp only [pS, Value.cells, Nat.reduceAdd, one_iE, app_m] <;> rfl)) rfl ?_
       refine dr (ro_move (up_m rfl (u4 rfl s10_16))) rfl <| dr (ro_move (u2 rfl (u4 rfl s10_16))) rfl <| dr (ro_eq (ro_len_own up_h mo_j10_15 rfl k8_sl50.1) (by simp only [lnS] <;> rfl)) rfl ?_
       (refine dr (ro_sub' up_h ev_c ?_) rfl ?_; · (unfold In64; omega))
       refine dr (ro_ix_own k8_sl50 mo_j10_15 (up_m rfl (u2 rfl up_h)) up_h (by omega) (by simp only [lnS] <;> omega)) rfl ?_
       refine dr (ro_eq (ro_ld_el k8_ty3 rfl mo_j10_15 up_h (nle rfl) (by first | (refine idx_map ?_; first | omega | (simp only [lnS]; omega)) | (refine idx_mapI ?_; first | omega | (simp only [lnS]; omega)) | (refine idx_mapN ?_; first | omega | (simp only [lnS]; omega)) | rfl)) (by simp only [pS, Value.cells, Nat.reduceAdd, one_iE, app_m] <;> rfl)) rfl ?_
       refine dr (ro_eq (ro_ld_ptr k8_ty117 rfl mo0_15 (up_m rfl (u2 rfl (u8 rfl s3_16))) (nle rfl)) (by simp only [pS, Value.cells, Nat.reduceAdd, one_iE, app_m] <;> rfl)) rfl ?_
       refine dr (ro_move (u4 rfl (u8 rfl s11_16))) rfl <| dr (ro_call (evL_cons (up_m rfl up_h) (evL_cons up_h evL_nil)) rfl (coasting_ok nm ps q1 b d v i (by omega) (by omega) (by omega)) k8_hcf89) rfl ?_
       (refine dr (ro_sub' (up_m rfl (u2 rfl up_h)) up_h ?_) rfl ?_; · (unfold In64; omega))
       refine dr (ro_min (u2 rfl (u8 rfl up_h)) up_h) rfl <| dr (ro_assign up_h) rfl <| ds_nil <| ae6 (up_m rfl (u16 rfl s2_16)) (up_m rfl (u16 rfl s3_16)) (up_m rfl (u16 rfl s8_16)) (up_m rfl (u16 rfl s10_16)) (up_m rfl (u16 rfl s11_16)) up_h ?_; clear s10_16 s11_16 s2_16 s36_16 s3_16 s8_16; intro e_18 s2_18 s3_18 s8_18 s10_18 s11_18 s12_18
       refine then_n <| aw_seq <| aw_seq <| at_ <| ar (ro_move s12_18) rfl <| ar (ro_lss up_h ev_c) rfl <| ae7 (u2 rfl s2_18) (u2 rfl s3_18) (u2 rfl s8_18) (u2 rfl s10_18) (u2 rfl s11_18) (u2 rfl s12_18) up_h ?_; clear s10_18 s11_18 s12_18 s2_18 s3_18 s8_18; intro e_19 s2_19 s3_19 s8_19 s10_19 s11_19 s12_19 s56_19
       refine then_n <| aw_case s56_19 (fun hq_20 => ?_) (fun hq_20 => ?_)
       ·replace hq_20 := bt hq_20
        refine aw_seq <| at_ <| ar (ro_assign ev_c) rfl <| ar (ro_assign ev_c) rfl <| ae2 (up_m rfl up_h) up_h ?_; clear s10_19 s11_19 s12_19 s2_19 s3_19 s56_19 s8_19; intro e_21 s6_21 s7_21
        refine then_n <| aw_ret <| then_r <| block_r <| then_r <| then_r <| block_r <| then_r <| ret2 (.inr rfl) (by kernel_rfl) (resV_tmp s6_21) (resV_tmp s7_21) (.nil 1) (.ro _ rfl) ?_
        clear s6_21 s7_21 mo1_15 mo0_15 mo_j10_15 ml_15
        (have hc : ¬ ((bwL ps b 0 (stop + 1).toNat).getD post.toNat default = -1 ∨ (bwL ps b 0 (stop + 1).toNat).getD post.toNat default < sq) := (by assumption); have hn := ‹min _ _ < (0 : Int)›; rw [hlast] at hn; rw [runW, if_neg hc, goL_stop (n := (stop - post).toNat) p3 (by omega) (by rw [hf]; exact hn)]; rfl)
       replace hq_20 := bf hq_20
       (have hq_NEG := ‹¬ (min _ _ < (0 : Int))›)
       refine aw_skip <| then_n <| at_ <| ar (ro_move s10_19) rfl <| ar (ro_move (up_m rfl s12_19)) rfl <| ar (ro_lit k8_sl50 (evP_cons up_h evP_nil) rfl rfl rfl rfl) rfl <| al_stm (st_app k8_sl50 rfl ml_15 mo_j10_15 (u2 rfl up_h) up_h (by rfl) (by simp only [lnS] <;> omega)) trivial rfl (fun m_22 hm_22 => ?_)
       have mon_15_22 := m_swap hm_22 ml_15
       simp only [pS, Value.cells, Nat.reduceAdd, one_iE, app_m] at mon_15_22
       have mo1_22 := m_swap_o hm_22 mo1_15 (by omega)
       have mo0_22 := m_swap_o hm_22 mo0_15 (by omega)
       have ml_22 := m_swap_l hm_22 ml_15
       clear hm_22 mo1_15 mo0_15 mo_j10_15
       refine ar (ro_assign up_h) rfl <| ae5 (up_m rfl (u4 rfl s2_19)) (up_m rfl (u4 rfl s3_19)) (up_m rfl (u4 rfl s8_19)) up_h (up_m rfl (u4 rfl s11_19)) ?_; clear s10_19 s11_19 s12_19 s2_19 s3_19 s56_19 s8_19; intro e_23 s2_23 s3_23 s8_23 s10_23 s11_23
       refine block_n <| then_n <| at_ <| ar (ro_move s11_23) rfl ?_
       (refine ar (ro_add' up_h ev_c ?_) rfl ?_; · (unfold In64; omega))
       refine ar (ro_assign up_h) rfl <| ae5 (up_m rfl (u2 rfl s2_23)) (up_m rfl (u2 rfl s3_23)) (up_m rfl (u2 rfl s8_23)) (up_m rfl (u2 rfl s10_23)) up_h ?_; clear s10_23 s11_23 s2_23 s3_23 s8_23; intro e_24 s2_24 s3_24 s8_24 s10_24 s11_24
       refine then_n <| ⟨⟨_, _⟩, ⟨s11_24, (s2_24.trans s2_14.symm), (s3_24.trans s3_14.symm), (s8_24.trans s8_14.symm), (mo1_22.trans mo1_12.symm), (mo0_22.trans mo0_12.symm), ⟨_, s10_24, mon_15_22, (by omega), (by omega)⟩, ⟨_, ml_22, by omega⟩, ?_⟩, ?_⟩
       · (have hn := hq_NEG; rw [hlast] at hn; have hst := goL_step p3 (by rw [hf]; exact hn); rw [hf] at hst; rw [hlast]; refine ⟨by omega, by omega, ?_, ?_⟩; (rw [show (i + 1 - post).toNat = (i - post).toNat + 1 by omega]; exact hst); (rw [show (i + 1 - post).toNat = (i - post).toNat + 1 by omega, getD_snoc (by omega)]; omega))
       · ((try dsimp only); omega)
      replace hq_17 := bf hq_17
      refine aw_exit <| then_x <| then_x <| block_hit <| then_n <| aw_seq <| at_ <| ar (ro_move s10_16) rfl <| ar (ro_assign up_h) rfl <| ar (ro_assign ev_c) rfl <| ae2 (up_m rfl up_h) up_h ?_; clear s10_16 s11_16 s2_16 s36_16 s3_16 s8_16; intro e_25 s6_25 s7_25
      refine then_n <| aw_ret <| ret2 (.inr rfl) (by kernel_rfl) (resV_tmp s6_25) (resV_tmp s7_25) (.own _ _ _ _ mo_j10_15) (.ro _ rfl) ?_
      clear s6_25 s7_25 mo1_15 mo0_15 mo_j10_15 ml_15
      (have hc : ¬ ((bwL ps b 0 (stop + 1).toNat).getD post.toNat default = -1 ∨ (bwL ps b 0 (stop + 1).toNat).getD post.toNat default < sq) := (by assumption); have hi : i = stop := (by omega); rw [hi] at p3; rw [runW, if_neg hc, p3])
def runE (nm : ByteArray) (ps : List Piece) (b d v post sq stop : Int) : Int := firstE [firstE [(chk nm ps).2, sysE b d v], stateE ps post sq, stopE ps stop, unlessE (decide (post ≤ stop)) 9]
theorem runE_right {nm : ByteArray} {ps : List Piece} {b d v post sq stop : Int} (h : runE nm ps b d v post sq stop = 0) : trackR ps ∧ sysR b d v ∧ (0 ≤ post ∧ post ≤ ps.length) ∧ (0 ≤ sq ∧ sq ≤ 20000000000) ∧ (0 ≤ stop ∧ stop < ps.length ∧ (ps.getD stop.toNat default).leave = true) ∧ post ≤ stop := by
  obtain ⟨h1, h2, h3⟩ := ride_right h
  obtain ⟨h4, h5⟩ := firstE_cons h3
  obtain ⟨h6, h7⟩ := firstE_cons h5
  obtain ⟨h8, h9⟩ := firstE_cons h4
  have a1 := unlessE_zero h8 (by decide)
  have a2 := unlessE_zero (firstE_cons h9).1 (by decide)
  have a3 := unlessE_zero (firstE_cons h7).1 (by decide)
  simp only [withinB, Bool.and_eq_true, decide_eq_true_eq] at a1 a2 a3
  exact ⟨h1, h2, a1, a2, stop_right h6, a3⟩
section
variable (nm : ByteArray) (ps : List Piece) (hs : nm.size ≤ 1000000000) (hp : ps.length ≤ 1000000000) (b d v post sq stop : Int)
include hs hp
set_option maxRecDepth 100000 in
set_option maxHeartbeats 1000000 in
theorem openRun_ok : FnOk Tryd.prog 61 [trA nm ps, syA b d v, .agg [iA post, iA sq], iA stop] (fun q => q = .tuple [riA nm ps b d v, iA (runE nm ps b d v post sq stop)]) := by
  refine fnOk_of (fn := Tryd.f61) 33 (by kernel_rfl) rfl (by kernel_rfl) (Nat.le_of_ble_eq_true rfl) ?_
  intro e_0 m_0 hA hm_0
  have s0_0 : evA e_0 (.tmp 0) = _ := hA 0 _ rfl
  have s1_0 : evA e_0 (.tmp 1) = _ := hA 1 _ rfl
  have s2_0 : evA e_0 (.tmp 2) = _ := hA 2 _ rfl
  have s3_0 : evA e_0 (.tmp 3) = _ := hA 3 _ rfl
  have ml_0 : m_0.length = 0 := by rw [hm_0]; rfl
  clear hA hm_0
  refine aw_seq <| at_ <| al_stm (st_box s0_0 rfl ml_0) trivial rfl (fun m_1 hm_1 => ?_)
  have mo0_1 := m_push hm_1 ml_0
  have ml_1 := m_push_l hm_1 ml_0
  have ml_1 : _ = 1 := ml_1
  clear hm_1
  refine al_stm (st_box (up_m rfl s1_0) rfl ml_1) trivial rfl (fun m_2 hm_2 => ?_)
  have mo1_2 := m_push hm_2 ml_1
  have mo0_2 := m_push_o hm_2 mo0_1
  have ml_2 := m_push_l hm_2 ml_1
  have ml_2 : _ = 2 := ml_2
  clear hm_2 mo0_1
  refine al_stm (st_box (u2 rfl s2_0) rfl ml_2) trivial rfl (fun m_3 hm_3 => ?_)
  have mo2_3 := m_push hm_3 ml_2
  have mo1_3 := m_push_o hm_3 mo1_2
  have mo0_3 := m_push_o hm_3 mo0_2
  have ml_3 := m_push_l hm_3 ml_2
  have ml_3 : _ = 3 := ml_3
  clear hm_3 mo1_2 mo0_2
  refine al_stm (st_alloc qaz117 rfl ml_3) trivial rfl (fun m_4 hm_4 => ?_)
  have mo3_4 := m_push hm_4 ml_3
  simp only [pS, Value.cells, Nat.reduceAdd] at mo3_4
  have mo2_4 := m_push_o hm_4 mo2_3
  have mo1_4 := m_push_o hm_4 mo1_3
  have mo0_4 := m_push_o hm_4 mo0_3
  have ml_4 := m_push_l hm_4 ml_3
  have ml_4 : _ = 4 := ml_4
  clear hm_4 mo2_3 mo1_3 mo0_3
  refine ar (ro_assign ev_c) rfl <| ae5 (up_m rfl (u4 rfl s3_0)) (u4 rfl up_h) (up_m rfl (u2 rfl up_h)) (u2 rfl up_h) (up_m rfl up_h) ?_; clear s0_0 s1_0 s2_0 s3_0; intro e_5 s3_5 s4_5 s5_5 s6_5 s8_5
  refine then_n <| aw_seq <| at_ <| ar (ro_eq (ro_ld_ptr k8_ty35 rfl mo0_4 s4_5 (nle rfl)) (by simp only [pS, Value.cells, Nat.reduceAdd] <;> rfl)) rfl ?_
  refine ar (ro_eq (ro_ld_ptr k8_ty80 rfl mo1_4 (up_m rfl s5_5) (nle rfl)) (by simp only [pS, Value.cells, Nat.reduceAdd] <;> rfl)) rfl ?_
  refine ar (ro_call (evL_cons (up_m rfl up_h) (evL_cons up_h evL_nil)) rfl (openRide_ok nm ps hs hp b d v) qhcf57) rfl <| ar (ro_move up_h) rfl <| ar (ro_extract up_h rfl) rfl <| ar (ro_extract (up_m rfl up_h) rfl) rfl <| al_stm (st_alloc qaz117 rfl ml_4) trivial rfl (fun m_6 hm_6 => ?_)
  have mo4_6 := m_push hm_6 ml_4
  simp only [pS, Value.cells, Nat.reduceAdd] at mo4_6
  have mo3_6 := m_push_o hm_6 mo3_4
  have mo2_6 := m_push_o hm_6 mo2_4
  have mo1_6 := m_push_o hm_6 mo1_4
  have mo0_6 := m_push_o hm_6 mo0_4
  have ml_6 := m_push_l hm_6 ml_4
  have ml_6 : _ = 5 := ml_6
  clear hm_6 mo3_4 mo2_4 mo1_4 mo0_4
  refine al_stm (st_store up_h (u2 rfl up_h) rfl rfl mo4_6 qsz117 rfl (nle rfl)) trivial rfl (fun m_7 hm_7 => ?_)
  have mo4_7 := m_set hm_7 mo4_6
  simp only [pS, Value.cells, Nat.reduceAdd] at mo4_7
  have mo3_7 := m_set_o hm_7 mo3_6 (by decide)
  have mo2_7 := m_set_o hm_7 mo2_6 (by decide)
  have mo1_7 := m_set_o hm_7 mo1_6 (by decide)
  have mo0_7 := m_set_o hm_7 mo0_6 (by decide)
  have ml_7 := m_set_l hm_7 ml_6
  clear hm_7 mo4_6 mo3_6 mo2_6 mo1_6 mo0_6
  refine ar (ro_assign (up_n (up_m rfl up_h))) rfl <| ae5 (up_m rfl (up_n (up_m rfl (u2 rfl (u4 rfl s3_5))))) (up_m rfl (up_n (up_m rfl (u2 rfl (u4 rfl s6_5))))) (up_m rfl (up_n (up_m rfl (u2 rfl (u4 rfl s8_5))))) (up_m rfl (up_n up_h)) up_h ?_; clear s3_5 s4_5 s5_5 s6_5 s8_5; intro e_8 s3_8 s6_8 s8_8 s10_8 s11_8
  refine then_n <| aw_seq <| aw_draw 15 (by kernel_rfl) (by kernel_rfl) (by kernel_rfl) (by kernel_rfl) ?_
  refine dr (ro_eq (ro_ld_ptr k8_ty117 rfl mo4_7 s10_8 (nle rfl)) (by simp only [pS, Value.cells, Nat.reduceAdd] <;> rfl)) rfl ?_
  refine dr (ro_move (up_m rfl s11_8)) rfl <| dr (ro_eq (ro_ld_ptr k8_ty117 rfl mo4_7 (u2 rfl s10_8) (nle rfl)) (by simp only [pS, Value.cells, Nat.reduceAdd] <;> rfl)) rfl ?_
  refine dr (ro_eq (ro_ld_ptr k8_ty37 rfl mo2_7 (up_m rfl (u2 rfl s6_8)) (nle rfl)) (by simp only [pS, Value.cells, Nat.reduceAdd] <;> rfl)) rfl ?_
  refine dr (ro_call (evL_cons (up_m rfl up_h) (evL_cons up_h evL_nil)) rfl (stateErr_ok nm ps hp b d v post sq) qhcf63) rfl <| dr (ro_eq (ro_ld_ptr k8_ty117 rfl mo4_7 (up_m rfl (u4 rfl s10_8)) (nle rfl)) (by simp only [pS, Value.cells, Nat.reduceAdd] <;> rfl)) rfl ?_
  refine dr (ro_move (u2 rfl (u4 rfl s3_8))) rfl <| dr (ro_call (evL_cons (up_m rfl up_h) (evL_cons up_h evL_nil)) rfl (stopErr_ok nm ps hp b d v stop) qhcf59) rfl <| dr (ro_fld_ptr qfl37_0 rfl (u8 rfl s6_8)) rfl <| dr (ro_eq (ro_ld_ptr k8_ty3 rfl mo2_7 up_h (nle rfl)) (by simp only [pS, Value.cells, Nat.reduceAdd] <;> rfl)) rfl ?_
  refine dr (ro_move (u2 rfl (u8 rfl s3_8))) rfl <| dr (ro_leq (up_m rfl up_h) up_h) rfl <| dr (ro_call (evL_cons up_h (evL_cons ev_c evL_nil)) rfl (unless_ok _ _) qhcf66) rfl <| dr (ro_lit k8_sl109 (evP_cons (up_m rfl (u2 rfl (u8 rfl up_h))) (evP_cons (u8 rfl up_h) (evP_cons (up_m rfl (u4 rfl up_h)) (evP_cons up_h evP_nil)))) rfl rfl rfl rfl) rfl <| dr (ro_call (evL_cons up_h evL_nil) rfl (first_ok [_, _, _, _] (by simp)) qhcf58) rfl ?_
  refine ds_nil <| al_stm (st_store (up_m rfl (u2 rfl (u4 rfl (u8 rfl s8_8)))) (u2 rfl (u4 rfl (u8 rfl up_h))) rfl rfl mo3_7 qsz117 rfl (nle rfl)) trivial rfl (fun m_9 hm_9 => ?_)
  have mo3_9 := m_set hm_9 mo3_7
  simp only [pS, Value.cells, Nat.reduceAdd] at mo3_9
  have mo4_9 := m_set_o hm_9 mo4_7 (by decide)
  have mo2_9 := m_set_o hm_9 mo2_7 (by decide)
  have mo1_9 := m_set_o hm_9 mo1_7 (by decide)
  have mo0_9 := m_set_o hm_9 mo0_7 (by decide)
  have ml_9 := m_set_l hm_9 ml_7
  clear hm_9 mo4_7 mo3_7 mo2_7 mo1_7 mo0_7
  refine ar (ro_assign (up_n up_h)) rfl <| ae2 (up_m rfl (up_n (up_m rfl (u2 rfl (u4 rfl (u8 rfl s8_8)))))) up_h ?_; clear s10_8 s11_8 s3_8 s6_8 s8_8; intro e_10 s8_10 s9_10
  refine then_n <| aw_ret <| ret2 (.inr rfl) (by kernel_rfl) (resV_cell s8_10 mo3_9 k8_ty117 (nle rfl) (by simp)) (resV_tmp s9_10) (vw_r (.ro _ rfl)) (.ro _ rfl) ?_
  clear s8_10 s9_10 mo3_9 mo4_9 mo2_9 mo1_9 mo0_9 ml_9
  rfl
set_option maxRecDepth 100000 in
set_option maxHeartbeats 1000000 in
theorem runTo_ok : FnOk Tryd.prog 37 [trA nm ps, syA b d v, .agg [iA post, iA sq], iA stop] (fun q => q = .tuple [.row 1 ((if runE nm ps b d v post sq stop = 0 then (runW ps b d stop post sq).1 else []).map iE), iA (if runE nm ps b d v post sq stop = 0 then (runW ps b d stop post sq).2 else runE nm ps b d v post sq stop)]) := by
  refine fnOk_of (fn := Tryd.f37) 29 (by kernel_rfl) rfl (by kernel_rfl) (Nat.le_of_ble_eq_true rfl) ?_
  intro e_0 m_0 hA hm_0
  have s0_0 : evA e_0 (.tmp 0) = _ := hA 0 _ rfl
  have s1_0 : evA e_0 (.tmp 1) = _ := hA 1 _ rfl
  have s2_0 : evA e_0 (.tmp 2) = _ := hA 2 _ rfl
  have s3_0 : evA e_0 (.tmp 3) = _ := hA 3 _ rfl
  have ml_0 : m_0.length = 0 := by rw [hm_0]; rfl
  clear hA hm_0
  refine aw_seq <| at_ <| al_stm (st_box s0_0 rfl ml_0) trivial rfl (fun m_1 hm_1 => ?_)
  have mo0_1 := m_push hm_1 ml_0
  have ml_1 := m_push_l hm_1 ml_0
  have ml_1 : _ = 1 := ml_1
  clear hm_1
  refine al_stm (st_box (up_m rfl s1_0) rfl ml_1) trivial rfl (fun m_2 hm_2 => ?_)
  have mo1_2 := m_push hm_2 ml_1
  have mo0_2 := m_push_o hm_2 mo0_1
  have ml_2 := m_push_l hm_2 ml_1
  have ml_2 : _ = 2 := ml_2
  clear hm_2 mo0_1
  refine al_stm (st_box (u2 rfl s2_0) rfl ml_2) trivial rfl (fun m_3 hm_3 => ?_)
  have mo2_3 := m_push hm_3 ml_2
  have mo1_3 := m_push_o hm_3 mo1_2
  have mo0_3 := m_push_o hm_3 mo0_2
  have ml_3 := m_push_l hm_3 ml_2
  have ml_3 : _ = 3 := ml_3
  clear hm_3 mo1_2 mo0_2
  refine ar (ro_assign ev_c) rfl <| ar (ro_assign ev_c) rfl <| ae4 (up_m rfl (u4 rfl s3_0)) (u4 rfl up_h) (up_m rfl (u2 rfl up_h)) (u2 rfl up_h) ?_; clear s0_0 s1_0 s2_0 s3_0; intro e_4 s3_4 s4_4 s5_4 s6_4
  refine then_n <| aw_seq <| at_ <| ar (ro_eq (ro_ld_ptr k8_ty35 rfl mo0_3 s4_4 (nle rfl)) (by simp only [pS, Value.cells, Nat.reduceAdd] <;> rfl)) rfl ?_
  refine ar (ro_eq (ro_ld_ptr k8_ty80 rfl mo1_3 (up_m rfl s5_4) (nle rfl)) (by simp only [pS, Value.cells, Nat.reduceAdd] <;> rfl)) rfl ?_
  refine ar (ro_eq (ro_ld_ptr k8_ty37 rfl mo2_3 (u2 rfl s6_4) (nle rfl)) (by simp only [pS, Value.cells, Nat.reduceAdd] <;> rfl)) rfl ?_
  refine ar (ro_move (up_m rfl (u2 rfl s3_4))) rfl <| ar (ro_call (evL_cons (up_m rfl (u2 rfl up_h)) (evL_cons (u2 rfl up_h) (evL_cons (up_m rfl up_h) (evL_cons up_h evL_nil)))) rfl (openRun_ok nm ps hs hp b d v post sq stop) k8_hcf61) rfl <| ar (ro_move up_h) rfl <| ar (ro_extract up_h rfl) rfl <| ar (ro_extract (up_m rfl up_h) rfl) rfl <| al_stm (st_alloc qaz117 rfl ml_3) trivial rfl (fun m_5 hm_5 => ?_)
  have mo3_5 := m_push hm_5 ml_3
  simp only [pS, Value.cells, Nat.reduceAdd] at mo3_5
  have mo2_5 := m_push_o hm_5 mo2_3
  have mo1_5 := m_push_o hm_5 mo1_3
  have mo0_5 := m_push_o hm_5 mo0_3
  have ml_5 := m_push_l hm_5 ml_3
  have ml_5 : _ = 4 := ml_5
  clear hm_5 mo2_3 mo1_3 mo0_3
  refine al_stm (st_store up_h (u2 rfl up_h) rfl rfl mo3_5 qsz117 rfl (nle rfl)) trivial rfl (fun m_6 hm_6 => ?_)
  have mo3_6 := m_set hm_6 mo3_5
  simp only [pS, Value.cells, Nat.reduceAdd] at mo3_6
  have mo2_6 := m_set_o hm_6 mo2_5 (by decide)
  have mo1_6 := m_set_o hm_6 mo1_5 (by decide)
  have mo0_6 := m_set_o hm_6 mo0_5 (by decide)
  have ml_6 := m_set_l hm_6 ml_5
  clear hm_6 mo3_5 mo2_5 mo1_5 mo0_5
  refine ar (ro_assign (up_n (up_m rfl up_h))) rfl <| ae4 (up_m rfl (up_n (up_m rfl (u8 rfl s3_4)))) (up_m rfl (up_n (up_m rfl (u8 rfl s6_4)))) (up_m rfl (up_n up_h)) up_h ?_; clear s3_4 s4_4 s5_4 s6_4; intro e_7 s3_7 s6_7 s10_7 s11_7
  refine then_n <| aw_seq <| aw_seq <| at_ <| ar (ro_move s11_7) rfl <| ar (ro_neq up_h ev_c) rfl <| ae5 (u2 rfl s3_7) (u2 rfl s6_7) (u2 rfl s10_7) (u2 rfl s11_7) up_h ?_; clear s10_7 s11_7 s3_7 s6_7; intro e_8 s3_8 s6_8 s10_8 s11_8 s21_8
  refine then_n <| aw_case s21_8 (fun hq_9 => ?_) (fun hq_9 => ?_)
  ·replace hq_9 := bnt hq_9
   refine aw_seq <| at_ <| ar (ro_move s11_8) rfl <| ar (ro_assign ev_c) rfl <| ar (ro_assign (up_m rfl up_h)) rfl <| ae2 (up_m rfl up_h) up_h ?_; clear s10_8 s11_8 s21_8 s3_8 s6_8; intro e_10 s8_10 s9_10
   refine then_n <| aw_ret <| then_r <| ret2 (.inr rfl) (by kernel_rfl) (resV_tmp s8_10) (resV_tmp s9_10) (.nil 1) (.ro _ rfl) ?_
   clear s8_10 s9_10 mo3_6 mo2_6 mo1_6 mo0_6 ml_6
   (have hq : ¬ runE nm ps b d v post sq stop = 0 := (by assumption); rw [if_neg hq, if_neg hq]; rfl)
  replace hq_9 := bnf hq_9
  (have hq : runE nm ps b d v post sq stop = 0 := (by assumption); have hR := runE_right hq)
  refine aw_skip <| then_n <| aw_seq <| at_ <| ar (ro_eq (ro_ld_ptr k8_ty117 rfl mo3_6 s10_8 (nle rfl)) (by simp only [pS, Value.cells, Nat.reduceAdd] <;> rfl)) rfl ?_
  refine ar (ro_eq (ro_ld_ptr k8_ty37 rfl mo2_6 (up_m rfl s6_8) (nle rfl)) (by simp only [pS, Value.cells, Nat.reduceAdd] <;> rfl)) rfl ?_
  refine ar (ro_move (u2 rfl s3_8)) rfl <| ar (ro_call (evL_cons (u2 rfl up_h) (evL_cons (up_m rfl up_h) (evL_cons up_h evL_nil))) rfl (run_ok nm ps hR.1 b d v hR.2.1 post sq stop hR.2.2.1.1 hR.2.2.2.2.2 hR.2.2.2.2.1.2.1 hR.2.2.2.1) k8_hcf62) rfl <| ar (ro_extract up_h rfl) rfl <| ar (ro_extract (up_m rfl up_h) rfl) rfl <| ar (ro_assign (up_m rfl up_h)) rfl <| ar (ro_assign (up_m rfl up_h)) rfl <| ae2 (up_m rfl up_h) up_h ?_; clear s10_8 s11_8 s21_8 s3_8 s6_8; intro e_11 s8_11 s9_11
  refine then_n <| aw_ret <| ret2 (.inr rfl) (by kernel_rfl) (resV_tmp s8_11) (resV_tmp s9_11) (.ro _ rfl) (.ro _ rfl) ?_
  clear s8_11 s9_11 mo3_6 mo2_6 mo1_6 mo0_6 ml_6
  (rw [if_pos hq, if_pos hq])
end
end Go.Proofs.YtfmjmngkgmlghaaDoor

/- Contracts of chapter 5: the fastest squares, where a train stands. No conditions on a program. -/
namespace Go.Proofs.YtfmjmngkgmlghaaDoor
open Go Go.RowKit Go.Proofs
set_option linter.unusedSimpArgs false
set_option linter.unusedVariables false
theorem k9_ar88 : ArIs Tryd.prog 88 2 1 := ⟨by kernel_rfl, by kernel_rfl⟩
theorem k9_hcf71 : ∀ args w, (callFunc 71 args).run Tryd.prog w = .ok (.enter 71 args) w := fun _ _ => by kernel_rfl
theorem k9_sl109 : SlIs Tryd.prog 109 26 1 8 (.int .i64 0) := ⟨by kernel_rfl, by kernel_rfl, by kernel_rfl⟩
theorem k9_sl33 : SlIs Tryd.prog 33 123 4 32 (.agg #[.int .i64 0, .int .i64 0, .int .i64 0, .bool false]) := ⟨by kernel_rfl, by kernel_rfl, by kernel_rfl⟩
theorem k9_sl50 : SlIs Tryd.prog 50 3 1 8 (.int .i64 0) := ⟨by kernel_rfl, by kernel_rfl, by kernel_rfl⟩
theorem k9_ty115 : TyIs Tryd.prog 115 true 2 := ⟨by kernel_rfl, by kernel_rfl⟩
theorem k9_ty117 : TyIs Tryd.prog 117 true 5 := ⟨by kernel_rfl, by kernel_rfl⟩
theorem k9_ty3 : TyIs Tryd.prog 3 false 1 := ⟨by kernel_rfl, by kernel_rfl⟩
theorem k9_ty33 : TyIs Tryd.prog 33 false 1 := ⟨by kernel_rfl, by kernel_rfl⟩
theorem k9_ty35 : TyIs Tryd.prog 35 true 2 := ⟨by kernel_rfl, by kernel_rfl⟩
theorem k9_ty80 : TyIs Tryd.prog 80 true 3 := ⟨by kernel_rfl, by kernel_rfl⟩

def fasM (ps : List Piece) (b e1 : Int) : List Int := bwL ps b (min e1 ((liW ps (ps.length + 1)).getD ps.length default)) ps.length
def fasF (ps : List Piece) (b v e1 : Int) (k : Nat) (x : Int) : Int := min ((fasM ps b e1).getD (k + 1) default) (x + -losW (-v) (ps.getD k default))
def fasW (ps : List Piece) (b v e0 e1 : Int) : List Int × Int :=
  if (fasM ps b e1).getD 0 default < e0 then ([], 12) else
  match goL (fasF ps b v e1) e0 ps.length with
  | none => ([], 12)
  | some l => (l, 0)
def fasE (nm : ByteArray) (ps : List Piece) (b d v e0 e1 : Int) : Int := firstE [firstE [(chk nm ps).2, sysE b d v], unlessE (withinB e0 0 20000000000 && withinB e1 0 20000000000) 2]
theorem fasE_right {nm : ByteArray} {ps : List Piece} {b d v e0 e1 : Int} (h : fasE nm ps b d v e0 e1 = 0) : trackR ps ∧ sysR b d v ∧ (0 ≤ e0 ∧ e0 ≤ 20000000000) ∧ (0 ≤ e1 ∧ e1 ≤ 20000000000) := by
  obtain ⟨h1, h2, h3⟩ := ride_right h
  have a1 := unlessE_zero (firstE_cons h3).1 (by decide)
  simp only [withinB, Bool.and_eq_true, decide_eq_true_eq] at a1
  exact ⟨h1, h2, a1.1, a1.2⟩
section
variable (nm : ByteArray) (ps : List Piece) (hs : nm.size ≤ 1000000000) (hp : ps.length ≤ 1000000000) (b d v : Int)
include hs hp
set_option maxRecDepth 100000 in
set_option maxHeartbeats 4000000 in
theorem fastest_ok (e0 e1 : Int) : FnOk Tryd.prog 39 [trA nm ps, syA b d v, .agg [iA e0, iA e1]] (fun q => q = .tuple [.row 1 ((if fasE nm ps b d v e0 e1 = 0 then (fasW ps b v e0 e1).1 else []).map iE), iA (if fasE nm ps b d v e0 e1 = 0 then (fasW ps b v e0 e1).2 else fasE nm ps b d v e0 e1)]) := by
  refine fnOk_of (fn := Tryd.f39) 92 (by kernel_rfl) rfl (by kernel_rfl) (Nat.le_of_ble_eq_true rfl) ?_
  intro e_0 m_0 hA hm_0
  have s0_0 : evA e_0 (.tmp 0) = _ := hA 0 _ rfl
  have s1_0 : evA e_0 (.tmp 1) = _ := hA 1 _ rfl
  have s2_0 : evA e_0 (.tmp 2) = _ := hA 2 _ rfl
  have ml_0 : m_0.length = 0 := by rw [hm_0]; rfl
  clear hA hm_0
  refine aw_seq <| at_ <| al_stm (st_box s0_0 rfl ml_0) trivial rfl (fun m_1 hm_1 => ?_)
  have mo0_1 := m_push hm_1 ml_0
  have ml_1 := m_push_l hm_1 ml_0
  have ml_1 : _ = 1 := ml_1
  clear hm_1
  refine al_stm (st_box (up_m rfl s1_0) rfl ml_1) trivial rfl (fun m_2 hm_2 => ?_)
  have mo1_2 := m_push hm_2 ml_1
  have mo0_2 := m_push_o hm_2 mo0_1
  have ml_2 := m_push_l hm_2 ml_1
  have ml_2 : _ = 2 := ml_2
  clear hm_2 mo0_1
  refine al_stm (st_box (u2 rfl s2_0) rfl ml_2) trivial rfl (fun m_3 hm_3 => ?_)
  have mo2_3 := m_push hm_3 ml_2
  have mo1_3 := m_push_o hm_3 mo1_2
  have mo0_3 := m_push_o hm_3 mo0_2
  have ml_3 := m_push_l hm_3 ml_2
  have ml_3 : _ = 3 := ml_3
  clear hm_3 mo1_2 mo0_2
  refine ar (ro_assign ev_c) rfl <| ar (ro_assign ev_c) rfl <| ae3 (u4 rfl up_h) (up_m rfl (u2 rfl up_h)) (u2 rfl up_h) ?_; clear s0_0 s1_0 s2_0; intro e_4 s3_4 s4_4 s5_4
  refine then_n <| aw_seq <| at_ <| ar (ro_eq (ro_ld_ptr k9_ty35 rfl mo0_3 s3_4 (nle rfl)) (by simp only [pS, Value.cells, Nat.reduceAdd, one_iE, app_m] <;> rfl)) rfl ?_
  refine ar (ro_eq (ro_ld_ptr k9_ty80 rfl mo1_3 (up_m rfl s4_4) (nle rfl)) (by simp only [pS, Value.cells, Nat.reduceAdd, one_iE, app_m] <;> rfl)) rfl ?_
  refine ar (ro_call (evL_cons (up_m rfl up_h) (evL_cons up_h evL_nil)) rfl (openRide_ok nm ps hs hp b d v) qhcf57) rfl <| ar (ro_move up_h) rfl <| ar (ro_extract up_h rfl) rfl <| ar (ro_extract (up_m rfl up_h) rfl) rfl <| al_stm (st_alloc qaz117 rfl ml_3) trivial rfl (fun m_5 hm_5 => ?_)
  have mo3_5 := m_push hm_5 ml_3
  simp only [pS, Value.cells, Nat.reduceAdd, one_iE, app_m] at mo3_5
  have mo2_5 := m_push_o hm_5 mo2_3
  have mo1_5 := m_push_o hm_5 mo1_3
  have mo0_5 := m_push_o hm_5 mo0_3
  have ml_5 := m_push_l hm_5 ml_3
  have ml_5 : _ = 4 := ml_5
  clear hm_5 mo2_3 mo1_3 mo0_3
  refine al_stm (st_store up_h (u2 rfl up_h) rfl rfl mo3_5 qsz117 rfl (nle rfl)) trivial rfl (fun m_6 hm_6 => ?_)
  have mo3_6 := m_set hm_6 mo3_5
  simp only [pS, Value.cells, Nat.reduceAdd, one_iE, app_m] at mo3_6
  have mo2_6 := m_set_o hm_6 mo2_5 (by decide)
  have mo1_6 := m_set_o hm_6 mo1_5 (by decide)
  have mo0_6 := m_set_o hm_6 mo0_5 (by decide)
  have ml_6 := m_set_l hm_6 ml_5
  clear hm_6 mo3_5 mo2_5 mo1_5 mo0_5
  refine ar (ro_assign (up_n (up_m rfl up_h))) rfl <| ae3 (up_m rfl (up_n (up_m rfl (u2 rfl (u4 rfl s5_4))))) (up_m rfl (up_n up_h)) up_h ?_; clear s3_4 s4_4 s5_4; intro e_7 s5_7 s8_7 s9_7
  refine then_n <| aw_seq <| aw_seq <| aw_cut (fun e mem => (evA e (.tmp 9) = .v (.int .i64 (fasE nm ps b d v e0 e1))) ∧ (evA e (.tmp 5) = evA e_7 (.tmp 5)) ∧ (evA e (.tmp 8) = evA e_7 (.tmp 8)) ∧ m_6 = mem) ?_ ?_
  ·
    refine at_ <| ar (ro_move s9_7) rfl <| ar (ro_ixa k9_ar88 (up_m rfl s5_7) ev_c rfl) rfl <| ar (ro_eq (ro_ld_ptr k9_ty3 rfl mo2_6 up_h (nle rfl)) (by simp only [pS, Value.cells, Nat.reduceAdd, one_iE, app_m] <;> rfl)) rfl ?_
    refine ar (ro_call (evL_cons up_h evL_nil) rfl (isSquare_ok _) qhcf67) rfl <| ar (ro_move up_h) rfl <| al_case up_h (fun hb_9 hq_9 => ?_) (fun hb_9 hq_9 => ?_)
    ·skip
     refine al_ro' (ro_ixa k9_ar88 (up_m rfl (u4 rfl s5_7)) ev_c rfl) ⟨_, rfl, hb_9⟩ rfl ?_
     refine al_ro' (ro_eq (ro_ld_ptr k9_ty3 rfl mo2_6 up_h (nle rfl)) (by simp only [pS, Value.cells, Nat.reduceAdd, one_iE, app_m] <;> rfl)) ⟨_, rfl, (up_m rfl hb_9)⟩ rfl ?_
     refine al_ro' (ro_call (evL_cons up_h evL_nil) rfl (isSquare_ok _) qhcf67) ⟨_, rfl, (u2 rfl hb_9)⟩ rfl ?_
     refine ar (ro_pickT (up_m rfl (u2 rfl hb_9)) up_h) rfl <| ar (ro_call (evL_cons up_h (evL_cons ev_c evL_nil)) rfl (unless_ok _ _) qhcf66) rfl <| ar (ro_lit k9_sl109 (evP_cons (up_m rfl (u8 rfl up_h)) (evP_cons up_h evP_nil)) rfl rfl rfl rfl) rfl <| ar (ro_call (evL_cons up_h evL_nil) rfl (first_ok [_, _] (by simp)) qhcf58) rfl ?_
     refine ar (ro_assign up_h) rfl <| ae3 (up_m rfl (u4 rfl (u8 rfl s5_7))) (up_m rfl (u4 rfl (u8 rfl s8_7))) up_h ?_; intro e_10 s5_10 s8_10 s9_10
     refine then_n ⟨(s9_10).trans (by (simp_all [fasE, unlessE])), (s5_10).trans (s5_7).symm, (s8_10).trans (s8_7).symm, rfl⟩
    refine al_skip' ⟨_, rfl, .inl hb_9⟩ rfl ?_
    refine al_skip' ⟨_, rfl, .inl (up_m rfl hb_9)⟩ rfl ?_
    refine al_skip' ⟨_, rfl, .inl (u2 rfl hb_9)⟩ rfl ?_
    refine ar (ro_pickF (up_m rfl (u2 rfl hb_9)) ev_c) rfl <| ar (ro_call (evL_cons up_h (evL_cons ev_c evL_nil)) rfl (unless_ok _ _) qhcf66) rfl <| ar (ro_lit k9_sl109 (evP_cons (up_m rfl (u8 rfl up_h)) (evP_cons up_h evP_nil)) rfl rfl rfl rfl) rfl <| ar (ro_call (evL_cons up_h evL_nil) rfl (first_ok [_, _] (by simp)) qhcf58) rfl ?_
    refine ar (ro_assign up_h) rfl <| ae3 (up_m rfl (u4 rfl (u8 rfl s5_7))) (up_m rfl (u4 rfl (u8 rfl s8_7))) up_h ?_; intro e_11 s5_11 s8_11 s9_11
    refine then_n ⟨(s9_11).trans (by (simp_all [fasE, unlessE])), (s5_11).trans (s5_7).symm, (s8_11).trans (s8_7).symm, rfl⟩
  · rintro e_8 _ ⟨s9_8, k5_8, k8_8, rfl⟩
    have s5_8 := k5_8.trans s5_7
    have s8_8 := k8_8.trans s8_7
    refine aw_seq <| at_ <| ar (ro_move s9_8) rfl <| ar (ro_neq up_h ev_c) rfl <| ae4 (u2 rfl s5_8) (u2 rfl s8_8) (u2 rfl s9_8) up_h ?_; clear s5_8 s8_8 s9_8; intro e_12 s5_12 s8_12 s9_12 s34_12
    refine then_n <| aw_case s34_12 (fun hq_13 => ?_) (fun hq_13 => ?_)
    ·replace hq_13 := bnt hq_13
     refine aw_seq <| at_ <| ar (ro_move s9_12) rfl <| ar (ro_assign ev_c) rfl <| ar (ro_assign (up_m rfl up_h)) rfl <| ae2 (up_m rfl up_h) up_h ?_; clear s34_12 s5_12 s8_12 s9_12; intro e_14 s6_14 s7_14
     refine then_n <| aw_ret <| then_r <| ret2 (.inr rfl) (by kernel_rfl) (resV_tmp s6_14) (resV_tmp s7_14) (.nil 1) (.ro _ rfl) ?_
     clear s6_14 s7_14 mo3_6 mo2_6 mo1_6 mo0_6 ml_6
     (have hq : ¬ fasE nm ps b d v e0 e1 = 0 := (by assumption); rw [if_neg hq, if_neg hq]; rfl)
    replace hq_13 := bnf hq_13
    (have hq : fasE nm ps b d v e0 e1 = 0 := (by assumption); have hR := fasE_right hq; have hlen := hR.1.2; have hsy := hR.2.1; unfold sysR at hsy; have he0 := hR.2.2.1; have he1 := hR.2.2.2; have hll := liW_len ps (ps.length + 1); have hlv : 0 ≤ (liW ps (ps.length + 1)).getD ps.length default ∧ (liW ps (ps.length + 1)).getD ps.length default ≤ 20000000000 := (by rw [liW_at ps (by omega)]; exact limW_bound hR.1.1 _); have hlv' : 0 ≤ (liW ps (ps.length + 1)).getD (ps.length : Int).toNat default ∧ (liW ps (ps.length + 1)).getD (ps.length : Int).toNat default ≤ 20000000000 := hlv; have hml : ∀ x, (bwL ps b x (ps.length : Int).toNat).length = ps.length + 1 := (fun x => bwL_len ps b x _); have hml0 := hml (min e1 ((liW ps (ps.length + 1)).getD ps.length default)))
    refine aw_skip <| then_n <| aw_seq <| at_ <| ar (ro_fld_ptr qfl117_0 rfl s8_12) rfl <| ar (ro_eq (ro_ld_ptr k9_ty115 rfl mo3_6 up_h (nle rfl)) (by simp only [pS, Value.cells, Nat.reduceAdd, one_iE, app_m] <;> rfl)) rfl ?_
    refine ar (ro_call (evL_cons up_h evL_nil) rfl (limits_ok nm ps hR.1.1 hR.1.2.1 (by omega)) qhcf68) rfl ?_
    refine ar (ro_assign up_h) rfl <| ae3 (u4 rfl s5_12) (u4 rfl s8_12) up_h ?_; clear s34_12 s5_12 s8_12 s9_12; intro e_15 s5_15 s8_15 s10_15
    refine then_n <| aw_seq <| aw_draw 15 (by kernel_rfl) (by kernel_rfl) (by kernel_rfl) (by kernel_rfl) ?_
    refine dr (ro_eq (ro_ld_ptr k9_ty117 rfl mo3_6 s8_15 (nle rfl)) (by simp only [pS, Value.cells, Nat.reduceAdd, one_iE, app_m] <;> rfl)) rfl ?_
    refine dr (ro_ixa k9_ar88 (up_m rfl s5_15) ev_c rfl) rfl <| dr (ro_eq (ro_ld_ptr k9_ty3 rfl mo2_6 up_h (nle rfl)) (by simp only [pS, Value.cells, Nat.reduceAdd, one_iE, app_m] <;> rfl)) rfl ?_
    refine dr (ro_move (up_m rfl (u2 rfl s10_15))) rfl <| dr (ro_fld_ptr qfl117_0 rfl (u4 rfl s8_15)) rfl <| dr (ro_eq (ro_ld_ptr k9_ty115 rfl mo3_6 up_h (nle rfl)) (by simp only [pS, Value.cells, Nat.reduceAdd, one_iE, app_m] <;> rfl)) rfl ?_
    refine dr (ro_call (evL_cons up_h evL_nil) rfl (last_ok nm ps) qhcf70) rfl <| dr (ro_eq (ro_ix k9_sl50 (up_m rfl (u2 rfl up_h)) up_h (by omega) (by first | (refine idx_map ?_; first | omega | (simp only [lnS]; omega)) | (refine idx_mapI ?_; first | omega | (simp only [lnS]; omega)) | (refine idx_mapN ?_; first | omega | (simp only [lnS]; omega)) | rfl)) (by simp only [pS, Value.cells, Nat.reduceAdd, one_iE, app_m] <;> rfl)) rfl ?_
    refine dr (ro_eq (ro_ld_ref k9_ty3 rfl up_h (nle rfl)) (by simp only [pS, Value.cells, Nat.reduceAdd, one_iE, app_m] <;> rfl)) rfl ?_
    refine dr (ro_min (u2 rfl (u4 rfl up_h)) up_h) rfl <| dr (ro_fld_ptr qfl117_0 rfl (u2 rfl (u8 rfl s8_15))) rfl <| dr (ro_eq (ro_ld_ptr k9_ty115 rfl mo3_6 up_h (nle rfl)) (by simp only [pS, Value.cells, Nat.reduceAdd, one_iE, app_m] <;> rfl)) rfl ?_
    refine dr (ro_call (evL_cons up_h evL_nil) rfl (last_ok nm ps) qhcf70) rfl <| dr (ro_call (evL_cons (u4 rfl (u8 rfl up_h)) (evL_cons (up_m rfl (u2 rfl up_h)) (evL_cons up_h evL_nil))) rfl (backward_ok nm ps hR.1.1 hR.1.2.1 (by omega) b d v _ _ (by omega) (by omega) (by omega) (by omega)) qhcf69) rfl ?_
    refine dr (ro_assign up_h) rfl <| ds_nil <| ae3 (up_m rfl (u2 rfl (u4 rfl (u8 rfl s5_15)))) (up_m rfl (u2 rfl (u4 rfl (u8 rfl s8_15)))) up_h ?_; clear s10_15 s5_15 s8_15; intro e_16 s5_16 s8_16 s11_16
    refine then_n <| aw_seq <| aw_seq <| aw_draw 6 (by kernel_rfl) (by kernel_rfl) (by kernel_rfl) (by kernel_rfl) ?_
    refine dr (ro_ixa k9_ar88 s5_16 ev_c rfl) rfl <| dr (ro_eq (ro_ld_ptr k9_ty3 rfl mo2_6 up_h (nle rfl)) (by simp only [pS, Value.cells, Nat.reduceAdd, one_iE, app_m] <;> rfl)) rfl ?_
    refine dr (ro_move (u2 rfl s11_16)) rfl <| dr (ro_eq (ro_ix k9_sl50 up_h ev_c (by decide) (by refine idx_map ?_; first | omega | (simp only [lnS]; omega))) (by simp only [pS, Value.cells, Nat.reduceAdd, one_iE, app_m] <;> rfl)) rfl ?_
    refine dr (ro_eq (ro_ld_ref k9_ty3 rfl up_h (nle rfl)) (by simp only [pS, Value.cells, Nat.reduceAdd, one_iE, app_m] <;> rfl)) rfl ?_
    refine dr (ro_gtr (up_m rfl (u2 rfl up_h)) up_h) rfl <| ds_nil <| ae4 (u2 rfl (u4 rfl s5_16)) (u2 rfl (u4 rfl s8_16)) (u2 rfl (u4 rfl s11_16)) up_h ?_; clear s11_16 s5_16 s8_16; intro e_17 s5_17 s8_17 s11_17 s58_17
    refine then_n <| aw_case s58_17 (fun hq_18 => ?_) (fun hq_18 => ?_)
    ·replace hq_18 := bt hq_18
     refine aw_seq <| at_ <| ar (ro_assign ev_c) rfl <| ar (ro_assign ev_c) rfl <| ae2 (up_m rfl up_h) up_h ?_; clear s11_17 s58_17 s5_17 s8_17; intro e_19 s6_19 s7_19
     refine then_n <| aw_ret <| then_r <| ret2 (.inr rfl) (by kernel_rfl) (resV_tmp s6_19) (resV_tmp s7_19) (.nil 1) (.ro _ rfl) ?_
     clear s6_19 s7_19 mo3_6 mo2_6 mo1_6 mo0_6 ml_6
     (have hc : (fasM ps b e1).getD 0 default < e0 := (by assumption); rw [if_pos hq, if_pos hq, fasW, if_pos hc]; rfl)
    replace hq_18 := bf hq_18
    (have hc : ¬ (fasM ps b e1).getD 0 default < e0 := ‹_›)
    refine aw_skip <| then_n <| aw_seq <| at_ <| ar (ro_ixa k9_ar88 s5_17 ev_c rfl) rfl <| ar (ro_eq (ro_ld_ptr k9_ty3 rfl mo2_6 up_h (nle rfl)) (by simp only [pS, Value.cells, Nat.reduceAdd, one_iE, app_m] <;> rfl)) rfl ?_
    refine al_stm (st_lit k9_sl50 ml_6 (evP_cons up_h evP_nil) rfl rfl rfl rfl) trivial rfl (fun m_20 hm_20 => ?_)
    have mo4_20 := m_push hm_20 ml_6
    simp only [pS, Value.cells, Nat.reduceAdd, one_iE, app_m] at mo4_20
    have mo3_20 := m_push_o hm_20 mo3_6
    have mo2_20 := m_push_o hm_20 mo2_6
    have mo1_20 := m_push_o hm_20 mo1_6
    have mo0_20 := m_push_o hm_20 mo0_6
    have ml_20 := m_push_l hm_20 ml_6
    have ml_20 : _ = 5 := ml_20
    clear hm_20 mo3_6 mo2_6 mo1_6 mo0_6
    refine ar (ro_assign up_h) rfl <| ae3 (u4 rfl s8_17) (u4 rfl s11_17) up_h ?_; clear s11_17 s58_17 s5_17 s8_17; intro e_21 s8_21 s11_21 s12_21
    refine then_n <| aw_seq <| aw_seq <| at_ <| ar (ro_fld_ptr qfl117_0 rfl s8_21) rfl <| ar (ro_fld_ptr qfl115_0 rfl up_h) rfl <| ar (ro_fld_ptr qfl35_1 rfl up_h) rfl <| ar (ro_eq (ro_ld_ptr k9_ty33 rfl mo3_20 up_h (nle rfl)) (by simp only [pS, Value.cells, Nat.reduceAdd, one_iE, app_m] <;> rfl)) rfl ?_
    refine ar (ro_eq (ro_len_row up_h rfl k9_sl33.1) (by simp only [lnS] <;> rfl)) rfl ?_
    refine ar (ro_move ev_c) rfl <| ae5 (u2 rfl (u4 rfl s8_21)) (u2 rfl (u4 rfl s11_21)) (u2 rfl (u4 rfl s12_21)) (up_m rfl up_h) up_h ?_; clear s11_21 s12_21 s8_21; intro e_22 s8_22 s11_22 s12_22 s66_22 s67_22
    refine then_n <| aw_block <| aw_loop (S := (Int × List Int)) (fun s e mem => match s with | ⟨i, xs⟩ => (evA e (.tmp 67) = .v (.int .i64 i)) ∧ (evA e (.tmp 8) = evA e_22 (.tmp 8)) ∧ (evA e (.tmp 11) = evA e_22 (.tmp 11)) ∧ (evA e (.tmp 66) = evA e_22 (.tmp 66)) ∧ (mem[3]? = m_20[3]?) ∧ (mem[2]? = m_20[2]?) ∧ (mem[1]? = m_20[1]?) ∧ (mem[0]? = m_20[0]?) ∧ (∃ j, evA e (.tmp 12) = .own j ∧ mem[j]? = some (.row 3 1 (xs.map iE)) ∧ j ≠ 3 ∧ j ≠ 2 ∧ j ≠ 1 ∧ j ≠ 0) ∧ (∃ n, mem.length = n ∧ 5 ≤ n) ∧ ((0 ≤ i ∧ i ≤ ps.length ∧ goL (fasF ps b v e1) e0 i.toNat = some xs ∧ 0 ≤ xs.getD i.toNat default ∧ xs.getD i.toNat default ≤ 20000000000))) (fun s => match s with | ⟨i, xs⟩ => (ps.length - i).toNat) ⟨_, [e0]⟩ ⟨s67_22, rfl, rfl, rfl, rfl, rfl, rfl, rfl, ⟨_, s12_22, mo4_20, (by decide), (by decide), (by decide), (by decide)⟩, ⟨_, ml_20, Nat.le_refl _⟩, ?_⟩ ?_
    · (refine ⟨by omega, by omega, rfl, he0⟩)
    · rintro ⟨i, xs⟩ e_23 m_23 ⟨s67_23, k8_23, k11_23, k66_23, mk3_23, mk2_23, mk1_23, mk0_23, ⟨j12_23, s12_23, mo_j12_23, nj12_3_23, nj12_2_23, nj12_1_23, nj12_0_23⟩, ⟨n_23, ml_23, hn_23⟩, hinv⟩
      have s8_23 := k8_23.trans s8_22
      have s11_23 := k11_23.trans s11_22
      have s66_23 := k66_23.trans s66_22
      have mo3_23 := mk3_23.trans mo3_20
      have mo2_23 := mk2_23.trans mo2_20
      have mo1_23 := mk1_23.trans mo1_20
      have mo0_23 := mk0_23.trans mo0_20
      have jl12_23 := m_lt mo_j12_23 ml_23
      (obtain ⟨p1, p2, p3, p4, p5⟩ := hinv; have hl := goL_len p3; have hpa := hR.1.1.at i.toNat; have hlos := los_bound (dec := -v) (p := ps.getD i.toNat default) (by omega) hpa.1 hpa.2.1; have hcb := bwL_bound hR.1.1 (b := b) (sq := min e1 ((liW ps (ps.length + 1)).getD ps.length default)) (by omega) ps.length (i + 1).toNat; have hcb2 : -1 ≤ (bwL ps b (min e1 ((liW ps (ps.length + 1)).getD ps.length default)) (ps.length : Int).toNat).getD (i + 1).toNat default ∧ (bwL ps b (min e1 ((liW ps (ps.length + 1)).getD ps.length default)) (ps.length : Int).toNat).getD (i + 1).toNat default ≤ 20000000000 := hcb; have hf : ∀ x, fasF ps b v e1 i.toNat x = min ((bwL ps b (min e1 ((liW ps (ps.length + 1)).getD ps.length default)) ps.length).getD (i + 1).toNat default) (x + -losW (-v) (ps.getD i.toNat default)) := (fun x => by unfold fasF fasM; rw [show i.toNat + 1 = (i + 1).toNat by omega]))
      refine aw_seq <| at_ <| ar (ro_lss s67_23 s66_23) rfl <| ae6 (up_m rfl s8_23) (up_m rfl s11_23) (up_m rfl s12_23) (up_m rfl s66_23) (up_m rfl s67_23) up_h ?_; clear s11_23 s12_23 s66_23 s67_23 s8_23; intro e_24 s8_24 s11_24 s12_24 s66_24 s67_24 s68_24
      refine then_n <| aw_seq <| aw_case s68_24 (fun hq_25 => ?_) (fun hq_25 => ?_)
      ·replace hq_25 := bt hq_25
       refine aw_skip <| then_n <| aw_seq <| aw_block <| aw_seq <| at_ <| ar (ro_move s67_24) rfl <| ar (ro_assign up_h) rfl <| ae6 (u2 rfl s8_24) (u2 rfl s11_24) (u2 rfl s12_24) up_h (u2 rfl s66_24) (u2 rfl s67_24) ?_; clear s11_24 s12_24 s66_24 s67_24 s68_24 s8_24; intro e_26 s8_26 s11_26 s12_26 s13_26 s66_26 s67_26
       refine then_n <| aw_seq <| aw_draw 15 (by kernel_rfl) (by kernel_rfl) (by kernel_rfl) (by kernel_rfl) ?_
       refine dr (ro_move s11_26) rfl <| dr (ro_move (up_m rfl s13_26)) rfl ?_
       (refine dr (ro_add' up_h ev_c ?_) rfl ?_; · (unfold In64; omega))
       refine dr (ro_eq (ro_ix k9_sl50 (u2 rfl up_h) up_h (by omega) (by first | (refine idx_map ?_; first | omega | (simp only [lnS]; omega)) | (refine idx_mapI ?_; first | omega | (simp only [lnS]; omega)) | (refine idx_mapN ?_; first | omega | (simp only [lnS]; omega)) | rfl)) (by simp only [pS, Value.cells, Nat.reduceAdd, one_iE, app_m] <;> rfl)) rfl ?_
       refine dr (ro_eq (ro_ld_ref k9_ty3 rfl up_h (nle rfl)) (by simp only [pS, Value.cells, Nat.reduceAdd, one_iE, app_m] <;> rfl)) rfl ?_
       refine dr (ro_move (up_m rfl (u4 rfl s12_26))) rfl <| dr (ro_move (u2 rfl (u4 rfl s13_26))) rfl <| dr (ro_ix_own k9_sl50 mo_j12_23 (up_m rfl up_h) up_h (by omega) (by simp only [lnS] <;> omega)) rfl ?_
       refine dr (ro_eq (ro_ld_el k9_ty3 rfl mo_j12_23 up_h (nle rfl) (by first | (refine idx_map ?_; first | omega | (simp only [lnS]; omega)) | (refine idx_mapI ?_; first | omega | (simp only [lnS]; omega)) | (refine idx_mapN ?_; first | omega | (simp only [lnS]; omega)) | rfl)) (by simp only [pS, Value.cells, Nat.reduceAdd, one_iE, app_m] <;> rfl)) rfl ?_
       refine dr (ro_eq (ro_ld_ptr k9_ty117 rfl mo3_23 (up_m rfl (u8 rfl s8_26)) (nle rfl)) (by simp only [pS, Value.cells, Nat.reduceAdd, one_iE, app_m] <;> rfl)) rfl ?_
       refine dr (ro_move (u2 rfl (u8 rfl s13_26))) rfl <| dr (ro_call (evL_cons (up_m rfl up_h) (evL_cons up_h evL_nil)) rfl (driven_ok nm ps hR.1.1 b d v i (by omega) (by omega) (by omega)) k9_hcf71) rfl ?_
       (refine dr (ro_add' (up_m rfl (u2 rfl up_h)) up_h ?_) rfl ?_; · (unfold In64; omega))
       refine dr (ro_min (u8 rfl up_h) up_h) rfl <| dr (ro_assign up_h) rfl <| ds_nil <| ae6 (up_m rfl (u2 rfl (u4 rfl (u8 rfl s8_26)))) (up_m rfl (u2 rfl (u4 rfl (u8 rfl s11_26)))) (up_m rfl (u2 rfl (u4 rfl (u8 rfl s12_26)))) up_h (up_m rfl (u2 rfl (u4 rfl (u8 rfl s66_26)))) (up_m rfl (u2 rfl (u4 rfl (u8 rfl s67_26)))) ?_; clear s11_26 s12_26 s13_26 s66_26 s67_26 s8_26; intro e_27 s8_27 s11_27 s12_27 s14_27 s66_27 s67_27
       refine then_n <| aw_seq <| aw_seq <| at_ <| ar (ro_move s14_27) rfl <| ar (ro_lss up_h ev_c) rfl <| ae7 (u2 rfl s8_27) (u2 rfl s11_27) (u2 rfl s12_27) (u2 rfl s14_27) (u2 rfl s66_27) (u2 rfl s67_27) up_h ?_; clear s11_27 s12_27 s14_27 s66_27 s67_27 s8_27; intro e_28 s8_28 s11_28 s12_28 s14_28 s66_28 s67_28 s85_28
       refine then_n <| aw_case s85_28 (fun hq_29 => ?_) (fun hq_29 => ?_)
       ·replace hq_29 := bt hq_29
        refine aw_seq <| at_ <| ar (ro_assign ev_c) rfl <| ar (ro_assign ev_c) rfl <| ae2 (up_m rfl up_h) up_h ?_; clear s11_28 s12_28 s14_28 s66_28 s67_28 s85_28 s8_28; intro e_30 s6_30 s7_30
        refine then_n <| aw_ret <| then_r <| block_r <| then_r <| then_r <| block_r <| then_r <| ret2 (.inr rfl) (by kernel_rfl) (resV_tmp s6_30) (resV_tmp s7_30) (.nil 1) (.ro _ rfl) ?_
        clear s6_30 s7_30 mo3_23 mo2_23 mo1_23 mo0_23 mo_j12_23 ml_23
        (have hn := ‹min _ _ < (0 : Int)›; rw [if_pos hq, if_pos hq, fasW, if_neg hc, goL_stop (n := ps.length) p3 (by omega) (by rw [hf]; exact hn)]; rfl)
       replace hq_29 := bf hq_29
       (have hn := ‹¬ (min _ _ < (0 : Int))›)
       refine aw_skip <| then_n <| at_ <| ar (ro_move s12_28) rfl <| ar (ro_move (up_m rfl s14_28)) rfl <| ar (ro_lit k9_sl50 (evP_cons up_h evP_nil) rfl rfl rfl rfl) rfl <| al_stm (st_app k9_sl50 rfl ml_23 mo_j12_23 (u2 rfl up_h) up_h (by rfl) (by simp only [lnS] <;> omega)) trivial rfl (fun m_31 hm_31 => ?_)
       have mon_23_31 := m_swap hm_31 ml_23
       simp only [pS, Value.cells, Nat.reduceAdd, one_iE, app_m] at mon_23_31
       have mo3_31 := m_swap_o hm_31 mo3_23 (by omega)
       have mo2_31 := m_swap_o hm_31 mo2_23 (by omega)
       have mo1_31 := m_swap_o hm_31 mo1_23 (by omega)
       have mo0_31 := m_swap_o hm_31 mo0_23 (by omega)
       have ml_31 := m_swap_l hm_31 ml_23
       clear hm_31 mo3_23 mo2_23 mo1_23 mo0_23 mo_j12_23
       refine ar (ro_assign up_h) rfl <| ae5 (up_m rfl (u4 rfl s8_28)) (up_m rfl (u4 rfl s11_28)) up_h (up_m rfl (u4 rfl s66_28)) (up_m rfl (u4 rfl s67_28)) ?_; clear s11_28 s12_28 s14_28 s66_28 s67_28 s85_28 s8_28; intro e_32 s8_32 s11_32 s12_32 s66_32 s67_32
       refine block_n <| then_n <| at_ ?_
       (refine ar (ro_add' s67_32 ev_c ?_) rfl ?_; · (unfold In64; omega))
       refine ar (ro_move up_h) rfl <| ae5 (u2 rfl s8_32) (u2 rfl s11_32) (u2 rfl s12_32) (u2 rfl s66_32) up_h ?_; clear s11_32 s12_32 s66_32 s67_32 s8_32; intro e_33 s8_33 s11_33 s12_33 s66_33 s67_33
       refine then_n <| ⟨⟨_, _⟩, ⟨s67_33, (s8_33.trans s8_22.symm), (s11_33.trans s11_22.symm), (s66_33.trans s66_22.symm), (mo3_31.trans mo3_20.symm), (mo2_31.trans mo2_20.symm), (mo1_31.trans mo1_20.symm), (mo0_31.trans mo0_20.symm), ⟨_, s12_33, mon_23_31, (by omega), (by omega), (by omega), (by omega)⟩, ⟨_, ml_31, by omega⟩, ?_⟩, ?_⟩
       · (have hst := goL_step p3 (by rw [hf]; exact hn); rw [hf] at hst; refine ⟨by omega, by omega, ?_, ?_⟩; (rw [show (i + 1).toNat = i.toNat + 1 by omega] at hst ⊢; exact hst); (rw [show (i + 1).toNat = i.toNat + 1 by omega] at hn hcb hcb2 ⊢; rw [getD_snoc (by omega)]; constructor; exact Int.not_lt.1 hn; omega))
       · ((try dsimp only); omega)
      replace hq_25 := bf hq_25
      refine aw_exit <| then_x <| then_x <| block_hit <| then_n <| aw_seq <| at_ <| ar (ro_move s12_24) rfl <| ar (ro_assign up_h) rfl <| ar (ro_assign ev_c) rfl <| ae2 (up_m rfl up_h) up_h ?_; clear s11_24 s12_24 s66_24 s67_24 s68_24 s8_24; intro e_34 s6_34 s7_34
      refine then_n <| aw_ret <| ret2 (.inr rfl) (by kernel_rfl) (resV_tmp s6_34) (resV_tmp s7_34) (.own _ _ _ _ mo_j12_23) (.ro _ rfl) ?_
      clear s6_34 s7_34 mo3_23 mo2_23 mo1_23 mo0_23 mo_j12_23 ml_23
      (have hi : i.toNat = ps.length := (by omega); rw [hi] at p3; rw [if_pos hq, if_pos hq, fasW, if_neg hc, p3])
end
end Go.Proofs.YtfmjmngkgmlghaaDoor

/- Contracts of chapter 5: where a train stands. No conditions on a program. -/
namespace Go.Proofs.YtfmjmngkgmlghaaDoor
open Go Go.RowKit Go.Proofs
set_option linter.unusedSimpArgs false
set_option linter.unusedVariables false
theorem k10_hcf64 : ∀ args w, (callFunc 64 args).run Tryd.prog w = .ok (.enter 64 args) w := fun _ _ => by kernel_rfl
theorem k10_sl109 : SlIs Tryd.prog 109 26 1 8 (.int .i64 0) := ⟨by kernel_rfl, by kernel_rfl, by kernel_rfl⟩
theorem k10_sl33 : SlIs Tryd.prog 33 123 4 32 (.agg #[.int .i64 0, .int .i64 0, .int .i64 0, .bool false]) := ⟨by kernel_rfl, by kernel_rfl, by kernel_rfl⟩
theorem k10_sl50 : SlIs Tryd.prog 50 3 1 8 (.int .i64 0) := ⟨by kernel_rfl, by kernel_rfl, by kernel_rfl⟩
theorem k10_ty115 : TyIs Tryd.prog 115 true 2 := ⟨by kernel_rfl, by kernel_rfl⟩
theorem k10_ty117 : TyIs Tryd.prog 117 true 5 := ⟨by kernel_rfl, by kernel_rfl⟩
theorem k10_ty3 : TyIs Tryd.prog 3 false 1 := ⟨by kernel_rfl, by kernel_rfl⟩
theorem k10_ty33 : TyIs Tryd.prog 33 false 1 := ⟨by kernel_rfl, by kernel_rfl⟩
theorem k10_ty35 : TyIs Tryd.prog 35 true 2 := ⟨by kernel_rfl, by kernel_rfl⟩
theorem k10_ty37 : TyIs Tryd.prog 37 true 2 := ⟨by kernel_rfl, by kernel_rfl⟩
theorem k10_ty80 : TyIs Tryd.prog 80 true 3 := ⟨by kernel_rfl, by kernel_rfl⟩
theorem k10_ty84 : TyIs Tryd.prog 84 true 2 := ⟨by kernel_rfl, by kernel_rfl⟩

theorem Ok.len {ps : List Piece} (h : Ok ps) {i : Nat} (hi : i < ps.length) : 1 ≤ (ps.getD i default).len := by
  have h1 := h (ps.getD i default) (by rw [List.getD_eq_getElem?_getD, List.getElem?_eq_getElem hi, Option.getD_some]; exact List.getElem_mem hi)
  simp only [pieceB, withinB, Bool.and_eq_true, decide_eq_true_eq] at h1
  omega
/-- Where a train stands, from a post on. -/
def stG (ps : List Piece) (b : Int) : Nat → Nat → Int → Option (Int × Int)
  | 0, _, _ => none
  | k + 1, i, s => if losW b (ps.getD i default) > 0 ∧ losW b (ps.getD i default) ≥ s then
      some (sumL ps i + s.tdiv ((losW b (ps.getD i default)).tdiv (ps.getD i default).len), sumL ps i + (s + (losW b (ps.getD i default)).tdiv (ps.getD i default).len - 1).tdiv ((losW b (ps.getD i default)).tdiv (ps.getD i default).len))
    else stG ps b k (i + 1) (s - losW b (ps.getD i default))
def stW (ps : List Piece) (b post sq : Int) : (Int × Int) × Int := match stG ps b (ps.length - post.toNat) post.toNat sq with
  | some x => (x, 0)
  | none => ((0, 0), 12)
theorem los_by {dec : Int} {p : Piece} (hl : 1 ≤ p.len) : (losW dec p).tdiv p.len = 2 * (dec + 10 * p.grad) := by
  unfold losW
  exact Int.mul_tdiv_cancel _ (by omega)
theorem los_pos {dec : Int} {p : Piece} (hl : 1 ≤ p.len) (h : losW dec p > 0) : 2 * (dec + 10 * p.grad) ≥ 1 := by
  unfold losW at h
  by_cases hc : 2 * (dec + 10 * p.grad) ≥ 1
  · exact hc
  · have : 2 * (dec + 10 * p.grad) * p.len ≤ 0 := Int.mul_nonpos_of_nonpos_of_nonneg (by omega) (by omega)
    omega
theorem tdiv_bound {x y : Int} (hx : 0 ≤ x) (hy : 1 ≤ y) : 0 ≤ x.tdiv y ∧ x.tdiv y ≤ x := by
  rw [Int.tdiv_eq_ediv_of_nonneg hx]
  exact ⟨Int.ediv_nonneg hx (by omega), Int.ediv_le_self _ hx⟩
def stE (nm : ByteArray) (ps : List Piece) (b d v post sq : Int) : Int := firstE [firstE [(chk nm ps).2, sysE b d v], stateE ps post sq]
theorem stE_right {nm : ByteArray} {ps : List Piece} {b d v post sq : Int} (h : stE nm ps b d v post sq = 0) : trackR ps ∧ sysR b d v ∧ (0 ≤ post ∧ post ≤ ps.length) ∧ (0 ≤ sq ∧ sq ≤ 20000000000) := by
  obtain ⟨h1, h2, h3⟩ := ride_right h
  obtain ⟨h4, h5⟩ := firstE_cons h3
  obtain ⟨h8, h9⟩ := firstE_cons h4
  have a1 := unlessE_zero h8 (by decide)
  have a2 := unlessE_zero (firstE_cons h9).1 (by decide)
  simp only [withinB, Bool.and_eq_true, decide_eq_true_eq] at a1 a2
  exact ⟨h1, h2, a1, a2⟩
section
variable (nm : ByteArray) (ps : List Piece) (hs : nm.size ≤ 1000000000) (hp : ps.length ≤ 1000000000) (b d v : Int)
include hs hp
set_option maxRecDepth 100000 in
set_option maxHeartbeats 4000000 in
theorem standsAt_ok (post sq : Int) : FnOk Tryd.prog 38 [trA nm ps, syA b d v, .agg [iA post, iA sq]] (fun q => q = .tuple [.agg [iA (if stE nm ps b d v post sq = 0 then (stW ps b post sq).1 else (0, 0)).1, iA (if stE nm ps b d v post sq = 0 then (stW ps b post sq).1 else (0, 0)).2], iA (if stE nm ps b d v post sq = 0 then (stW ps b post sq).2 else stE nm ps b d v post sq)]) := by
  refine fnOk_of (fn := Tryd.f38) 91 (by kernel_rfl) rfl (by kernel_rfl) (Nat.le_of_ble_eq_true rfl) ?_
  intro e_0 m_0 hA hm_0
  have s0_0 : evA e_0 (.tmp 0) = _ := hA 0 _ rfl
  have s1_0 : evA e_0 (.tmp 1) = _ := hA 1 _ rfl
  have s2_0 : evA e_0 (.tmp 2) = _ := hA 2 _ rfl
  have ml_0 : m_0.length = 0 := by rw [hm_0]; rfl
  clear hA hm_0
  refine aw_seq <| at_ <| al_stm (st_box s0_0 rfl ml_0) trivial rfl (fun m_1 hm_1 => ?_)
  have mo0_1 := m_push hm_1 ml_0
  have ml_1 := m_push_l hm_1 ml_0
  have ml_1 : _ = 1 := ml_1
  clear hm_1
  refine al_stm (st_box (up_m rfl s1_0) rfl ml_1) trivial rfl (fun m_2 hm_2 => ?_)
  have mo1_2 := m_push hm_2 ml_1
  have mo0_2 := m_push_o hm_2 mo0_1
  have ml_2 := m_push_l hm_2 ml_1
  have ml_2 : _ = 2 := ml_2
  clear hm_2 mo0_1
  refine al_stm (st_box (u2 rfl s2_0) rfl ml_2) trivial rfl (fun m_3 hm_3 => ?_)
  have mo2_3 := m_push hm_3 ml_2
  have mo1_3 := m_push_o hm_3 mo1_2
  have mo0_3 := m_push_o hm_3 mo0_2
  have ml_3 := m_push_l hm_3 ml_2
  have ml_3 : _ = 3 := ml_3
  clear hm_3 mo1_2 mo0_2
  refine al_stm (st_alloc qaz84 rfl ml_3) trivial rfl (fun m_4 hm_4 => ?_)
  have mo3_4 := m_push hm_4 ml_3
  simp only [pS, Value.cells, Nat.reduceAdd] at mo3_4
  have mo2_4 := m_push_o hm_4 mo2_3
  have mo1_4 := m_push_o hm_4 mo1_3
  have mo0_4 := m_push_o hm_4 mo0_3
  have ml_4 := m_push_l hm_4 ml_3
  have ml_4 : _ = 4 := ml_4
  clear hm_4 mo2_3 mo1_3 mo0_3
  refine ar (ro_assign ev_c) rfl <| ae4 (u4 rfl up_h) (up_m rfl (u2 rfl up_h)) (u2 rfl up_h) (up_m rfl up_h) ?_; clear s0_0 s1_0 s2_0; intro e_5 s3_5 s4_5 s5_5 s6_5
  refine then_n <| aw_seq <| at_ <| ar (ro_eq (ro_ld_ptr k10_ty35 rfl mo0_4 s3_5 (nle rfl)) (by simp only [pS, Value.cells, Nat.reduceAdd] <;> rfl)) rfl ?_
  refine ar (ro_eq (ro_ld_ptr k10_ty80 rfl mo1_4 (up_m rfl s4_5) (nle rfl)) (by simp only [pS, Value.cells, Nat.reduceAdd] <;> rfl)) rfl ?_
  refine ar (ro_call (evL_cons (up_m rfl up_h) (evL_cons up_h evL_nil)) rfl (openRide_ok nm ps hs hp b d v) qhcf57) rfl <| ar (ro_move up_h) rfl <| ar (ro_extract up_h rfl) rfl <| ar (ro_extract (up_m rfl up_h) rfl) rfl <| al_stm (st_alloc qaz117 rfl ml_4) trivial rfl (fun m_6 hm_6 => ?_)
  have mo4_6 := m_push hm_6 ml_4
  simp only [pS, Value.cells, Nat.reduceAdd] at mo4_6
  have mo3_6 := m_push_o hm_6 mo3_4
  have mo2_6 := m_push_o hm_6 mo2_4
  have mo1_6 := m_push_o hm_6 mo1_4
  have mo0_6 := m_push_o hm_6 mo0_4
  have ml_6 := m_push_l hm_6 ml_4
  have ml_6 : _ = 5 := ml_6
  clear hm_6 mo3_4 mo2_4 mo1_4 mo0_4
  refine al_stm (st_store up_h (u2 rfl up_h) rfl rfl mo4_6 qsz117 rfl (nle rfl)) trivial rfl (fun m_7 hm_7 => ?_)
  have mo4_7 := m_set hm_7 mo4_6
  simp only [pS, Value.cells, Nat.reduceAdd] at mo4_7
  have mo3_7 := m_set_o hm_7 mo3_6 (by decide)
  have mo2_7 := m_set_o hm_7 mo2_6 (by decide)
  have mo1_7 := m_set_o hm_7 mo1_6 (by decide)
  have mo0_7 := m_set_o hm_7 mo0_6 (by decide)
  have ml_7 := m_set_l hm_7 ml_6
  clear hm_7 mo4_6 mo3_6 mo2_6 mo1_6 mo0_6
  refine ar (ro_assign (up_n (up_m rfl up_h))) rfl <| ae4 (up_m rfl (up_n (up_m rfl (u2 rfl (u4 rfl s5_5))))) (up_m rfl (up_n (up_m rfl (u2 rfl (u4 rfl s6_5))))) (up_m rfl (up_n up_h)) up_h ?_; clear s3_5 s4_5 s5_5 s6_5; intro e_8 s5_8 s6_8 s8_8 s9_8
  refine then_n <| aw_seq <| aw_seq <| at_ <| ar (ro_move s9_8) rfl <| ar (ro_eq (ro_ld_ptr k10_ty117 rfl mo4_7 (up_m rfl s8_8) (nle rfl)) (by simp only [pS, Value.cells, Nat.reduceAdd] <;> rfl)) rfl ?_
  refine ar (ro_eq (ro_ld_ptr k10_ty37 rfl mo2_7 (u2 rfl s5_8) (nle rfl)) (by simp only [pS, Value.cells, Nat.reduceAdd] <;> rfl)) rfl ?_
  refine ar (ro_call (evL_cons (up_m rfl up_h) (evL_cons up_h evL_nil)) rfl (stateErr_ok nm ps hp b d v post sq) qhcf63) rfl <| ar (ro_lit k10_sl109 (evP_cons (up_m rfl (u2 rfl up_h)) (evP_cons up_h evP_nil)) rfl rfl rfl rfl) rfl <| ar (ro_call (evL_cons up_h evL_nil) rfl (first_ok [_, _] (by simp)) qhcf58) rfl ?_
  refine ar (ro_assign up_h) rfl <| ae4 (up_m rfl (u2 rfl (u4 rfl s5_8))) (up_m rfl (u2 rfl (u4 rfl s6_8))) (up_m rfl (u2 rfl (u4 rfl s8_8))) up_h ?_; clear s5_8 s6_8 s8_8 s9_8; intro e_9 s5_9 s6_9 s8_9 s9_9
  refine then_n <| aw_seq <| at_ <| ar (ro_move s9_9) rfl <| ar (ro_neq up_h ev_c) rfl <| ae5 (u2 rfl s5_9) (u2 rfl s6_9) (u2 rfl s8_9) (u2 rfl s9_9) up_h ?_; clear s5_9 s6_9 s8_9 s9_9; intro e_10 s5_10 s6_10 s8_10 s9_10 s28_10
  refine then_n <| aw_case s28_10 (fun hq_11 => ?_) (fun hq_11 => ?_)
  ·replace hq_11 := bnt hq_11
   refine aw_seq <| at_ <| ar (ro_build evP_nil qbz84 qbu84 qbp84 rfl) rfl ?_
   refine ar (ro_move (up_m rfl s9_10)) rfl <| al_stm (st_store (u2 rfl s6_10) (up_m rfl up_h) rfl rfl mo3_7 qsz84 rfl (nle rfl)) trivial rfl (fun m_12 hm_12 => ?_)
   have mo3_12 := m_set hm_12 mo3_7
   simp only [pS, Value.cells, Nat.reduceAdd] at mo3_12
   have mo4_12 := m_set_o hm_12 mo4_7 (by decide)
   have mo2_12 := m_set_o hm_12 mo2_7 (by decide)
   have mo1_12 := m_set_o hm_12 mo1_7 (by decide)
   have mo0_12 := m_set_o hm_12 mo0_7 (by decide)
   have ml_12 := m_set_l hm_12 ml_7
   clear hm_12 mo4_7 mo3_7 mo2_7 mo1_7 mo0_7
   refine ar (ro_assign (up_n up_h)) rfl <| ae2 (up_m rfl (up_n (u2 rfl s6_10))) up_h ?_; clear s28_10 s5_10 s6_10 s8_10 s9_10; intro e_13 s6_13 s7_13
   refine then_n <| aw_ret <| then_r <| ret2 (.inr rfl) (by kernel_rfl) (resV_cell s6_13 mo3_12 k10_ty84 (nle rfl) (by simp)) (resV_tmp s7_13) (vw_r (.ro _ rfl)) (.ro _ rfl) ?_
   clear s6_13 s7_13 mo3_12 mo4_12 mo2_12 mo1_12 mo0_12 ml_12
   (have hq : ¬ stE nm ps b d v post sq = 0 := (by assumption); rw [if_neg hq, if_neg hq]; rfl)
  replace hq_11 := bnf hq_11
  (have hq : stE nm ps b d v post sq = 0 := (by assumption); have hR := stE_right hq; have hlen := hR.1.2; have hpl := plW_len ps ps.length; have hpo := hR.2.2.1; have hsq := hR.2.2.2; have hbb := hR.2.1.1)
  refine aw_skip <| then_n <| aw_seq <| aw_draw 7 (by kernel_rfl) (by kernel_rfl) (by kernel_rfl) (by kernel_rfl) ?_
  refine dr (ro_fld_ptr qfl117_0 rfl s8_10) rfl <| dr (ro_eq (ro_ld_ptr k10_ty115 rfl mo4_7 up_h (nle rfl)) (by simp only [pS, Value.cells, Nat.reduceAdd] <;> rfl)) rfl ?_
  refine dr (ro_call (evL_cons up_h evL_nil) rfl (places_ok nm ps hR.1.1 (by have := hR.1.2; omega)) k10_hcf64) rfl ?_
  refine dr (ro_fld_ptr qfl37_1 rfl (up_m rfl (u2 rfl s5_10))) rfl <| dr (ro_eq (ro_ld_ptr k10_ty3 rfl mo2_7 up_h (nle rfl)) (by simp only [pS, Value.cells, Nat.reduceAdd] <;> rfl)) rfl ?_
  refine dr (ro_assign (u2 rfl up_h)) rfl <| dr (ro_assign (up_m rfl up_h)) rfl <| ds_nil <| ae5 (up_m rfl (u2 rfl (u4 rfl s5_10))) (up_m rfl (u2 rfl (u4 rfl s6_10))) (up_m rfl (u2 rfl (u4 rfl s8_10))) (up_m rfl up_h) up_h ?_; clear s28_10 s5_10 s6_10 s8_10 s9_10; intro e_14 s5_14 s6_14 s8_14 s10_14 s11_14
  refine then_n <| aw_seq <| aw_seq <| at_ <| ar (ro_fld_ptr qfl37_0 rfl s5_14) rfl <| ar (ro_eq (ro_ld_ptr k10_ty3 rfl mo2_7 up_h (nle rfl)) (by simp only [pS, Value.cells, Nat.reduceAdd] <;> rfl)) rfl ?_
  refine ar (ro_assign up_h) rfl <| ae5 (up_m rfl (u2 rfl s6_14)) (up_m rfl (u2 rfl s8_14)) (up_m rfl (u2 rfl s10_14)) (up_m rfl (u2 rfl s11_14)) up_h ?_; clear s10_14 s11_14 s5_14 s6_14 s8_14; intro e_15 s6_15 s8_15 s10_15 s11_15 s12_15
  refine then_n <| aw_block <| aw_loop (S := (Int × Int)) (fun s e mem => match s with | ⟨i, s⟩ => (evA e (.tmp 12) = .v (.int .i64 i)) ∧ (evA e (.tmp 11) = .v (.int .i64 s)) ∧ (evA e (.tmp 6) = evA e_15 (.tmp 6)) ∧ (evA e (.tmp 8) = evA e_15 (.tmp 8)) ∧ (evA e (.tmp 10) = evA e_15 (.tmp 10)) ∧ (mem[4]? = m_7[4]?) ∧ (mem[3]? = m_7[3]?) ∧ (mem[2]? = m_7[2]?) ∧ (mem[1]? = m_7[1]?) ∧ (mem[0]? = m_7[0]?) ∧ (mem.length = 5) ∧ ((post ≤ i ∧ i ≤ ps.length ∧ 0 ≤ s ∧ s ≤ 20000000000 + 80000000000 * i ∧ stG ps b (ps.length - post.toNat) post.toNat sq = stG ps b (ps.length - i.toNat) i.toNat s))) (fun s => match s with | ⟨i, s⟩ => (ps.length - i).toNat) ⟨_, _⟩ ⟨s12_15, s11_15, rfl, rfl, rfl, rfl, rfl, rfl, rfl, rfl, ml_7, ?_⟩ ?_
  · (refine ⟨by omega, by omega, by omega, by omega, rfl⟩)
  · rintro ⟨i, s⟩ e_16 m_16 ⟨s12_16, s11_16, k6_16, k8_16, k10_16, mk4_16, mk3_16, mk2_16, mk1_16, mk0_16, ml_16, hinv⟩
    have s6_16 := k6_16.trans s6_15
    have s8_16 := k8_16.trans s8_15
    have s10_16 := k10_16.trans s10_15
    have mo4_16 := mk4_16.trans mo4_7
    have mo3_16 := mk3_16.trans mo3_7
    have mo2_16 := mk2_16.trans mo2_7
    have mo1_16 := mk1_16.trans mo1_7
    have mo0_16 := mk0_16.trans mo0_7
    refine aw_seq <| aw_seq <| at_ <| ar (ro_move s12_16) rfl <| ar (ro_fld_ptr qfl117_0 rfl (up_m rfl s8_16)) rfl <| ar (ro_fld_ptr qfl115_0 rfl up_h) rfl <| ar (ro_fld_ptr qfl35_1 rfl up_h) rfl <| ar (ro_eq (ro_ld_ptr k10_ty33 rfl mo4_16 up_h (nle rfl)) (by simp only [pS, Value.cells, Nat.reduceAdd] <;> rfl)) rfl ?_
    refine ar (ro_eq (ro_len_row up_h rfl k10_sl33.1) (by simp only [lnS] <;> rfl)) rfl ?_
    refine ar (ro_lss (up_m rfl (u4 rfl up_h)) up_h) rfl <| ae6 (up_m rfl (u2 rfl (u4 rfl s6_16))) (up_m rfl (u2 rfl (u4 rfl s8_16))) (up_m rfl (u2 rfl (u4 rfl s10_16))) (up_m rfl (u2 rfl (u4 rfl s11_16))) (up_m rfl (u2 rfl (u4 rfl s12_16))) up_h ?_; clear s10_16 s11_16 s12_16 s6_16 s8_16; intro e_17 s6_17 s8_17 s10_17 s11_17 s12_17 s44_17
    refine then_n <| aw_case s44_17 (fun hq_18 => ?_) (fun hq_18 => ?_)
    ·replace hq_18 := bt hq_18
     (obtain ⟨p1, p2, p3, p4, p5⟩ := hinv; have hpa := hR.1.1.at i.toNat; have hle := hR.1.1.len (i := i.toNat) (by omega); have hlos := los_bound (dec := b) (p := ps.getD i.toNat default) (by omega) hpa.1 hpa.2.1; have hsu := sumL_bound hR.1.1 i.toNat; have hat : (plW ps ps.length).getD i.toNat default = sumL ps i.toNat := plW_at ps (by omega); have hby := los_by (dec := b) hle)
     refine aw_skip <| then_n <| aw_seq <| aw_block <| aw_seq <| at_ <| ar (ro_eq (ro_ld_ptr k10_ty117 rfl mo4_16 s8_17 (nle rfl)) (by simp only [pS, Value.cells, Nat.reduceAdd] <;> rfl)) rfl ?_
     refine ar (ro_move (up_m rfl s12_17)) rfl <| ar (ro_call (evL_cons (up_m rfl up_h) (evL_cons up_h evL_nil)) rfl (braked_ok nm ps hR.1.1 b d v i (by omega) (by omega) (by have := hR.2.1.1; omega)) qhcf65) rfl ?_
     refine ar (ro_assign up_h) rfl <| ae6 (u4 rfl s6_17) (u4 rfl s8_17) (u4 rfl s10_17) (u4 rfl s11_17) (u4 rfl s12_17) up_h ?_; clear s10_17 s11_17 s12_17 s44_17 s6_17 s8_17; intro e_19 s6_19 s8_19 s10_19 s11_19 s12_19 s13_19
     refine then_n <| aw_seq <| aw_seq <| at_ <| ar (ro_move s13_19) rfl <| ar (ro_gtr up_h ev_c) rfl <| ar (ro_move up_h) rfl <| al_case up_h (fun hb_20 hq_20 => ?_) (fun hb_20 hq_20 => ?_)
     ·replace hq_20 := bt hq_20
      refine al_ro' (ro_move (up_m rfl (u2 rfl s13_19))) ⟨_, rfl, hb_20⟩ rfl ?_
      refine al_ro' (ro_move (u4 rfl s11_19)) ⟨_, rfl, (up_m rfl hb_20)⟩ rfl ?_
      refine al_ro' (ro_geq (up_m rfl up_h) up_h) ⟨_, rfl, (u2 rfl hb_20)⟩ rfl ?_
      refine ar (ro_pickT (up_m rfl (u2 rfl hb_20)) up_h) rfl <| ae7 (up_m rfl (u2 rfl (u4 rfl s6_19))) (up_m rfl (u2 rfl (u4 rfl s8_19))) (up_m rfl (u2 rfl (u4 rfl s10_19))) (up_m rfl (u2 rfl (u4 rfl s11_19))) (up_m rfl (u2 rfl (u4 rfl s12_19))) (up_m rfl (u2 rfl (u4 rfl s13_19))) up_h ?_; clear hb_20 s10_19 s11_19 s12_19 s13_19 s6_19 s8_19; intro e_21 s6_21 s8_21 s10_21 s11_21 s12_21 s13_21 s56_21
      refine then_n <| aw_case s56_21 (fun hq_22 => ?_) (fun hq_22 => ?_)
      ·replace hq_22 := bt hq_22
       (have hgt : losW b (ps.getD i.toNat default) > 0 ∧ losW b (ps.getD i.toNat default) ≥ s := (by omega); have hps := los_pos hle hgt.1; have ht1 := tdiv_bound (x := s) (y := (losW b (ps.getD i.toNat default)).tdiv (ps.getD i.toNat default).len) (by omega) (by omega); have ht2 := tdiv_bound (x := s + (losW b (ps.getD i.toNat default)).tdiv (ps.getD i.toNat default).len - 1) (y := (losW b (ps.getD i.toNat default)).tdiv (ps.getD i.toNat default).len) (by omega) (by omega))
       refine aw_seq <| at_ <| ar (ro_move s13_21) rfl <| ar (ro_fld_ptr qfl117_0 rfl (up_m rfl s8_21)) rfl <| ar (ro_fld_ptr qfl115_0 rfl up_h) rfl <| ar (ro_fld_ptr qfl35_1 rfl up_h) rfl <| ar (ro_eq (ro_ld_ptr k10_ty33 rfl mo4_16 up_h (nle rfl)) (by simp only [pS, Value.cells, Nat.reduceAdd] <;> rfl)) rfl ?_
       refine ar (ro_move (up_m rfl (u4 rfl s12_21))) rfl <| ar (ro_eq (ro_ix k10_sl33 (up_m rfl up_h) up_h (by omega) (by first | (refine idx_map ?_; first | omega | (simp only [lnS]; omega)) | (refine idx_mapI ?_; first | omega | (simp only [lnS]; omega)) | (refine idx_mapN ?_; first | omega | (simp only [lnS]; omega)) | rfl)) (by rfl)) rfl ?_
       refine ar (ro_eq (ro_fld_ref qfl123_0 rfl up_h) (by simp only [pS, Value.cells, Nat.reduceAdd] <;> rfl)) rfl ?_
       refine ar (ro_eq (ro_ld_ref k10_ty3 rfl up_h (nle rfl)) (by simp only [pS, Value.cells, Nat.reduceAdd] <;> rfl)) rfl ?_
       (refine ar (ro_quo' (u8 rfl up_h) up_h (by omega) ?_) rfl ?_; · (unfold In64; omega))
       refine ar (ro_assign up_h) rfl <| ae5 (up_m rfl (u2 rfl (u8 rfl s6_21))) (up_m rfl (u2 rfl (u8 rfl s10_21))) (up_m rfl (u2 rfl (u8 rfl s11_21))) (up_m rfl (u2 rfl (u8 rfl s12_21))) up_h ?_; clear s10_21 s11_21 s12_21 s13_21 s56_21 s6_21 s8_21; intro e_23 s6_23 s10_23 s11_23 s12_23 s14_23
       refine then_n <| aw_seq <| aw_draw 20 (by kernel_rfl) (by kernel_rfl) (by kernel_rfl) (by kernel_rfl) ?_
       refine dr (ro_move s10_23) rfl <| dr (ro_move (up_m rfl s12_23)) rfl <| dr (ro_eq (ro_ix k10_sl50 (up_m rfl up_h) up_h (by omega) (by first | (refine idx_map ?_; first | omega | (simp only [lnS]; omega)) | (refine idx_mapI ?_; first | omega | (simp only [lnS]; omega)) | (refine idx_mapN ?_; first | omega | (simp only [lnS]; omega)) | rfl)) (by simp only [pS, Value.cells, Nat.reduceAdd] <;> rfl)) rfl ?_
       refine dr (ro_eq (ro_ld_ref k10_ty3 rfl up_h (nle rfl)) (by simp only [pS, Value.cells, Nat.reduceAdd] <;> rfl)) rfl ?_
       refine dr (ro_move (u4 rfl s11_23)) rfl <| dr (ro_move (up_m rfl (u4 rfl s14_23))) rfl ?_
       (refine dr (ro_quo' (up_m rfl up_h) up_h (by omega) ?_) rfl ?_; · (unfold In64; omega))
       (refine dr (ro_add' (up_m rfl (u2 rfl up_h)) up_h ?_) rfl ?_; · (unfold In64; omega))
       refine dr (ro_move (u8 rfl s10_23)) rfl <| dr (ro_move (up_m rfl (u8 rfl s12_23))) rfl <| dr (ro_eq (ro_ix k10_sl50 (up_m rfl up_h) up_h (by omega) (by first | (refine idx_map ?_; first | omega | (simp only [lnS]; omega)) | (refine idx_mapI ?_; first | omega | (simp only [lnS]; omega)) | (refine idx_mapN ?_; first | omega | (simp only [lnS]; omega)) | rfl)) (by simp only [pS, Value.cells, Nat.reduceAdd] <;> rfl)) rfl ?_
       refine dr (ro_eq (ro_ld_ref k10_ty3 rfl up_h (nle rfl)) (by simp only [pS, Value.cells, Nat.reduceAdd] <;> rfl)) rfl ?_
       refine dr (ro_move (u4 rfl (u8 rfl s11_23))) rfl <| dr (ro_move (up_m rfl (u4 rfl (u8 rfl s14_23)))) rfl ?_
       (refine dr (ro_add' (up_m rfl up_h) up_h ?_) rfl ?_; · (unfold In64; omega))
       (refine dr (ro_sub' up_h ev_c ?_) rfl ?_; · (unfold In64; omega))
       refine dr (ro_move (u16 rfl s14_23)) rfl ?_
       (refine dr (ro_quo' (up_m rfl up_h) up_h (by omega) ?_) rfl ?_; · (unfold In64; omega))
       (refine dr (ro_add' (u2 rfl (u4 rfl up_h)) up_h ?_) rfl ?_; · (unfold In64; omega))
       refine dr (ro_build (evP_cons (up_m rfl (u2 rfl (u8 rfl up_h))) (evP_cons up_h evP_nil)) qbz84 qbu84 qbp84 rfl) rfl ?_
       refine ds_nil <| al_stm (st_store (u4 rfl (u16 rfl s6_23)) up_h rfl rfl mo3_16 qsz84 rfl (nle rfl)) trivial rfl (fun m_24 hm_24 => ?_)
       have mo3_24 := m_set hm_24 mo3_16
       simp only [pS, Value.cells, Nat.reduceAdd] at mo3_24
       have mo4_24 := m_set_o hm_24 mo4_16 (by decide)
       have mo2_24 := m_set_o hm_24 mo2_16 (by decide)
       have mo1_24 := m_set_o hm_24 mo1_16 (by decide)
       have mo0_24 := m_set_o hm_24 mo0_16 (by decide)
       have ml_24 := m_set_l hm_24 ml_16
       clear hm_24 mo4_16 mo3_16 mo2_16 mo1_16 mo0_16
       refine ar (ro_assign ev_c) rfl <| ae2 (up_m rfl (up_n (u4 rfl (u16 rfl s6_23)))) up_h ?_; clear s10_23 s11_23 s12_23 s14_23 s6_23; intro e_25 s6_25 s7_25
       refine then_n <| aw_ret <| then_r <| block_r <| then_r <| then_r <| block_r <| then_r <| ret2 (.inr rfl) (by kernel_rfl) (resV_cell s6_25 mo3_24 k10_ty84 (nle rfl) (by simp)) (resV_tmp s7_25) (vw_r (.ro _ rfl)) (.ro _ rfl) ?_
       clear s6_25 s7_25 mo3_24 mo4_24 mo2_24 mo1_24 mo0_24 ml_24
       (have hst : stG ps b (ps.length - post.toNat) post.toNat sq = some (_, _) := (by rw [p5, show ps.length - i.toNat = (ps.length - (i + 1).toNat) + 1 by omega]; simp only [stG]; rw [if_pos hgt]); rw [if_pos hq, if_pos hq, stW, hst, hat]; rfl)
      replace hq_22 := bf hq_22
      refine aw_skip <| then_n <| at_ <| ar (ro_move s11_21) rfl <| ar (ro_move (up_m rfl s13_21)) rfl ?_
      (refine ar (ro_sub' (up_m rfl up_h) up_h ?_) rfl ?_; · (unfold In64; omega))
      refine ar (ro_assign up_h) rfl <| ae5 (u4 rfl s6_21) (u4 rfl s8_21) (u4 rfl s10_21) up_h (u4 rfl s12_21) ?_; clear s10_21 s11_21 s12_21 s13_21 s56_21 s6_21 s8_21; intro e_26 s6_26 s8_26 s10_26 s11_26 s12_26
      refine block_n <| then_n <| at_ <| ar (ro_move s12_26) rfl ?_
      (refine ar (ro_add' up_h ev_c ?_) rfl ?_; · (unfold In64; omega))
      refine ar (ro_assign up_h) rfl <| ae5 (up_m rfl (u2 rfl s6_26)) (up_m rfl (u2 rfl s8_26)) (up_m rfl (u2 rfl s10_26)) (up_m rfl (u2 rfl s11_26)) up_h ?_; clear s10_26 s11_26 s12_26 s6_26 s8_26; intro e_27 s6_27 s8_27 s10_27 s11_27 s12_27
      refine then_n <| ⟨⟨_, _⟩, ⟨s12_27, s11_27, (s6_27.trans s6_15.symm), (s8_27.trans s8_15.symm), (s10_27.trans s10_15.symm), (mo4_16.trans mo4_7.symm), (mo3_16.trans mo3_7.symm), (mo2_16.trans mo2_7.symm), (mo1_16.trans mo1_7.symm), (mo0_16.trans mo0_7.symm), ml_16, ?_⟩, ?_⟩
      · (refine ⟨by omega, by omega, by omega, by omega, ?_⟩; rw [p5, show ps.length - i.toNat = (ps.length - (i + 1).toNat) + 1 by omega, show (i + 1).toNat = i.toNat + 1 by omega]; simp only [stG]; rw [if_neg (by omega)])
      · ((try dsimp only); omega)
     replace hq_20 := bf hq_20
     refine al_skip' ⟨_, rfl, .inl hb_20⟩ rfl ?_
     refine al_skip' ⟨_, rfl, .inl (up_m rfl hb_20)⟩ rfl ?_
     refine al_skip' ⟨_, rfl, .inl (u2 rfl hb_20)⟩ rfl ?_
     refine ar (ro_pickF (up_m rfl (u2 rfl hb_20)) ev_c) rfl <| ae7 (up_m rfl (u2 rfl (u4 rfl s6_19))) (up_m rfl (u2 rfl (u4 rfl s8_19))) (up_m rfl (u2 rfl (u4 rfl s10_19))) (up_m rfl (u2 rfl (u4 rfl s11_19))) (up_m rfl (u2 rfl (u4 rfl s12_19))) (up_m rfl (u2 rfl (u4 rfl s13_19))) up_h ?_; clear hb_20 s10_19 s11_19 s12_19 s13_19 s6_19 s8_19; intro e_28 s6_28 s8_28 s10_28 s11_28 s12_28 s13_28 s56_28
     refine then_n <| aw_false s56_28 <| aw_skip <| then_n <| at_ <| ar (ro_move s11_28) rfl <| ar (ro_move (up_m rfl s13_28)) rfl ?_
     (refine ar (ro_sub' (up_m rfl up_h) up_h ?_) rfl ?_; · (unfold In64; omega))
     refine ar (ro_assign up_h) rfl <| ae5 (u4 rfl s6_28) (u4 rfl s8_28) (u4 rfl s10_28) up_h (u4 rfl s12_28) ?_; clear s10_28 s11_28 s12_28 s13_28 s56_28 s6_28 s8_28; intro e_30 s6_30 s8_30 s10_30 s11_30 s12_30
     refine block_n <| then_n <| at_ <| ar (ro_move s12_30) rfl ?_
     (refine ar (ro_add' up_h ev_c ?_) rfl ?_; · (unfold In64; omega))
     refine ar (ro_assign up_h) rfl <| ae5 (up_m rfl (u2 rfl s6_30)) (up_m rfl (u2 rfl s8_30)) (up_m rfl (u2 rfl s10_30)) (up_m rfl (u2 rfl s11_30)) up_h ?_; clear s10_30 s11_30 s12_30 s6_30 s8_30; intro e_31 s6_31 s8_31 s10_31 s11_31 s12_31
     refine then_n <| ⟨⟨_, _⟩, ⟨s12_31, s11_31, (s6_31.trans s6_15.symm), (s8_31.trans s8_15.symm), (s10_31.trans s10_15.symm), (mo4_16.trans mo4_7.symm), (mo3_16.trans mo3_7.symm), (mo2_16.trans mo2_7.symm), (mo1_16.trans mo1_7.symm), (mo0_16.trans mo0_7.symm), ml_16, ?_⟩, ?_⟩
     · (refine ⟨by omega, by omega, by omega, by omega, ?_⟩; rw [p5, show ps.length - i.toNat = (ps.length - (i + 1).toNat) + 1 by omega, show (i + 1).toNat = i.toNat + 1 by omega]; simp only [stG]; rw [if_neg (by omega)])
     · ((try dsimp only); omega)
    replace hq_18 := bf hq_18
    refine aw_exit <| then_x <| then_x <| block_hit <| then_n <| aw_seq <| at_ <| ar (ro_build evP_nil qbz84 qbu84 qbp84 rfl) rfl ?_
    refine al_stm (st_store (up_m rfl s6_17) up_h rfl rfl mo3_16 qsz84 rfl (nle rfl)) trivial rfl (fun m_32 hm_32 => ?_)
    have mo3_32 := m_set hm_32 mo3_16
    simp only [pS, Value.cells, Nat.reduceAdd] at mo3_32
    have mo4_32 := m_set_o hm_32 mo4_16 (by decide)
    have mo2_32 := m_set_o hm_32 mo2_16 (by decide)
    have mo1_32 := m_set_o hm_32 mo1_16 (by decide)
    have mo0_32 := m_set_o hm_32 mo0_16 (by decide)
    have ml_32 := m_set_l hm_32 ml_16
    clear hm_32 mo4_16 mo3_16 mo2_16 mo1_16 mo0_16
    refine ar (ro_assign ev_c) rfl <| ae2 (up_m rfl (up_n (up_m rfl s6_17))) up_h ?_; clear s10_17 s11_17 s12_17 s44_17 s6_17 s8_17; intro e_33 s6_33 s7_33
    refine then_n <| aw_ret <| ret2 (.inr rfl) (by kernel_rfl) (resV_cell s6_33 mo3_32 k10_ty84 (nle rfl) (by simp)) (resV_tmp s7_33) (vw_r (.ro _ rfl)) (.ro _ rfl) ?_
    clear s6_33 s7_33 mo3_32 mo4_32 mo2_32 mo1_32 mo0_32 ml_32
    (obtain ⟨p1, p2, p3, p4, p5⟩ := hinv; have hst : stG ps b (ps.length - post.toNat) post.toNat sq = none := (by rw [p5, show ps.length - i.toNat = 0 by omega]; rfl); rw [if_pos hq, if_pos hq, stW, hst]; rfl)
end
end Go.Proofs.YtfmjmngkgmlghaaDoor

