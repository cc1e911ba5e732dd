/- Texts of this claim, one behind the other: lemmas for the statement. -/
import Derived.Test.YtonjcljnpcmenaaM7
/- Contracts of chapter 1: whether the program is awake. No conditions on a program. -/
namespace Go.Proofs.Ytonjcljnpcmenaa
open Go Go.RowKit Go.Proofs
set_option linter.unusedSimpArgs false
set_option linter.unusedVariables false
theorem y27_az26 : (Try.prog.info? 26).bind (·.zero) = some (.agg #[.string ByteArray.empty, .slice none 0 0, .slice none 0 0, .slice none 0 0]) := by kernel_rfl
theorem y27_az39 : (Try.prog.info? 39).bind (·.zero) = some (.agg #[.int .i64 0, .int .i64 0]) := by kernel_rfl
theorem y27_bz85 : (Try.prog.info? 85).bind (·.zero) = some (.agg #[.int .i64 0, .int .i64 0]) := by kernel_rfl
theorem y27_bu85 : Try.prog.underlying 85 = some (.array 2 3) := by kernel_rfl
theorem y27_bp85 : (Try.prog.info? 3).map (·.size) = some 1 := by kernel_rfl
theorem y27_bz26 : (Try.prog.info? 26).bind (·.zero) = some (.agg #[.string ByteArray.empty, .slice none 0 0, .slice none 0 0, .slice none 0 0]) := by kernel_rfl
theorem y27_bu26 : Try.prog.underlying 26 = some (.struct (fsOf Try.prog 26)) := by kernel_rfl
theorem y27_bp26 : ∀ w, ((fsOf Try.prog 26).mapM fun f => Prod.mk f.offset <$> sizeOf f.type : Sem (Array (Nat × Nat))).run Try.prog w = .ok (#[(0, 1), (1, 1), (2, 1), (3, 1)]) w := fun _ => by kernel_rfl
theorem y27_bz28 : (Try.prog.info? 28).bind (·.zero) = some (.agg #[.int .i64 0, .int .i64 0, .int .i64 0]) := by kernel_rfl
theorem y27_bu28 : Try.prog.underlying 28 = some (.struct (fsOf Try.prog 28)) := by kernel_rfl
theorem y27_bp28 : ∀ w, ((fsOf Try.prog 28).mapM fun f => Prod.mk f.offset <$> sizeOf f.type : Sem (Array (Nat × Nat))).run Try.prog w = .ok (#[(0, 1), (1, 1), (2, 1)]) w := fun _ => by kernel_rfl
theorem y27_bz39 : (Try.prog.info? 39).bind (·.zero) = some (.agg #[.int .i64 0, .int .i64 0]) := by kernel_rfl
theorem y27_bu39 : Try.prog.underlying 39 = some (.struct (fsOf Try.prog 39)) := by kernel_rfl
theorem y27_bp39 : ∀ w, ((fsOf Try.prog 39).mapM fun f => Prod.mk f.offset <$> sizeOf f.type : Sem (Array (Nat × Nat))).run Try.prog w = .ok (#[(0, 1), (1, 1)]) w := fun _ => by kernel_rfl
theorem y27_bz70 : (Try.prog.info? 70).bind (·.zero) = some (.agg #[.int .i64 0, .int .i64 0, .int .i64 0, .int .i64 0]) := by kernel_rfl
theorem y27_bu70 : Try.prog.underlying 70 = some (.struct (fsOf Try.prog 70)) := by kernel_rfl
theorem y27_bp70 : ∀ w, ((fsOf Try.prog 70).mapM fun f => Prod.mk f.offset <$> sizeOf f.type : Sem (Array (Nat × Nat))).run Try.prog w = .ok (#[(0, 1), (1, 1), (2, 2)]) w := fun _ => by kernel_rfl
theorem y27_bz87 : (Try.prog.info? 87).bind (·.zero) = some (.agg #[.int .i64 0, .int .i64 0]) := by kernel_rfl
theorem y27_bu87 : Try.prog.underlying 87 = some (.struct (fsOf Try.prog 87)) := by kernel_rfl
theorem y27_bp87 : ∀ w, ((fsOf Try.prog 87).mapM fun f => Prod.mk f.offset <$> sizeOf f.type : Sem (Array (Nat × Nat))).run Try.prog w = .ok (#[(0, 1), (1, 1)]) w := fun _ => by kernel_rfl
theorem y27_hcf23 : ∀ args w, (callFunc 23 args).run Try.prog w = .ok (.enter 23 args) w := fun _ _ => by kernel_rfl
theorem y27_hcf41 : ∀ args w, (callFunc 41 args).run Try.prog w = .ok (.enter 41 args) w := fun _ _ => by kernel_rfl
theorem y27_hcf67 : ∀ args w, (callFunc 67 args).run Try.prog w = .ok (.enter 67 args) w := fun _ _ => by kernel_rfl
theorem y27_hcf68 : ∀ args w, (callFunc 68 args).run Try.prog w = .ok (.enter 68 args) w := fun _ _ => by kernel_rfl
theorem y27_sl22 : SlIs Try.prog 22 70 4 32 (.agg #[.int .i64 0, .int .i64 0, .int .i64 0, .int .i64 0]) := ⟨by kernel_rfl, by kernel_rfl, by kernel_rfl⟩
theorem y27_sl23 : SlIs Try.prog 23 87 2 16 (.agg #[.int .i64 0, .int .i64 0]) := ⟨by kernel_rfl, by kernel_rfl, by kernel_rfl⟩
theorem y27_sz26 : (Try.prog.info? 26).map (·.size) = some 4 := by kernel_rfl
theorem y27_sz39 : (Try.prog.info? 39).map (·.size) = some 2 := by kernel_rfl
theorem y27_ty26 : TyIs Try.prog 26 true 4 := ⟨by kernel_rfl, by kernel_rfl⟩
theorem y27_ty39 : TyIs Try.prog 39 true 2 := ⟨by kernel_rfl, by kernel_rfl⟩

def lin0 : Lin := ⟨⟨#[115, 104, 111, 114, 116]⟩, [⟨0, 0, 0, 0⟩, ⟨0, 100, 0, 0⟩, ⟨200, 100, 0, 0⟩], [⟨10000, 0⟩, ⟨10000, 100⟩], []⟩
set_option maxRecDepth 100000 in
set_option maxHeartbeats 1000000 in
theorem lin0_ok : FnOk Try.prog 67 [] (fun q => q = lnA lin0) := by
  refine fnOk_of (fn := Try.f67) 9 (by kernel_rfl) rfl (by kernel_rfl) (Nat.le_of_ble_eq_true rfl) ?_
  intro e_0 m_0 hA hm_0
  have ml_0 : m_0.length = 0 := by rw [hm_0]; rfl
  clear hA hm_0
  refine aw_seq <| at_ <| al_stm (st_alloc y27_az26 rfl ml_0) trivial rfl (fun m_1 hm_1 => ?_)
  have mo0_1 := m_push hm_1 ml_0
  simp only [pS, Value.cells, Nat.reduceAdd] at mo0_1
  have ml_1 := m_push_l hm_1 ml_0
  have ml_1 : _ = 1 := ml_1
  clear hm_1
  refine ae1 up_h ?_; intro e_2 s0_2
  refine then_n <| aw_seq <| at_ <| ar (ro_build evP_nil y27_bz70 y27_bu70 y27_bp70 rfl) rfl ?_
  refine ar (ro_build (evP_cons ev_c evP_nil) y27_bz70 y27_bu70 y27_bp70 rfl) rfl ?_
  refine ar (ro_build (evP_cons ev_c (evP_cons ev_c evP_nil)) y27_bz70 y27_bu70 y27_bp70 rfl) rfl ?_
  refine ar (ro_lit y27_sl22 (evP_cons (u2 rfl up_h) (evP_cons (up_m rfl up_h) (evP_cons up_h evP_nil))) rfl rfl rfl rfl) rfl <| ar (ro_build (evP_cons ev_c evP_nil) y27_bz87 y27_bu87 y27_bp87 rfl) rfl ?_
  refine ar (ro_build (evP_cons ev_c (evP_cons ev_c evP_nil)) y27_bz87 y27_bu87 y27_bp87 rfl) rfl ?_
  refine ar (ro_lit y27_sl23 (evP_cons (up_m rfl up_h) (evP_cons up_h evP_nil)) rfl rfl rfl rfl) rfl <| ar (ro_build (evP_cons ev_c (evP_cons (up_m rfl (u2 rfl up_h)) (evP_cons up_h evP_nil))) y27_bz26 y27_bu26 y27_bp26 rfl) rfl ?_
  refine al_stm (st_store (u8 rfl s0_2) up_h rfl rfl mo0_1 y27_sz26 rfl (nle rfl)) trivial rfl (fun m_3 hm_3 => ?_)
  have mo0_3 := m_set hm_3 mo0_1
  simp only [pS, Value.cells, Nat.reduceAdd] at mo0_3
  have ml_3 := m_set_l hm_3 ml_1
  clear hm_3 mo0_1
  refine ae1 (up_n (u8 rfl s0_2)) ?_; clear s0_2; intro e_4 s0_4
  refine then_n <| aw_ret <| ret1 (.inr rfl) (by kernel_rfl) (resV_cell s0_4 mo0_3 y27_ty26 (nle rfl) (by simp)) (vw_r (vw_agg (vwl_cons (.ro _ rfl) (vwl_cons (.ro _ rfl) (vwl_cons (.ro _ rfl) (vwl_cons (.nil 3) vwl_nil)))))) ?_
  clear s0_4 mo0_3 ml_3
  rfl
theorem lin0_sho : Sho lin0 := ⟨by decide, by decide, by decide, by decide, by intro s hs; cases hs⟩
theorem lin0_good : (linM lin0).2 = 0 := by kernel_rfl
theorem len0_ok : FnOk Try.prog 41 [lnA lin0] (fun q => q = .tuple [mA 20000, mA 0]) :=
  (lengthOf_good lin0 lin0_sho lin0_good).mono fun q h => h.trans (by kernel_rfl)
theorem lim0_ok : FnOk Try.prog 23 [lnA lin0, mA 1000, mA 1] (fun q => q = .tuple [mA 745250000, mA 0]) :=
  (limitAt_good lin0 lin0_sho lin0_good 1000 1 (fun hs n hn => by
    obtain rfl : n = 1 := by have : lin0.js.length = 3 := rfl
                             omega
    exact limit_low lin0 (rgt_of lin0_good) 1000 (by decide) 1 (by decide) (by decide))).mono fun q h => h.trans (by kernel_rfl)
theorem dev0_ok : FnOk Try.prog 68 [lnA lin0, vehA 10000 60 2500, .agg [mA 2500, mA 1]] (fun q => q = .tuple [.agg [mA (-38), mA (-37)], mA 0]) :=
  (deviationAt_good lin0 lin0_sho lin0_good 10000 60 2500 2500 1 (by decide) (by decide)).mono fun q h => h.trans (by kernel_rfl)
set_option maxRecDepth 100000 in
set_option maxHeartbeats 4000000 in
theorem awake_ok : FnOk Try.prog 12 [] (fun q => q = tbA true) := by
  refine fnOk_of (fn := Try.f12) 47 (by kernel_rfl) rfl (by kernel_rfl) (Nat.le_of_ble_eq_true rfl) ?_
  intro e_0 m_0 hA hm_0
  have ml_0 : m_0.length = 0 := by rw [hm_0]; rfl
  clear hA hm_0
  refine aw_seq <| at_ <| ar (ro_assign ev_c) rfl <| ae0 ?_; intro e_1
  refine then_n <| aw_seq <| at_ <| ar (ro_call evL_nil rfl (lin0_ok) y27_hcf67) rfl <| ar (ro_call (evL_cons up_h evL_nil) rfl (len0_ok) y27_hcf41) rfl <| ar (ro_move up_h) rfl <| ar (ro_extract up_h rfl) rfl <| ar (ro_extract (up_m rfl up_h) rfl) rfl <| ar (ro_assign (up_m rfl up_h)) rfl <| ar (ro_assign (up_m rfl up_h)) rfl <| ae2 (up_m rfl up_h) up_h ?_; intro e_2 s1_2 s2_2
  refine then_n <| aw_seq <| at_ <| ar (ro_call evL_nil rfl (lin0_ok) y27_hcf67) rfl <| ar (ro_call (evL_cons up_h (evL_cons ev_c (evL_cons ev_c evL_nil))) rfl (lim0_ok) y27_hcf23) rfl <| ar (ro_move up_h) rfl <| ar (ro_extract up_h rfl) rfl <| ar (ro_extract (up_m rfl up_h) rfl) rfl <| ar (ro_assign (up_m rfl up_h)) rfl <| ar (ro_assign (up_m rfl up_h)) rfl <| ae4 (up_m rfl (u2 rfl (u4 rfl s1_2))) (up_m rfl (u2 rfl (u4 rfl s2_2))) (up_m rfl up_h) up_h ?_; clear s1_2 s2_2; intro e_3 s1_3 s2_3 s3_3 s4_3
  refine then_n <| aw_seq <| at_ <| ar (ro_call evL_nil rfl (lin0_ok) y27_hcf67) rfl <| ar (ro_build (evP_cons ev_c (evP_cons ev_c (evP_cons ev_c evP_nil))) y27_bz28 y27_bu28 y27_bp28 rfl) rfl ?_
  refine ar (ro_buildA (evP_cons ev_c (evP_cons ev_c evP_nil)) y27_bz85 y27_bu85 y27_bp85 rfl) rfl ?_
  refine ar (ro_call (evL_cons (u2 rfl up_h) (evL_cons (up_m rfl up_h) (evL_cons up_h evL_nil))) rfl (dev0_ok) y27_hcf68) rfl <| ar (ro_move up_h) rfl <| ar (ro_extract up_h rfl) rfl <| ar (ro_extract (up_m rfl up_h) rfl) rfl <| al_stm (st_alloc y27_az39 rfl ml_0) trivial rfl (fun m_4 hm_4 => ?_)
  have mo0_4 := m_push hm_4 ml_0
  simp only [pS, Value.cells, Nat.reduceAdd] at mo0_4
  have ml_4 := m_push_l hm_4 ml_0
  have ml_4 : _ = 1 := ml_4
  clear hm_4
  refine al_stm (st_store up_h (u2 rfl up_h) rfl rfl mo0_4 y27_sz39 rfl (nle rfl)) trivial rfl (fun m_5 hm_5 => ?_)
  have mo0_5 := m_set hm_5 mo0_4
  simp only [pS, Value.cells, Nat.reduceAdd] at mo0_5
  have ml_5 := m_set_l hm_5 ml_4
  clear hm_5 mo0_4
  refine ar (ro_assign (up_n (up_m rfl up_h))) rfl <| ae6 (up_m rfl (up_n (u8 rfl s1_3))) (up_m rfl (up_n (u8 rfl s2_3))) (up_m rfl (up_n (u8 rfl s3_3))) (up_m rfl (up_n (u8 rfl s4_3))) (up_m rfl (up_n up_h)) up_h ?_; clear s1_3 s2_3 s3_3 s4_3; intro e_6 s1_6 s2_6 s3_6 s4_6 s5_6 s6_6
  refine then_n <| aw_seq <| at_ <| ar (ro_move s2_6) rfl <| ar (ro_eql up_h ev_c) rfl ?_
  refine ar (ro_move up_h) rfl <| al_case up_h (fun hb_7 hq_7 => ?_) (fun hb_7 hq_7 => ?_)
  ·replace hq_7 := bt hq_7
   refine al_ro' (ro_move (up_m rfl (u2 rfl s1_6))) ⟨_, rfl, hb_7⟩ rfl ?_
   refine al_ro' (ro_eql up_h ev_c) ⟨_, rfl, (up_m rfl hb_7)⟩ rfl ?_
   refine ar (ro_pickT (u2 rfl hb_7) up_h) rfl <| ar (ro_move up_h) rfl <| al_case up_h (fun hb_8 hq_8 => ?_) (fun hb_8 hq_8 => ?_)
   ·replace hq_8 := bt hq_8
    refine al_ro' (ro_move (up_m rfl (u2 rfl (u4 rfl s4_6)))) ⟨_, rfl, hb_8⟩ rfl ?_
    refine al_ro' (ro_eql up_h ev_c) ⟨_, rfl, (up_m rfl hb_8)⟩ rfl ?_
    refine ar (ro_pickT (u2 rfl hb_8) up_h) rfl <| ar (ro_move up_h) rfl <| al_case up_h (fun hb_9 hq_9 => ?_) (fun hb_9 hq_9 => ?_)
    ·replace hq_9 := bt hq_9
     refine al_ro' (ro_move (up_m rfl (u2 rfl (u8 rfl s3_6)))) ⟨_, rfl, hb_9⟩ rfl ?_
     refine al_ro' (ro_eql up_h ev_c) ⟨_, rfl, (up_m rfl hb_9)⟩ rfl ?_
     refine ar (ro_pickT (u2 rfl hb_9) up_h) rfl <| ar (ro_move up_h) rfl <| al_case up_h (fun hb_10 hq_10 => ?_) (fun hb_10 hq_10 => ?_)
     ·replace hq_10 := bt hq_10
      refine al_ro' (ro_move (up_m rfl (u2 rfl (u4 rfl (u8 rfl s6_6))))) ⟨_, rfl, hb_10⟩ rfl ?_
      refine al_ro' (ro_eql up_h ev_c) ⟨_, rfl, (up_m rfl hb_10)⟩ rfl ?_
      refine ar (ro_pickT (u2 rfl hb_10) up_h) rfl <| ar (ro_move up_h) rfl <| al_case up_h (fun hb_11 hq_11 => ?_) (fun hb_11 hq_11 => ?_)
      ·replace hq_11 := bt hq_11
       refine al_ro' (ro_eq (ro_ld_ptr y27_ty39 rfl mo0_5 (up_m rfl (u2 rfl (u16 rfl s5_6))) (nle rfl)) (by simp only [pS, Value.cells, Nat.reduceAdd] <;> rfl)) ⟨_, rfl, hb_11⟩ rfl ?_
       refine al_ro' (ro_build (evP_cons ev_c (evP_cons ev_c evP_nil)) y27_bz39 y27_bu39 y27_bp39 rfl) ⟨_, rfl, (up_m rfl hb_11)⟩ rfl ?_
       refine al_ro' (ro_aeql (up_m rfl up_h) up_h (xs := [.int .i64 (-38), .int .i64 (-37)]) (ys := [.int .i64 (-38), .int .i64 (-37)]) (b := true) ⟨rfl, by kernel_rfl, fun _ => by kernel_rfl⟩) ⟨_, rfl, (u2 rfl hb_11)⟩ rfl ?_
       refine ar (ro_pickT (up_m rfl (u2 rfl hb_11)) up_h) rfl <| ar (ro_assign up_h) rfl <| ae1 up_h ?_; clear hb_10 hb_11 hb_7 hb_8 hb_9 s1_6 s2_6 s3_6 s4_6 s5_6 s6_6; intro e_12 s0_12
       refine then_n <| aw_ret <| ret1 (.inr rfl) (by kernel_rfl) (resV_tmp s0_12) (.ro _ rfl) ?_
       clear s0_12 mo0_5 ml_5
       rfl
      · replace hq_11 := bf hq_11; exfalso; omega
     · replace hq_10 := bf hq_10; exfalso; omega
    · replace hq_9 := bf hq_9; exfalso; omega
   · replace hq_8 := bf hq_8; exfalso; omega
  · replace hq_7 := bf hq_7; exfalso; omega
end Go.Proofs.Ytonjcljnpcmenaa

/- Contracts of chapter 1: the limit at a joint, all limits. No conditions on a program. -/
namespace Go.Proofs.Ytonjcljnpcmenaa
open Go Go.RowKit Go.Proofs
set_option linter.unusedSimpArgs false
set_option linter.unusedVariables false
theorem y47_az87 : (Try.prog.info? 87).bind (·.zero) = some (.agg #[.int .i64 0, .int .i64 0]) := by kernel_rfl
theorem y47_fl141_0 : FldIs Try.prog 141 0 0 true 4 := by unfold FldIs; kernel_rfl
theorem y47_fl26_1 : FldIs Try.prog 26 1 1 false 1 := by unfold FldIs; kernel_rfl
theorem y47_fl26_2 : FldIs Try.prog 26 2 2 false 1 := by unfold FldIs; kernel_rfl
theorem y47_fl87_0 : FldIs Try.prog 87 0 0 false 1 := by unfold FldIs; kernel_rfl
theorem y47_fl87_1 : FldIs Try.prog 87 1 1 false 1 := by unfold FldIs; kernel_rfl
theorem y47_hcf104 : ∀ args w, (callFunc 104 args).run Try.prog w = .ok (.enter 104 args) w := fun _ _ => by kernel_rfl
theorem y47_hcf137 : ∀ args w, (callFunc 137 args).run Try.prog w = .ok (.enter 137 args) w := fun _ _ => by kernel_rfl
theorem y47_hcf138 : ∀ args w, (callFunc 138 args).run Try.prog w = .ok (.enter 138 args) w := fun _ _ => by kernel_rfl
theorem y47_hcf139 : ∀ args w, (callFunc 139 args).run Try.prog w = .ok (.enter 139 args) w := fun _ _ => by kernel_rfl
theorem y47_hcf76 : ∀ args w, (callFunc 76 args).run Try.prog w = .ok (.enter 76 args) w := fun _ _ => by kernel_rfl
theorem y47_hcf77 : ∀ args w, (callFunc 77 args).run Try.prog w = .ok (.enter 77 args) w := fun _ _ => by kernel_rfl
theorem y47_hcf83 : ∀ args w, (callFunc 83 args).run Try.prog w = .ok (.enter 83 args) w := fun _ _ => by kernel_rfl
theorem y47_hcf85 : ∀ args w, (callFunc 85 args).run Try.prog w = .ok (.enter 85 args) w := fun _ _ => by kernel_rfl
theorem y47_sl185 : SlIs Try.prog 185 34 1 8 (.int .i64 0) := ⟨by kernel_rfl, by kernel_rfl, by kernel_rfl⟩
theorem y47_sl22 : SlIs Try.prog 22 70 4 32 (.agg #[.int .i64 0, .int .i64 0, .int .i64 0, .int .i64 0]) := ⟨by kernel_rfl, by kernel_rfl, by kernel_rfl⟩
theorem y47_sl23 : SlIs Try.prog 23 87 2 16 (.agg #[.int .i64 0, .int .i64 0]) := ⟨by kernel_rfl, by kernel_rfl, by kernel_rfl⟩
theorem y47_sl49 : SlIs Try.prog 49 3 1 8 (.int .i64 0) := ⟨by kernel_rfl, by kernel_rfl, by kernel_rfl⟩
theorem y47_sz87 : (Try.prog.info? 87).map (·.size) = some 2 := by kernel_rfl
theorem y47_ty22 : TyIs Try.prog 22 false 1 := ⟨by kernel_rfl, by kernel_rfl⟩
theorem y47_ty23 : TyIs Try.prog 23 false 1 := ⟨by kernel_rfl, by kernel_rfl⟩
theorem y47_ty26 : TyIs Try.prog 26 true 4 := ⟨by kernel_rfl, by kernel_rfl⟩
theorem y47_ty3 : TyIs Try.prog 3 false 1 := ⟨by kernel_rfl, by kernel_rfl⟩
theorem y47_ty87 : TyIs Try.prog 87 true 2 := ⟨by kernel_rfl, by kernel_rfl⟩

set_option maxRecDepth 100000 in
set_option maxHeartbeats 4000000 in
theorem div64_ok (hi lo y : Int) (hlo : InU64 lo) (hh : 1 ≤ hi ∧ hi < y) (hy : y < 4611686018427387904) : FnOk Try.prog 139 [uA hi, uA lo, uA y] (fun q => q = .tuple [uA ((hi * 18446744073709551616 + lo) / y), uA ((hi * 18446744073709551616 + lo) % y)]) := by
  obtain ⟨s, p, q2, Y, u, v, h⟩ := dv_of hlo hh hy
  obtain ⟨e1, e2, _⟩ := h.all
  rw [← e1, ← e2]
  exact div64_walk hi lo y s p q2 Y u v h
set_option maxRecDepth 100000 in
set_option maxHeartbeats 4000000 in
theorem limit_high (l : Lin) (h : Rgt l) (s : Int) (hs : 0 ≤ s ∧ s ≤ 5000) (j : Nat) (hj : 1 ≤ j ∧ j + 2 ≤ l.js.length) (hu : 18446744073709551616 ≤ limU l s j) : FnOk Try.prog 85 [tkA l, mA s, mA j] (fun q => q = mA (limV l s j)) := by
  refine fnOk_of (fn := Try.f85) 88 (by kernel_rfl) rfl (by kernel_rfl) (Nat.le_of_ble_eq_true rfl) ?_
  intro e_0 m_0 hA hm_0
  have s0_0 : evA e_0 (.tmp 0) = _ := hA 0 _ rfl
  have s1_0 : evA e_0 (.tmp 1) = _ := hA 1 _ rfl
  have s2_0 : evA e_0 (.tmp 2) = _ := hA 2 _ rfl
  have ml_0 : m_0.length = 0 := by rw [hm_0]; rfl
  clear hA hm_0
  have hn1 := h.n1; have hn0 := h.n0; have hjs := h.js; have b1 := h.bea (j - 1) (by omega); have b2 := h.bea j (by omega); obtain ⟨e1, e2, e3⟩ := ben_bd h hj; obtain ⟨e4, e5⟩ := hel_bd h hj hs
  refine aw_seq <| at_ <| ar (ro_assign ev_c) rfl <| ae3 (up_m rfl s0_0) (up_m rfl s1_0) (up_m rfl s2_0) ?_; clear s0_0 s1_0 s2_0; intro e_1 s0_1 s1_1 s2_1
  refine then_n <| aw_seq <| at_ <| ar (ro_move s0_1) rfl <| ar (ro_move (up_m rfl s2_1)) rfl <| ar (ro_call (evL_cons (up_m rfl up_h) (evL_cons up_h evL_nil)) rfl (bend_ok l h j hj) y47_hcf104) rfl <| ar (ro_move up_h) rfl <| ar (ro_extract up_h rfl) rfl <| ar (ro_extract (up_m rfl up_h) rfl) rfl <| ar (ro_assign (up_m rfl up_h)) rfl <| ar (ro_assign (up_m rfl up_h)) rfl <| ae5 (u8 rfl s0_1) (u8 rfl s1_1) (u8 rfl s2_1) (up_m rfl up_h) up_h ?_; clear s0_1 s1_1 s2_1; intro e_2 s0_2 s1_2 s2_2 s7_2 s8_2
  refine then_n <| aw_seq <| aw_seq <| at_ <| ar (ro_move s7_2) rfl <| ar (ro_eql up_h ev_c) rfl ?_
  refine ae6 (u2 rfl s0_2) (u2 rfl s1_2) (u2 rfl s2_2) (u2 rfl s7_2) (u2 rfl s8_2) up_h ?_; clear s0_2 s1_2 s2_2 s7_2 s8_2; intro e_3 s0_3 s1_3 s2_3 s7_3 s8_3 s24_3
  refine then_n <| aw_case s24_3 (fun hq_4 => ?_) (fun hq_4 => ?_)
  ·replace hq_4 := bt hq_4
   refine aw_seq <| at_ <| ar (ro_assign ev_c) rfl <| ae1 up_h ?_; clear s0_3 s1_3 s24_3 s2_3 s7_3 s8_3; intro e_5 s6_5
   refine then_n <| aw_ret <| then_r <| ret1 (.inr rfl) (by kernel_rfl) (resV_tmp s6_5) (.ro _ rfl) ?_
   clear s6_5  ml_0
   (rw [limV, if_pos (by assumption)])
  replace hq_4 := bf hq_4
  refine aw_skip <| then_n <| aw_seq <| aw_drawK 20 2 ml_0 (by kernel_rfl) (by kernel_rfl) (by kernel_rfl) (by kernel_rfl) (fun m_6 hm_6 => ?_)
  have mo0_6 : m_6[0]? = _ := m_room_g hm_6 ml_0 0 rfl rfl
  have mo1_6 : m_6[1]? = _ := m_room_g hm_6 ml_0 1 rfl rfl
  have ml_6 : _ = 2 := m_room_l (K := 2) hm_6 ml_0
  clear hm_6 ml_0
  refine dh_ro (fun M_ hM_ => (ro_move s0_3)) trivial ?_
  refine dh_ro (fun M_ hM_ => (ro_nilR up_h)) trivial ?_
  refine dh_ro (fun M_ hM_ => (ro_eq (ro_fld_ref y47_fl141_0 rfl up_h) (by simp only [pS, Value.cells, Nat.reduceAdd, jnE, beE, Int.toNat_natCast, toNat_suc, toNat_pre] <;> rfl))) trivial ?_
  refine dh_ro (fun M_ hM_ => (ro_eq (ro_fld_ref y47_fl26_2 rfl up_h) (by simp only [pS, Value.cells, Nat.reduceAdd, jnE, beE, Int.toNat_natCast, toNat_suc, toNat_pre] <;> rfl))) trivial ?_
  refine dh_ro (fun M_ hM_ => (ro_eq (ro_ld_ref y47_ty23 rfl up_h (nle rfl)) (by simp only [pS, Value.cells, Nat.reduceAdd, jnE, beE, Int.toNat_natCast, toNat_suc, toNat_pre] <;> rfl))) trivial ?_
  refine dh_ro (fun M_ hM_ => (ro_move (up_m rfl (u4 rfl s2_3)))) trivial ?_
  (refine dh_ro (fun M_ hM_ => (ro_sub' up_h ev_c ?_)) trivial ?_; · ((first | unfold In64 | unfold InU64); omega))
  refine dh_ro (fun M_ hM_ => (ro_eq (ro_ix y47_sl23 (u2 rfl up_h) up_h (by omega) (by first | (refine idx_map ?_; first | omega | (simp only [lnS]; omega)) | (refine idx_mapI ?_; first | omega | (simp only [lnS]; omega)) | (refine idx_mapN ?_; first | omega | (simp only [lnS]; omega)) | rfl)) (by simp only [pS, Value.cells, Nat.reduceAdd, jnE, beE, Int.toNat_natCast, toNat_suc, toNat_pre] <;> rfl))) trivial ?_
  refine dh_ro (fun M_ hM_ => (ro_eq (ro_ld_ref y47_ty87 rfl up_h (nle rfl)) (by simp only [pS, Value.cells, Nat.reduceAdd, jnE, beE, Int.toNat_natCast, toNat_suc, toNat_pre] <;> rfl))) trivial ?_
  refine dh_ro (fun M_ hM_ => (ro_move (up_m rfl (u8 rfl s0_3)))) trivial ?_
  refine dh_ro (fun M_ hM_ => (ro_nilR up_h)) trivial ?_
  refine dh_ro (fun M_ hM_ => (ro_eq (ro_fld_ref y47_fl141_0 rfl up_h) (by simp only [pS, Value.cells, Nat.reduceAdd, jnE, beE, Int.toNat_natCast, toNat_suc, toNat_pre] <;> rfl))) trivial ?_
  refine dh_ro (fun M_ hM_ => (ro_eq (ro_fld_ref y47_fl26_2 rfl up_h) (by simp only [pS, Value.cells, Nat.reduceAdd, jnE, beE, Int.toNat_natCast, toNat_suc, toNat_pre] <;> rfl))) trivial ?_
  refine dh_ro (fun M_ hM_ => (ro_eq (ro_ld_ref y47_ty23 rfl up_h (nle rfl)) (by simp only [pS, Value.cells, Nat.reduceAdd, jnE, beE, Int.toNat_natCast, toNat_suc, toNat_pre] <;> rfl))) trivial ?_
  refine dh_ro (fun M_ hM_ => (ro_move (u2 rfl (u4 rfl (u8 rfl s2_3))))) trivial ?_
  refine dh_ro (fun M_ hM_ => (ro_eq (ro_ix y47_sl23 (up_m rfl up_h) up_h (by omega) (by first | (refine idx_map ?_; first | omega | (simp only [lnS]; omega)) | (refine idx_mapI ?_; first | omega | (simp only [lnS]; omega)) | (refine idx_mapN ?_; first | omega | (simp only [lnS]; omega)) | rfl)) (by simp only [pS, Value.cells, Nat.reduceAdd, jnE, beE, Int.toNat_natCast, toNat_suc, toNat_pre] <;> rfl))) trivial ?_
  refine dh_ro (fun M_ hM_ => (ro_eq (ro_ld_ref y47_ty87 rfl up_h (nle rfl)) (by simp only [pS, Value.cells, Nat.reduceAdd, jnE, beE, Int.toNat_natCast, toNat_suc, toNat_pre] <;> rfl))) trivial ?_
  refine dh_nw (0) (fun M_ hM_ => (nw_alloc y47_az87 rfl)) trivial mo0_6 rfl trivial trivial (fun m_7 hm_7 => ?_)
  have mo0_7 := m_set hm_7 mo0_6
  simp only [pS, Value.cells, Nat.reduceAdd, jnE, beE, Int.toNat_natCast, toNat_suc, toNat_pre] at mo0_7
  have mo1_7 := m_set_o hm_7 mo1_6 (by decide)
  have ml_7 := m_set_l hm_7 ml_6
  clear hm_7 mo0_6 mo1_6
  refine dh_nw (1) (fun M_ hM_ => (nw_alloc y47_az87 rfl)) trivial mo1_7 rfl ⟨.inl (by simp <;> omega), trivial⟩ ⟨.inl (by simp <;> omega), trivial⟩ (fun m_8 hm_8 => ?_)
  have mo1_8 := m_set hm_8 mo1_7
  simp only [pS, Value.cells, Nat.reduceAdd, jnE, beE, Int.toNat_natCast, toNat_suc, toNat_pre] at mo1_8
  have mo0_8 := m_set_o hm_8 mo0_7 (by decide)
  have ml_8 := m_set_l hm_8 ml_7
  clear hm_8 mo0_7 mo1_7
  refine dh_set (0) (fun M_ hM_ => (se_store (up_m rfl up_h) (u2 rfl (u8 rfl up_h)) rfl rfl (agr hM_ mo0_8 (by simp)) y47_sz87 rfl (nle rfl))) trivial ⟨.inr (wt_one 19 17 (by kernel_rfl)), ⟨.inl (by simp <;> omega), trivial⟩⟩ ⟨.inr (wt_one 19 17 (by kernel_rfl)), ⟨.inl (by simp <;> omega), trivial⟩⟩ (fun m_9 hm_9 => ?_)
  have mo0_9 := m_set hm_9 mo0_8
  simp only [pS, Value.cells, Nat.reduceAdd, jnE, beE, Int.toNat_natCast, toNat_suc, toNat_pre] at mo0_9
  have mo1_9 := m_set_o hm_9 mo1_8 (by decide)
  have ml_9 := m_set_l hm_9 ml_8
  clear hm_9 mo1_8 mo0_8
  refine dh_nil rfl ?_
  refine al_stm (st_store (up_n up_h) (up_n (u2 rfl up_h)) rfl rfl mo1_9 y47_sz87 rfl (nle rfl)) trivial rfl (fun m_10 hm_10 => ?_)
  have mo1_10 := m_set hm_10 mo1_9
  simp only [pS, Value.cells, Nat.reduceAdd, jnE, beE, Int.toNat_natCast, toNat_suc, toNat_pre] at mo1_10
  have mo0_10 := m_set_o hm_10 mo0_9 (by decide)
  have ml_10 := m_set_l hm_10 ml_9
  clear hm_10 mo0_9 mo1_9
  refine ae5 (up_n (up_n (up_m rfl (u2 rfl (u16 rfl s1_3))))) (up_n (up_n (up_m rfl (u2 rfl (u16 rfl s7_3))))) (up_n (up_n (up_m rfl (u2 rfl (u16 rfl s8_3))))) (up_n (up_n (up_m rfl up_h))) (up_n (up_n up_h)) ?_; clear s0_3 s1_3 s24_3 s2_3 s7_3 s8_3; intro e_11 s1_11 s7_11 s8_11 s9_11 s10_11
  refine then_n <| aw_seq <| at_ <| ar (ro_assign ev_c) rfl <| ae6 (up_m rfl s1_11) (up_m rfl s7_11) (up_m rfl s8_11) (up_m rfl s9_11) (up_m rfl s10_11) up_h ?_; clear s10_11 s1_11 s7_11 s8_11 s9_11; intro e_12 s1_12 s7_12 s8_12 s9_12 s10_12 s11_12
  refine then_n <| aw_seq <| aw_draw 14 (by kernel_rfl) (by kernel_rfl) (by kernel_rfl) (by kernel_rfl) ?_
  refine dr (ro_move s11_12) rfl <| dr (ro_move (up_m rfl s1_12)) rfl ?_
  (refine dr (ro_mul' (up_m rfl up_h) up_h ?_) rfl ?_; · ((first | unfold In64 | unfold InU64); omega))
  refine dr (ro_move (up_m rfl (u2 rfl s7_12))) rfl <| dr (ro_call (evL_cons up_h (evL_cons ev_c evL_nil)) rfl ((compare_ok _ _).mono (fun q h => show q = mA (sgnV (benN l j)) from h)) y47_hcf137) rfl ?_
  refine dr (ro_fld_ptr y47_fl87_1 rfl (up_m rfl (u4 rfl s9_12))) rfl <| dr (ro_eq (ro_ld_ptr y47_ty3 rfl mo0_10 up_h (nle rfl)) (by simp only [pS, Value.cells, Nat.reduceAdd, jnE, beE, Int.toNat_natCast, toNat_suc, toNat_pre] <;> rfl)) rfl ?_
  refine dr (ro_fld_ptr y47_fl87_1 rfl (up_m rfl (u2 rfl (u4 rfl s10_12)))) rfl <| dr (ro_eq (ro_ld_ptr y47_ty3 rfl mo1_10 up_h (nle rfl)) (by simp only [pS, Value.cells, Nat.reduceAdd, jnE, beE, Int.toNat_natCast, toNat_suc, toNat_pre] <;> rfl)) rfl ?_
  (refine dr (ro_add' (u2 rfl up_h) up_h ?_) rfl ?_; · ((first | unfold In64 | unfold InU64); omega))
  (refine dr (ro_mul' (up_m rfl (u4 rfl up_h)) up_h ?_) rfl ?_; · ((first | unfold In64 | unfold InU64); omega))
  (refine dr (ro_mul' up_h ev_c ?_) rfl ?_; · ((first | unfold In64 | unfold InU64); omega))
  (refine dr (ro_add' (up_m rfl (u8 rfl up_h)) up_h ?_) rfl ?_; · ((first | unfold In64 | unfold InU64); omega))
  refine dr (ro_assign up_h) rfl <| ds_nil <| ae6 (u2 rfl (u4 rfl (u8 rfl s7_12))) (u2 rfl (u4 rfl (u8 rfl s8_12))) (u2 rfl (u4 rfl (u8 rfl s9_12))) (u2 rfl (u4 rfl (u8 rfl s10_12))) (u2 rfl (u4 rfl (u8 rfl s11_12))) up_h ?_; clear s10_12 s11_12 s1_12 s7_12 s8_12 s9_12; intro e_13 s7_13 s8_13 s9_13 s10_13 s11_13 s12_13
  refine then_n <| aw_seq <| aw_seq <| at_ <| ar (ro_move s12_13) rfl <| ar (ro_lss up_h ev_c) rfl <| ae7 (u2 rfl s7_13) (u2 rfl s8_13) (u2 rfl s9_13) (u2 rfl s10_13) (u2 rfl s11_13) (u2 rfl s12_13) up_h ?_; clear s10_13 s11_13 s12_13 s7_13 s8_13 s9_13; intro e_14 s7_14 s8_14 s9_14 s10_14 s11_14 s12_14 s56_14
  refine then_n <| aw_case s56_14 (fun hq_15 => ?_) (fun hq_15 => ?_)
  ·replace hq_15 := bt hq_15
   refine aw_seq <| at_ <| ar (ro_assign ev_c) rfl <| ae1 up_h ?_; clear s10_14 s11_14 s12_14 s56_14 s7_14 s8_14 s9_14; intro e_16 s6_16
   refine then_n <| aw_ret <| then_r <| ret1 (.inr rfl) (by kernel_rfl) (resV_tmp s6_16) (.ro _ rfl) ?_
   clear s6_16 mo1_10 mo0_10 ml_10
   (rw [limV, if_neg (by assumption), if_pos (by assumption)])
  replace hq_15 := bf hq_15
  (have hh : 0 ≤ (2000 * s + sgnV (benN l j) * ((l.bs.getD (j - 1) default).cant + (l.bs.getD j default).cant) * 9810) := (by omega); have m1 := mul_in (x := (2000 * s + sgnV (benN l j) * ((l.bs.getD (j - 1) default).cant + (l.bs.getD j default).cant) * 9810)) (y := ((l.bs.getD (j - 1) default).len + (l.bs.getD j default).len)) 15886000 60000 e5 (by omega); have n1 := Int.mul_nonneg hh (show 0 ≤ ((l.bs.getD (j - 1) default).len + (l.bs.getD j default).len) by omega); have vv1 : InU64 ((2000 * s + sgnV (benN l j) * ((l.bs.getD (j - 1) default).cant + (l.bs.getD j default).cant) * 9810) * ((l.bs.getD (j - 1) default).len + (l.bs.getD j default).len)) := ⟨n1, by omega⟩; have vv2 : InU64 (benD l j) := ⟨by omega, by omega⟩; have m2 := mul_in (x := ((2000 * s + sgnV (benN l j) * ((l.bs.getD (j - 1) default).cant + (l.bs.getD j default).cant) * 9810) * ((l.bs.getD (j - 1) default).len + (l.bs.getD j default).len))) (y := benD l j) 953160000000 900000000 (by omega) (by omega); have hu2 : 18446744073709551616 ≤ (((2000 * s + sgnV (benN l j) * ((l.bs.getD (j - 1) default).cant + (l.bs.getD j default).cant) * 9810) * ((l.bs.getD (j - 1) default).len + (l.bs.getD j default).len)) * benD l j) := hu; have vv3 : InU64 ((((2000 * s + sgnV (benN l j) * ((l.bs.getD (j - 1) default).cant + (l.bs.getD j default).cant) * 9810) * ((l.bs.getD (j - 1) default).len + (l.bs.getD j default).len)) * benD l j) % 18446744073709551616) := ⟨by omega, by omega⟩; have vv4 : InU64 (2 * 2000 * max (benN l j) (-benN l j)) := ⟨by omega, by omega⟩; have dv := div64_ok ((((2000 * s + sgnV (benN l j) * ((l.bs.getD (j - 1) default).cant + (l.bs.getD j default).cant) * 9810) * ((l.bs.getD (j - 1) default).len + (l.bs.getD j default).len)) * benD l j) / 18446744073709551616) ((((2000 * s + sgnV (benN l j) * ((l.bs.getD (j - 1) default).cant + (l.bs.getD j default).cant) * 9810) * ((l.bs.getD (j - 1) default).len + (l.bs.getD j default).len)) * benD l j) % 18446744073709551616) (2 * 2000 * max (benN l j) (-benN l j)) vv3 (by omega) (by omega); rw [show (((2000 * s + sgnV (benN l j) * ((l.bs.getD (j - 1) default).cant + (l.bs.getD j default).cant) * 9810) * ((l.bs.getD (j - 1) default).len + (l.bs.getD j default).len)) * benD l j) / 18446744073709551616 * 18446744073709551616 + (((2000 * s + sgnV (benN l j) * ((l.bs.getD (j - 1) default).cant + (l.bs.getD j default).cant) * 9810) * ((l.bs.getD (j - 1) default).len + (l.bs.getD j default).len)) * benD l j) % 18446744073709551616 = (((2000 * s + sgnV (benN l j) * ((l.bs.getD (j - 1) default).cant + (l.bs.getD j default).cant) * 9810) * ((l.bs.getD (j - 1) default).len + (l.bs.getD j default).len)) * benD l j) by omega] at dv; have vv6 := Int.ediv_nonneg (show 0 ≤ (((2000 * s + sgnV (benN l j) * ((l.bs.getD (j - 1) default).cant + (l.bs.getD j default).cant) * 9810) * ((l.bs.getD (j - 1) default).len + (l.bs.getD j default).len)) * benD l j) by omega) (show 0 ≤ (2 * 2000 * max (benN l j) (-benN l j)) by omega); have vv7 := Int.emod_nonneg ((((2000 * s + sgnV (benN l j) * ((l.bs.getD (j - 1) default).cant + (l.bs.getD j default).cant) * 9810) * ((l.bs.getD (j - 1) default).len + (l.bs.getD j default).len)) * benD l j)) (show (2 * 2000 * max (benN l j) (-benN l j)) ≠ 0 by omega); unfold InU64 at vv1 vv2 vv4; have vv5 : 0 < (2 * 2000 * max (benN l j) (-benN l j)) := (by omega))
  refine aw_skip <| then_n <| aw_seq <| at_ <| ar (ro_move s12_14) rfl <| ar (ro_fld_ptr y47_fl87_0 rfl (up_m rfl s9_14)) rfl <| ar (ro_eq (ro_ld_ptr y47_ty3 rfl mo0_10 up_h (nle rfl)) (by simp only [pS, Value.cells, Nat.reduceAdd, jnE, beE, Int.toNat_natCast, toNat_suc, toNat_pre] <;> rfl)) rfl ?_
  refine ar (ro_fld_ptr y47_fl87_0 rfl (up_m rfl (u2 rfl s10_14))) rfl <| ar (ro_eq (ro_ld_ptr y47_ty3 rfl mo1_10 up_h (nle rfl)) (by simp only [pS, Value.cells, Nat.reduceAdd, jnE, beE, Int.toNat_natCast, toNat_suc, toNat_pre] <;> rfl)) rfl ?_
  (refine ar (ro_add' (u2 rfl up_h) up_h ?_) rfl ?_; · ((first | unfold In64 | unfold InU64); omega))
  (refine ar (ro_mul' (up_m rfl (u4 rfl up_h)) up_h ?_) rfl ?_; · ((first | unfold In64 | unfold InU64); omega))
  (refine ar (ro_cvU up_h (by kernel_rfl) (by kernel_rfl) ?_) rfl ?_; · ((first | unfold In64 | unfold InU64); omega))
  refine ar (ro_move (u8 rfl s8_14)) rfl ?_
  (refine ar (ro_cvU up_h (by kernel_rfl) (by kernel_rfl) ?_) rfl ?_; · ((first | unfold In64 | unfold InU64); omega))
  refine ar (ro_call (evL_cons (u2 rfl up_h) (evL_cons up_h evL_nil)) rfl (mul64_ok _ _ vv1 vv2) y47_hcf138) rfl <| ar (ro_move up_h) rfl <| ar (ro_extract up_h rfl) rfl <| ar (ro_extract (up_m rfl up_h) rfl) rfl <| ar (ro_assign (up_m rfl up_h)) rfl <| ar (ro_assign (up_m rfl up_h)) rfl <| ae4 (u16 rfl s7_14) (u16 rfl s11_14) (up_m rfl up_h) up_h ?_; clear s10_14 s11_14 s12_14 s56_14 s7_14 s8_14 s9_14; intro e_17 s7_17 s11_17 s13_17 s14_17
  refine then_n <| aw_seq <| at_ <| ar (ro_move s13_17) rfl <| ar (ro_move (up_m rfl s14_17)) rfl <| ar (ro_move (u2 rfl s11_17)) rfl ?_
  (refine ar (ro_mul' ev_c up_h ?_) rfl ?_; · ((first | unfold In64 | unfold InU64); omega))
  refine ar (ro_move (u4 rfl s7_17)) rfl <| ar (ro_move (up_m rfl (u4 rfl s7_17))) rfl ?_
  (refine ar (ro_neg' up_h ?_) rfl ?_; · ((first | unfold In64 | unfold InU64); omega))
  refine ar (ro_max (u2 rfl up_h) up_h) rfl ?_
  (refine ar (ro_mul' (u4 rfl up_h) up_h ?_) rfl ?_; · ((first | unfold In64 | unfold InU64); omega))
  (refine ar (ro_cvU up_h (by kernel_rfl) (by kernel_rfl) ?_) rfl ?_; · ((first | unfold In64 | unfold InU64); omega))
  refine ar (ro_call (evL_cons (up_m rfl (u8 rfl up_h)) (evL_cons (u8 rfl up_h) (evL_cons up_h evL_nil))) rfl (dv) y47_hcf139) rfl <| ar (ro_move up_h) rfl <| ar (ro_extract up_h rfl) rfl <| ar (ro_extract (up_m rfl up_h) rfl) rfl <| ar (ro_assign (up_m rfl up_h)) rfl <| ar (ro_assign (up_m rfl up_h)) rfl <| ae1 (up_m rfl up_h) ?_; clear s11_17 s13_17 s14_17 s7_17; intro e_18 s15_18
  refine then_n <| aw_seq <| at_ <| ar (ro_move s15_18) rfl <| ar (ro_min up_h ev_c) rfl ?_
  (refine ar (ro_cvI up_h (by kernel_rfl) (by kernel_rfl) ?_) rfl ?_; · ((first | unfold In64 | unfold InU64); omega))
  refine ar (ro_assign up_h) rfl <| ae1 up_h ?_; clear s15_18; intro e_19 s6_19
  refine then_n <| aw_ret <| ret1 (.inr rfl) (by kernel_rfl) (resV_tmp s6_19) (.ro _ rfl) ?_
  clear s6_19 mo1_10 mo0_10 ml_10
  (rw [limV, if_neg (by assumption), if_neg (by assumption)]; rfl)
theorem limit_ok (l : Lin) (h : Rgt l) (s : Int) (hs : 0 ≤ s ∧ s ≤ 5000) (j : Nat) (hj : 1 ≤ j ∧ j + 2 ≤ l.js.length) : FnOk Try.prog 85 [tkA l, mA s, mA j] (fun q => q = mA (limV l s j)) := by
  by_cases hu : limU l s j < 18446744073709551616
  · exact limit_low l h s hs j hj hu
  · exact limit_high l h s hs j hj (by omega)
/-- The limits at the first inner joints. -/
def limL (l : Lin) (s : Int) (n : Nat) : List Int := (List.range n).map fun (i : Nat) => limV l s (i + 1)
theorem limL_len (l : Lin) (s : Int) (n : Nat) : (limL l s n).length = n := by simp [limL]
theorem limL_succ (l : Lin) (s : Int) (n : Nat) : limL l s (n + 1) = limL l s n ++ [limV l s (n + 1)] := by simp [limL, List.range_succ]
theorem limL_at (l : Lin) (s : Int) {n i : Nat} (h : i < n) : (limL l s n).getD i default = limV l s (i + 1) := by simp [limL, List.getD_eq_getElem?_getD, h]
set_option maxRecDepth 100000 in
set_option maxHeartbeats 4000000 in
theorem limitsOf_good (l : Lin) (hl : Sho l) (hg : (linM l).2 = 0) (sd : Int) (hs : sidE sd = 0) : FnOk Try.prog 24 [lnA l, mA sd] (fun q => q = .tuple [.row 1 ((limL l sd (l.js.length - 2)).map iE), mA 0]) := by
  refine fnOk_of (fn := Try.f24) 42 (by kernel_rfl) rfl (by kernel_rfl) (Nat.le_of_ble_eq_true rfl) ?_
  intro e_0 m_0 hA hm_0
  have s0_0 : evA e_0 (.tmp 0) = _ := hA 0 _ rfl
  have s1_0 : evA e_0 (.tmp 1) = _ := hA 1 _ rfl
  have ml_0 : m_0.length = 0 := by rw [hm_0]; rfl
  clear hA hm_0
  have h := rgt_of hg; have hn1 := h.n1; have hn0 := h.n0; have hjs := h.js; have hs2 := sidE_z.1 hs
  refine aw_seq <| at_ <| al_stm (st_box s0_0 rfl ml_0) trivial rfl (fun m_1 hm_1 => ?_)
  have mo0_1 := m_push hm_1 ml_0
  have ml_1 := m_push_l hm_1 ml_0
  have ml_1 : _ = 1 := ml_1
  clear hm_1
  refine ar (ro_assign ev_c) rfl <| ar (ro_assign ev_c) rfl <| ae2 (up_m rfl (u2 rfl s1_0)) (u2 rfl up_h) ?_; clear s0_0 s1_0; intro e_2 s1_2 s2_2
  refine then_n <| aw_seq <| at_ <| ar (ro_eq (ro_ld_ptr y47_ty26 rfl mo0_1 s2_2 (nle rfl)) (by simp only [pS, Value.cells, Nat.reduceAdd, one_iE, app_m] <;> rfl)) rfl ?_
  refine ar (ro_call (evL_cons up_h evL_nil) rfl (yOpen_good l hl hg) y47_hcf76) rfl <| ar (ro_move up_h) rfl <| ar (ro_extract up_h rfl) rfl <| ar (ro_extract (up_m rfl up_h) rfl) rfl <| ar (ro_assign (up_m rfl up_h)) rfl <| ar (ro_assign (up_m rfl up_h)) rfl <| ae3 (up_m rfl (u2 rfl (u4 rfl s1_2))) (up_m rfl up_h) up_h ?_; clear s1_2 s2_2; intro e_3 s1_3 s6_3 s7_3
  refine then_n <| aw_seq <| aw_seq <| at_ <| ar (ro_move s7_3) rfl <| ar (ro_move (up_m rfl s1_3)) rfl <| ar (ro_call (evL_cons up_h evL_nil) rfl (sideErr_ok _) y47_hcf83) rfl <| ar (ro_lit y47_sl185 (evP_cons (u2 rfl up_h) (evP_cons up_h evP_nil)) rfl rfl rfl rfl) rfl <| ar (ro_call (evL_cons up_h evL_nil) rfl ((yFirst_ok [_, _] (by simp)).mono (fun q h => h.trans (show mA (firstE [0, unlessE (withinB sd 0 5000) 2]) = mA (sidE sd) from congrArg mA (firstE_0 _)))) y47_hcf77) rfl ?_
  refine ar (ro_assign up_h) rfl <| ae3 (u2 rfl (u4 rfl s1_3)) (u2 rfl (u4 rfl s6_3)) up_h ?_; clear s1_3 s6_3 s7_3; intro e_4 s1_4 s6_4 s7_4
  refine then_n <| aw_seq <| at_ <| ar (ro_move s7_4) rfl <| ar (ro_neq up_h ev_c) rfl <| ae4 (u2 rfl s1_4) (u2 rfl s6_4) (u2 rfl s7_4) up_h ?_; clear s1_4 s6_4 s7_4; intro e_5 s1_5 s6_5 s7_5 s21_5
  refine then_n <| aw_case s21_5 (fun hq_6 => ?_) (fun hq_6 => ?_)
  · replace hq_6 := bnt hq_6; exfalso; omega
  replace hq_6 := bnf hq_6
  refine aw_skip <| then_n <| aw_seq <| at_ <| ar (ro_assign ev_c) rfl <| ae3 (up_m rfl s1_5) (up_m rfl s6_5) up_h ?_; clear s1_5 s21_5 s6_5 s7_5; intro e_7 s1_7 s6_7 s8_7
  refine then_n <| aw_seq <| aw_seq <| at_ <| ar (ro_assign ev_c) rfl <| ae4 (up_m rfl s1_7) (up_m rfl s6_7) (up_m rfl s8_7) up_h ?_; clear s1_7 s6_7 s8_7; intro e_8 s1_8 s6_8 s8_8 s9_8
  refine then_n <| aw_block <| aw_adopt 3 1 s8_8 ml_1 (fun m_9 e_9 hm_9 he_9 => ?_)
  have mo1_9 := m_push hm_9 ml_1
  have mo0_9 := m_push_o hm_9 mo0_1
  have ml_9 := m_push_l hm_9 ml_1
  have ml_9 : _ = 2 := ml_9
  have s1_9 : evA e_9 (.tmp 1) = _ := (congrArg (fun q => evA q (.tmp 1)) he_9).trans (up_m rfl s1_8)
  have s6_9 : evA e_9 (.tmp 6) = _ := (congrArg (fun q => evA q (.tmp 6)) he_9).trans (up_m rfl s6_8)
  have s8_9 : evA e_9 (.tmp 8) = _ := (congrArg (fun q => evA q (.tmp 8)) he_9).trans up_h
  have s9_9 : evA e_9 (.tmp 9) = _ := (congrArg (fun q => evA q (.tmp 9)) he_9).trans (up_m rfl s9_8)
  clear hm_9 he_9
  refine aw_loop (S := (Int × List Int)) (fun s e mem => match s with | ⟨k, xs⟩ => (evA e (.tmp 9) = .v (.int .i64 k)) ∧ (evA e (.tmp 1) = evA e_9 (.tmp 1)) ∧ (evA e (.tmp 6) = evA e_9 (.tmp 6)) ∧ (mem[0]? = m_9[0]?) ∧ (∃ j, evA e (.tmp 8) = .own j ∧ mem[j]? = some (.row 3 1 (xs.map iE)) ∧ j ≠ 0) ∧ (∃ n, mem.length = n ∧ 2 ≤ n) ∧ ((1 ≤ k ∧ k + 1 ≤ l.js.length ∧ xs = limL l sd (k.toNat - 1)))) (fun s => match s with | ⟨k, xs⟩ => (l.js.length - k).toNat) ⟨_, []⟩ ⟨s9_9, rfl, rfl, rfl, ⟨_, s8_9, mo1_9, (by decide)⟩, ⟨_, ml_9, Nat.le_refl _⟩, ?_⟩ ?_
  · (exact ⟨by omega, by omega, rfl⟩)
  · rintro ⟨k, xs⟩ e_10 m_10 ⟨s9_10, k1_10, k6_10, mk0_10, ⟨j8_10, s8_10, mo_j8_10, nj8_0_10⟩, ⟨n_10, ml_10, hn_10⟩, hinv⟩
    have s1_10 := k1_10.trans s1_9
    have s6_10 := k6_10.trans s6_9
    have mo0_10 := mk0_10.trans mo0_9
    have jl8_10 := m_lt mo_j8_10 ml_10
    (obtain ⟨p1, p2, p3⟩ := hinv; have hxl : xs.length = k.toNat - 1 := (by rw [p3, limL_len]))
    refine aw_seq <| aw_seq <| at_ <| ar (ro_move s9_10) rfl <| ar (ro_move (up_m rfl s6_10)) rfl <| ar (ro_nilR up_h) rfl <| ar (ro_eq (ro_fld_ref y47_fl141_0 rfl up_h) (by simp only [pS, Value.cells, Nat.reduceAdd, one_iE, app_m] <;> rfl)) rfl ?_
    refine ar (ro_eq (ro_fld_ref y47_fl26_1 rfl up_h) (by simp only [pS, Value.cells, Nat.reduceAdd, one_iE, app_m] <;> rfl)) rfl ?_
    refine ar (ro_eq (ro_ld_ref y47_ty22 rfl up_h (nle rfl)) (by simp only [pS, Value.cells, Nat.reduceAdd, one_iE, app_m] <;> rfl)) rfl ?_
    refine ar (ro_eq (ro_len_row up_h rfl y47_sl22.1) (by simp only [lnS] <;> rfl)) rfl ?_
    (refine ar (ro_sub' up_h ev_c ?_) rfl ?_; · (unfold In64; omega))
    refine ar (ro_lss (up_m rfl (u2 rfl (u4 rfl up_h))) up_h) rfl <| ae5 (up_m rfl (u8 rfl s1_10)) (up_m rfl (u8 rfl s6_10)) (up_m rfl (u8 rfl s8_10)) (up_m rfl (u8 rfl s9_10)) up_h ?_; clear s1_10 s6_10 s8_10 s9_10; intro e_11 s1_11 s6_11 s8_11 s9_11 s31_11
    refine then_n <| aw_case s31_11 (fun hq_12 => ?_) (fun hq_12 => ?_)
    ·replace hq_12 := bt hq_12
     (have lm := limit_ok l h sd hs2 k.toNat (by omega); rw [show ((k.toNat : Nat) : Int) = k by omega] at lm)
     refine aw_skip <| then_n <| aw_seq <| aw_block <| at_ <| ar (ro_move s8_11) rfl <| ar (ro_move (up_m rfl s6_11)) rfl <| ar (ro_move (u2 rfl s1_11)) rfl <| ar (ro_move (up_m rfl (u2 rfl s9_11))) rfl <| ar (ro_call (evL_cons (u2 rfl up_h) (evL_cons (up_m rfl up_h) (evL_cons up_h evL_nil))) rfl (lm) y47_hcf85) rfl <| ar (ro_lit y47_sl49 (evP_cons up_h evP_nil) rfl rfl rfl rfl) rfl <| al_stm (st_app y47_sl49 rfl ml_10 mo_j8_10 (up_m rfl (u4 rfl up_h)) up_h (by rfl) (by simp only [lnS] <;> omega)) trivial rfl (fun m_13 hm_13 => ?_)
     have mon_10_13 := m_swap hm_13 ml_10
     simp only [pS, Value.cells, Nat.reduceAdd, one_iE, app_m] at mon_10_13
     have mo0_13 := m_swap_o hm_13 mo0_10 (by omega)
     have ml_13 := m_swap_l hm_13 ml_10
     clear hm_13 mo0_10 mo_j8_10
     refine ar (ro_assign up_h) rfl <| ae4 (u8 rfl s1_11) (u8 rfl s6_11) up_h (u8 rfl s9_11) ?_; clear s1_11 s31_11 s6_11 s8_11 s9_11; intro e_14 s1_14 s6_14 s8_14 s9_14
     refine block_n <| then_n <| at_ <| ar (ro_move s9_14) rfl ?_
     (refine ar (ro_add' up_h ev_c ?_) rfl ?_; · (unfold In64; omega))
     refine ar (ro_assign up_h) rfl <| ae4 (up_m rfl (u2 rfl s1_14)) (up_m rfl (u2 rfl s6_14)) (up_m rfl (u2 rfl s8_14)) up_h ?_; clear s1_14 s6_14 s8_14 s9_14; intro e_15 s1_15 s6_15 s8_15 s9_15
     refine then_n <| ⟨⟨_, _⟩, ⟨s9_15, (s1_15.trans s1_9.symm), (s6_15.trans s6_9.symm), (mo0_13.trans mo0_9.symm), ⟨_, s8_15, mon_10_13, (by omega)⟩, ⟨_, ml_13, by omega⟩, ?_⟩, ?_⟩
     · (refine ⟨by omega, by omega, ?_⟩; rw [show (k + 1).toNat - 1 = (k.toNat - 1) + 1 by omega, limL_succ, ← p3, show k.toNat - 1 + 1 = k.toNat by omega])
     · ((try dsimp only); omega)
    replace hq_12 := bf hq_12
    (have hx : xs = limL l sd (l.js.length - 2) := (by rw [p3]; congr 1; omega); clear p3; subst hx)
    refine aw_exit <| then_x <| then_x <| block_hit <| then_n <| aw_seq <| at_ <| ar (ro_move s8_11) rfl <| ar (ro_assign up_h) rfl <| ar (ro_assign ev_c) rfl <| ae2 (up_m rfl up_h) up_h ?_; clear s1_11 s31_11 s6_11 s8_11 s9_11; intro e_16 s4_16 s5_16
    refine then_n <| aw_ret <| ret2 (.inr rfl) (by kernel_rfl) (resV_tmp s4_16) (resV_tmp s5_16) (.own _ _ _ _ mo_j8_10) (.ro _ rfl) ?_
    clear s4_16 s5_16 mo0_10 mo_j8_10 ml_10
    rfl
end Go.Proofs.Ytonjcljnpcmenaa

/- Plain: numbers as digits to the base 10^9. No program in sight. -/
namespace Go.Proofs.Ytonjcljnpcmenaa
open Go Go.RowKit Go.Proofs
set_option linter.unusedSimpArgs false
set_option linter.unusedVariables false

def valD : List Int → Int
  | [] => 0
  | d :: ds => d + 1000000000 * valD ds
def GD (ds : List Int) : Prop := ∀ d ∈ ds, 0 ≤ d ∧ d < 1000000000
def digN (n : Nat) : List Int := if h : n = 0 then [] else ((n % 1000000000 : Nat) : Int) :: digN (n / 1000000000)
termination_by n
decreasing_by omega
theorem digN_0 : digN 0 = [] := by rw [digN]; simp
theorem digN_s {n : Nat} (h : n ≠ 0) : digN n = ((n % 1000000000 : Nat) : Int) :: digN (n / 1000000000) := by rw [digN]; simp [h]
theorem digN_val : ∀ n : Nat, valD (digN n) = n := by
  intro n
  induction n using Nat.strongRecOn with
  | ind n ih =>
    by_cases h : n = 0
    · subst h; rw [digN_0]; rfl
    · rw [digN_s h, valD, ih _ (by omega)]; omega
theorem digN_gd : ∀ n : Nat, GD (digN n) := by
  intro n
  induction n using Nat.strongRecOn with
  | ind n ih =>
    by_cases h : n = 0
    · subst h; rw [digN_0]; intro d hd; cases hd
    · rw [digN_s h]
      intro d hd
      rcases List.mem_cons.1 hd with rfl | hd
      · omega
      · exact ih _ (by omega) d hd
theorem digN_nil {n : Nat} : (digN n).length = 0 ↔ n = 0 := by
  constructor
  · intro h
    by_cases h0 : n = 0
    · exact h0
    · rw [digN_s h0] at h; simp at h
  · rintro rfl; rw [digN_0]; rfl
theorem GD.tail {d : Int} {ds : List Int} (h : GD (d :: ds)) : GD ds := fun x hx => h x (List.mem_cons_of_mem _ hx)
theorem valD_nn : ∀ {ds : List Int}, GD ds → 0 ≤ valD ds
  | [], _ => by decide
  | d :: ds, h => by have := valD_nn h.tail; have := h d (List.mem_cons_self ..); rw [valD]; omega
theorem digN_canon : ∀ {ds : List Int}, GD ds → (∀ h : ds ≠ [], ds.getLast h ≠ 0) → digN (valD ds).toNat = ds
  | [], _, _ => by simp [valD, digN_0]
  | d :: ds, h, hl => by
    have h1 := valD_nn h.tail
    have h2 := h d (List.mem_cons_self ..)
    have ih : digN (valD ds).toNat = ds := digN_canon h.tail fun hn => by have := hl (List.cons_ne_nil _ _); rwa [List.getLast_cons hn] at this
    have hp : (valD (d :: ds)).toNat ≠ 0 := by
      rw [valD]
      by_cases hd : ds = []
      · subst hd
        have := hl (List.cons_ne_nil _ _)
        simp at this
        rw [valD]; omega
      · have : (valD ds).toNat ≠ 0 := fun h0 => by rw [h0, digN_0] at ih; exact hd ih.symm
        omega
    rw [digN_s hp, show (valD (d :: ds)).toNat / 1000000000 = (valD ds).toNat by rw [valD]; omega, ih, show (((valD (d :: ds)).toNat % 1000000000 : Nat) : Int) = d by rw [valD]; omega]
theorem valD_app : ∀ (a b : List Int), valD (a ++ b) = valD a + 1000000000 ^ a.length * valD b
  | [], b => by simp [valD]
  | d :: a, b => by
    rw [List.cons_append, valD, valD, valD_app a b, List.length_cons, Int.pow_succ, Int.mul_add, ← Int.mul_assoc, Int.mul_comm (1000000000 ^ a.length) 1000000000]
    omega
theorem valD_zero : ∀ {ds : List Int}, (∀ d ∈ ds, d = 0) → valD ds = 0
  | [], _ => rfl
  | d :: ds, h => by rw [valD, h d (List.mem_cons_self ..), valD_zero fun x hx => h x (List.mem_cons_of_mem _ hx)]; rfl
theorem GD.at {ds : List Int} (h : GD ds) (i : Nat) : 0 ≤ ds.getD i default ∧ ds.getD i default < 1000000000 := by
  rw [List.getD_eq_getElem?_getD]
  by_cases hi : i < ds.length
  · rw [List.getElem?_eq_getElem hi]; exact h _ (List.getElem_mem hi)
  · rw [List.getElem?_eq_none (by omega)]; exact ⟨by decide, by decide⟩
theorem GD.take {ds : List Int} (h : GD ds) (n : Nat) : GD (ds.take n) := fun d hd => h d (List.mem_of_mem_take hd)
theorem GD.set {ds : List Int} (h : GD ds) (n : Nat) {v : Int} (hv : 0 ≤ v ∧ v < 1000000000) : GD (ds.set n v) := fun d hd => by
  rcases List.mem_or_eq_of_mem_set hd with hd | rfl
  · exact h d hd
  · exact hv
theorem GD.app {a b : List Int} (h : GD a) (k : GD b) : GD (a ++ b) := fun d hd => (List.mem_append.1 hd).elim (h d) (k d)
theorem GD.one {v : Int} (hv : 0 ≤ v ∧ v < 1000000000) : GD [v] := fun d hd => by rw [List.mem_singleton.1 hd]; exact hv
theorem GD.nil : GD [] := fun d hd => by cases hd
theorem GD.rep (n : Nat) : GD (List.replicate n 0) := fun d hd => by rw [(List.mem_replicate.1 hd).2]; exact ⟨by decide, by decide⟩
/-- Without noughts at the end. -/
theorem trim_fin {ds : List Int} (h : GD ds) {n : Nat} (hn : n ≤ ds.length) (hz : ∀ k : Nat, n ≤ k → k < ds.length → ds.getD k default = 0) (he : n = 0 ∨ ds.getD (n - 1) default ≠ 0) : ds.take n = digN (valD ds).toNat := by
  have e1 : valD ds = valD (ds.take n) := by
    have h0 : valD (ds.drop n) = 0 := valD_zero fun d hd => by
      obtain ⟨k, hk, rfl⟩ := List.mem_iff_getElem.1 hd
      rw [List.length_drop] at hk
      have := hz (n + k) (by omega) (by omega)
      rw [List.getD_eq_getElem?_getD, List.getElem?_eq_getElem (by omega)] at this
      rw [List.getElem_drop]; exact this
    have := valD_app (ds.take n) (ds.drop n)
    rw [List.take_append_drop, h0, Int.mul_zero, Int.add_zero] at this
    exact this
  rw [e1, digN_canon (h.take n)]
  intro hne hl
  have hn0 : n ≠ 0 := fun q => hne (by rw [q]; rfl)
  rcases he with he | he
  · exact hn0 he
  · refine he ?_
    rw [List.getLast_eq_getElem] at hl
    have hlen : (ds.take n).length = n := by rw [List.length_take]; omega
    rw [List.getElem_take] at hl
    rw [List.getD_eq_getElem?_getD, List.getElem?_eq_getElem (by omega)]
    simpa [hlen] using hl
theorem valD_set : ∀ {ds : List Int} {k : Nat} (v : Int), k < ds.length → valD (ds.set k v) = valD ds + (v - ds.getD k default) * 1000000000 ^ k
  | d :: ds, 0, v, _ => by simp [valD]; omega
  | d :: ds, k + 1, v, h => by
    have := valD_set (ds := ds) (k := k) v (by simpa using h)
    rw [List.set_cons_succ, valD, valD, this, List.getD_cons_succ, Int.pow_succ, ← Int.mul_assoc, Int.mul_add, Int.mul_comm _ 1000000000]
    omega
theorem valD_take {ds : List Int} {k : Nat} (h : k < ds.length) : valD (ds.take (k + 1)) = valD (ds.take k) + ds.getD k default * 1000000000 ^ k := by
  rw [List.take_add_one, List.getElem?_eq_getElem h, Option.toList_some, valD_app, List.length_take, Nat.min_eq_left (by omega), valD, valD, Int.mul_zero, Int.add_zero, List.getD_eq_getElem?_getD, List.getElem?_eq_getElem h, Int.mul_comm]; rfl
theorem valD_rep (n : Nat) : valD (List.replicate n 0) = 0 := valD_zero fun d hd => (List.mem_replicate.1 hd).2
/-- A wide number. -/
def wA (n : Int) : AV := .agg [mA (sgnV n), .row 1 ((digN n.natAbs).map iE)]
theorem valD_lt : ∀ {ds : List Int}, GD ds → valD ds < 1000000000 ^ ds.length
  | [], _ => by decide
  | d :: ds, h => by
    have h1 := valD_lt h.tail
    have h2 := h d (List.mem_cons_self ..)
    rw [valD, List.length_cons, Int.pow_succ]
    omega
/-- How long a number is. -/
theorem digN_len {n : Nat} : ∀ {k : Nat}, n < 1000000000 ^ k → (digN n).length ≤ k := by
  induction n using Nat.strongRecOn with
  | ind n ih =>
    intro k h
    by_cases h0 : n = 0
    · subst h0; rw [digN_0]; simp
    · match k, h with
      | 0, h => simp at h; omega
      | k + 1, h =>
        rw [digN_s h0, List.length_cons]
        have := ih (n / 1000000000) (by omega) (k := k) (by rw [Nat.pow_succ] at h; omega)
        omega
/-- A product, digit by digit: what is so far, at digit k of the second one for digit i of the first one, with a carry. -/
structure WM (a b xs : List Int) (i k : Nat) (c : Int) : Prop where
  len : xs.length = a.length + b.length + 1
  gd : GD xs
  z : ∀ q : Nat, i + b.length ≤ q → xs.getD q default = 0
  cb : 0 ≤ c ∧ c < 1000000000
  v : valD xs + c * 1000000000 ^ (i + k) = valD (a.take i) * valD b + a.getD i default * valD (b.take k) * 1000000000 ^ i
theorem getD_set_ne {ds : List Int} {i j : Nat} (h : i ≠ j) (v : Int) : (ds.set i v).getD j default = ds.getD j default := by
  rw [List.getD_eq_getElem?_getD, List.getElem?_set_ne h, ← List.getD_eq_getElem?_getD]
theorem WM.first {a b : List Int} : WM a b (List.replicate (a.length + b.length + 1) 0) 0 0 0 := by
  refine ⟨by simp, GD.rep _, fun q _ => ?_, ⟨by decide, by decide⟩, ?_⟩
  · rw [List.getD_eq_getElem?_getD, List.getElem?_replicate]; split <;> rfl
  · rw [valD_rep]; simp [valD]
theorem WM.bd {a b xs : List Int} {i k : Nat} {c : Int} (h : WM a b xs i k c) (ha : GD a) (hb : GD b) : 0 ≤ a.getD i default * b.getD k default ∧ 0 ≤ xs.getD (i + k) default + a.getD i default * b.getD k default + c ∧ xs.getD (i + k) default + a.getD i default * b.getD k default + c ≤ 999999999999999999 := by
  have h1 := ha.at i
  have h2 := hb.at k
  have h3 := h.gd.at (i + k)
  have h4 := h.cb
  have m1 := Int.mul_nonneg h1.1 h2.1
  have m2 := Int.mul_le_mul (show a.getD i default ≤ 999999999 by omega) (show b.getD k default ≤ 999999999 by omega) h2.1 (by omega)
  omega
theorem WM.step {a b xs : List Int} {i k : Nat} {c s : Int} (h : WM a b xs i k c) (ha : GD a) (hb : GD b) (hi : i < a.length) (hk : k < b.length) (hs : s = xs.getD (i + k) default + a.getD i default * b.getD k default + c) : WM a b (xs.set (i + k) (s % 1000000000)) i (k + 1) (s / 1000000000) := by
  have hbd := h.bd ha hb
  rw [← hs] at hbd
  refine ⟨by rw [List.length_set]; exact h.len, h.gd.set _ (by omega), fun q hq => ?_, by omega, ?_⟩
  · rw [getD_set_ne (by omega)]; exact h.z q hq
  · rw [valD_set _ (by rw [h.len]; omega), valD_take hk, Int.mul_add, Int.add_mul, ← Int.add_assoc, ← h.v, ← Nat.add_assoc, Int.pow_succ]
    have e1 : a.getD i default * (b.getD k default * 1000000000 ^ k) * 1000000000 ^ i = a.getD i default * b.getD k default * 1000000000 ^ (i + k) := by
      rw [Int.pow_add, Int.mul_assoc, Int.mul_assoc, Int.mul_assoc, Int.mul_comm (1000000000 ^ i)]
    rw [e1]
    generalize (1000000000 : Int) ^ (i + k) = P
    have e2 : s / 1000000000 * (P * 1000000000) = (s - s % 1000000000) * P := by
      rw [Int.mul_comm P, ← Int.mul_assoc, show s / 1000000000 * 1000000000 = s - s % 1000000000 by omega]
    rw [e2, hs, Int.sub_mul, Int.sub_mul, Int.add_mul, Int.add_mul]
    omega
theorem WM.next {a b xs : List Int} {i : Nat} {c : Int} (h : WM a b xs i b.length c) (hi : i < a.length) : WM a b (xs.set (i + b.length) (xs.getD (i + b.length) default + c)) (i + 1) 0 0 := by
  have hz := h.z (i + b.length) (Nat.le_refl _)
  refine ⟨by rw [List.length_set]; exact h.len, h.gd.set _ (by rw [hz, Int.zero_add]; exact h.cb), fun q hq => ?_, ⟨by decide, by decide⟩, ?_⟩
  · rw [getD_set_ne (by omega)]; exact h.z q (by omega)
  · have hv := h.v
    rw [List.take_length] at hv
    rw [valD_set _ (by rw [h.len]; omega), hz, valD_take hi, Int.add_mul, show (0 : Int) + c - 0 = c by omega, hv]
    simp only [List.take_zero, valD, Int.mul_zero, Int.zero_mul, Int.add_zero]
    rw [Int.mul_assoc, Int.mul_assoc, Int.mul_comm (1000000000 ^ i)]
theorem WM.done {a b xs : List Int} (h : WM a b xs a.length 0 0) : valD xs = valD a * valD b := by
  have hv := h.v
  simp only [List.take_zero, valD, Int.mul_zero, Int.zero_mul, Int.add_zero, List.take_length] at hv
  exact hv
end Go.Proofs.Ytonjcljnpcmenaa

/- Contracts: wide numbers, made and multiplied. No conditions on a program. -/
namespace Go.Proofs.Ytonjcljnpcmenaa
open Go Go.RowKit Go.Proofs
set_option linter.unusedSimpArgs false
set_option linter.unusedVariables false
theorem y49_az145 : (Try.prog.info? 145).bind (·.zero) = some (.agg #[.int .i64 0, .slice none 0 0]) := by kernel_rfl
theorem y49_bz145 : (Try.prog.info? 145).bind (·.zero) = some (.agg #[.int .i64 0, .slice none 0 0]) := by kernel_rfl
theorem y49_bu145 : Try.prog.underlying 145 = some (.struct (fsOf Try.prog 145)) := by kernel_rfl
theorem y49_bp145 : ∀ w, ((fsOf Try.prog 145).mapM fun f => Prod.mk f.offset <$> sizeOf f.type : Sem (Array (Nat × Nat))).run Try.prog w = .ok (#[(0, 1), (1, 1)]) w := fun _ => by kernel_rfl
theorem y49_hcf140 : ∀ args w, (callFunc 140 args).run Try.prog w = .ok (.enter 140 args) w := fun _ _ => by kernel_rfl
theorem y49_hcf141 : ∀ args w, (callFunc 141 args).run Try.prog w = .ok (.enter 141 args) w := fun _ _ => by kernel_rfl
theorem y49_sl49 : SlIs Try.prog 49 3 1 8 (.int .i64 0) := ⟨by kernel_rfl, by kernel_rfl, by kernel_rfl⟩
theorem y49_sz145 : (Try.prog.info? 145).map (·.size) = some 2 := by kernel_rfl
theorem y49_ty145 : TyIs Try.prog 145 true 2 := ⟨by kernel_rfl, by kernel_rfl⟩
theorem y49_ty3 : TyIs Try.prog 3 false 1 := ⟨by kernel_rfl, by kernel_rfl⟩

abbrev dA (n : Nat) : AV := .row 1 ((digN n).map iE)
set_option maxRecDepth 100000 in
set_option maxHeartbeats 4000000 in
theorem trimmed_ok (ds : List Int) (h : GD ds) (hl : ds.length ≤ 1000000) : FnOk Try.prog 141 [.row 1 (ds.map iE)] (fun q => q = dA (valD ds).toNat) := by
  refine fnOk_of (fn := Try.f141) 21 (by kernel_rfl) rfl (by kernel_rfl) (Nat.le_of_ble_eq_true rfl) ?_
  intro e_0 m_0 hA hm_0
  have s0_0 : evA e_0 (.tmp 0) = _ := hA 0 _ rfl
  have ml_0 : m_0.length = 0 := by rw [hm_0]; rfl
  clear hA hm_0
  refine aw_seq <| at_ <| ar (ro_assign ev_c) rfl <| ae1 (up_m rfl s0_0) ?_; clear s0_0; intro e_1 s0_1
  refine then_n <| aw_seq <| at_ <| ar (ro_move s0_1) rfl <| ar (ro_eq (ro_len_row up_h rfl y49_sl49.1) (by simp only [lnS] <;> rfl)) rfl ?_
  refine ar (ro_assign up_h) rfl <| ae2 (up_m rfl (u2 rfl s0_1)) up_h ?_; clear s0_1; intro e_2 s0_2 s3_2
  refine then_n <| aw_seq <| aw_block <| aw_loop (S := Int) (fun n e mem => (evA e (.tmp 3) = .v (.int .i64 n)) ∧ (evA e (.tmp 0) = evA e_2 (.tmp 0)) ∧ (mem.length = 0) ∧ ((0 ≤ n ∧ n ≤ ds.length ∧ ∀ k : Nat, n ≤ k → k < ds.length → ds.getD k default = 0))) (fun n => n.toNat) _ ⟨s3_2, rfl, ml_0, ?_⟩ ?_
  · (exact ⟨by omega, by omega, fun k h1 h2 => by omega⟩)
  · rintro n e_3 m_3 ⟨s3_3, k0_3, ml_3, hinv⟩
    have s0_3 := k0_3.trans s0_2
    (obtain ⟨p1, p2, p3⟩ := hinv)
    refine aw_seq <| aw_seq <| at_ <| ar (ro_move s3_3) rfl <| ar (ro_gtr up_h ev_c) rfl <| ar (ro_move up_h) rfl <| al_case up_h (fun hb_4 hq_4 => ?_) (fun hb_4 hq_4 => ?_)
    ·replace hq_4 := bt hq_4
     refine al_ro' (ro_move (up_m rfl (u2 rfl s0_3))) ⟨_, rfl, hb_4⟩ rfl ?_
     refine al_ro' (ro_move (u4 rfl s3_3)) ⟨_, rfl, (up_m rfl hb_4)⟩ rfl ?_
     (refine al_ro' (ro_sub' up_h ev_c ?_) ⟨_, rfl, (u2 rfl hb_4)⟩ rfl ?_; · (unfold In64; omega))
     refine al_ro' (ro_eq (ro_ix y49_sl49 (u2 rfl up_h) up_h (by omega) (by first | (refine idx_map ?_; first | omega | (simp only [lnS]; omega)) | (refine idx_mapI ?_; first | omega | (simp only [lnS]; omega)) | (refine idx_mapN ?_; first | omega | (simp only [lnS]; omega)) | rfl)) (by simp only [pS, Value.cells, Nat.reduceAdd, iE] <;> rfl)) ⟨_, rfl, (up_m rfl (u2 rfl hb_4))⟩ rfl ?_
     refine al_ro' (ro_eq (ro_ld_ref y49_ty3 rfl up_h (nle rfl)) (by simp only [pS, Value.cells, Nat.reduceAdd, iE] <;> rfl)) ⟨_, rfl, (u4 rfl hb_4)⟩ rfl ?_
     refine al_ro' (ro_eql up_h ev_c) ⟨_, rfl, (up_m rfl (u4 rfl hb_4))⟩ rfl ?_
     refine ar (ro_pickT (u2 rfl (u4 rfl hb_4)) up_h) rfl <| ae3 (u2 rfl (u8 rfl s0_3)) (u2 rfl (u8 rfl s3_3)) up_h ?_; clear hb_4 s0_3 s3_3; intro e_5 s0_5 s3_5 s15_5
     refine then_n <| aw_case s15_5 (fun hq_6 => ?_) (fun hq_6 => ?_)
     ·replace hq_6 := bt hq_6
      refine aw_skip <| then_n <| aw_block <| at_ <| ar (ro_move s3_5) rfl ?_
      (refine ar (ro_sub' up_h ev_c ?_) rfl ?_; · (unfold In64; omega))
      refine ar (ro_assign up_h) rfl <| ae2 (up_m rfl (u2 rfl s0_5)) up_h ?_; clear s0_5 s15_5 s3_5; intro e_7 s0_7 s3_7
      refine block_n <| then_n <| ⟨_, ⟨s3_7, (s0_7.trans s0_2.symm), ml_3, ?_⟩, ?_⟩
      · (refine ⟨by omega, by omega, fun k h1 h2 => ?_⟩; by_cases hk : (k : Int) = n - 1; (rw [show k = (n - 1).toNat by omega]; assumption); exact p3 k (by omega) h2)
      · ((try dsimp only); omega)
     replace hq_6 := bf hq_6
     refine aw_exit <| then_x <| then_x <| block_hit <| then_n <| aw_seq <| at_ <| ar (ro_move s0_5) rfl <| ar (ro_move (up_m rfl s3_5)) rfl <| ar (ro_slh y49_sl49 (up_m rfl up_h) up_h (by omega) (by simp only [lnS] <;> omega)) rfl ?_
     refine ar (ro_assign up_h) rfl <| ae1 up_h ?_; clear s0_5 s15_5 s3_5; intro e_8 s2_8
     refine then_n <| aw_ret <| ret1 (.inr rfl) (by kernel_rfl) (resV_tmp s2_8) (.ro _ rfl) ?_
     clear s2_8  ml_3
     (rw [← List.map_take, trim_fin h (n := n.toNat) (by omega) (fun k h1 h2 => p3 k (by omega) h2) (.inr (by rw [show n.toNat - 1 = (n - 1).toNat by omega]; assumption))])
    replace hq_4 := bf hq_4
    refine al_skip' ⟨_, rfl, .inl hb_4⟩ rfl ?_
    refine al_skip' ⟨_, rfl, .inl (up_m rfl hb_4)⟩ rfl ?_
    refine al_skip' ⟨_, rfl, .inl (u2 rfl hb_4)⟩ rfl ?_
    refine al_skip' ⟨_, rfl, .inl (up_m rfl (u2 rfl hb_4))⟩ rfl ?_
    refine al_skip' ⟨_, rfl, .inl (u4 rfl hb_4)⟩ rfl ?_
    refine al_skip' ⟨_, rfl, .inl (up_m rfl (u4 rfl hb_4))⟩ rfl ?_
    refine ar (ro_pickF (u2 rfl (u4 rfl hb_4)) ev_c) rfl <| ae3 (u2 rfl (u8 rfl s0_3)) (u2 rfl (u8 rfl s3_3)) up_h ?_; clear hb_4 s0_3 s3_3; intro e_9 s0_9 s3_9 s15_9
    refine then_n <| aw_false s15_9 <| aw_exit <| then_x <| then_x <| block_hit <| then_n <| aw_seq <| at_ <| ar (ro_move s0_9) rfl <| ar (ro_move (up_m rfl s3_9)) rfl <| ar (ro_slh y49_sl49 (up_m rfl up_h) up_h (by omega) (by omega)) rfl ?_
    refine ar (ro_assign up_h) rfl <| ae1 up_h ?_; clear s0_9 s15_9 s3_9; intro e_11 s2_11
    refine then_n <| aw_ret <| ret1 (.inr rfl) (by kernel_rfl) (resV_tmp s2_11) (.ro _ rfl) ?_
    clear s2_11  ml_3
    (rw [← List.map_take, trim_fin h (n := n.toNat) (by omega) (fun k h1 h2 => p3 k (by omega) h2) (.inl (by omega))])
set_option maxRecDepth 100000 in
set_option maxHeartbeats 4000000 in
theorem wideOf_ok (sg : Int) (ds : List Int) (h : GD ds) (hl : ds.length ≤ 1000000) : FnOk Try.prog 140 [mA sg, .row 1 (ds.map iE)] (fun q => q = .agg [mA (if valD ds = 0 then 0 else sg), dA (valD ds).toNat]) := by
  refine fnOk_of (fn := Try.f140) 13 (by kernel_rfl) rfl (by kernel_rfl) (Nat.le_of_ble_eq_true rfl) ?_
  intro e_0 m_0 hA hm_0
  have s0_0 : evA e_0 (.tmp 0) = _ := hA 0 _ rfl
  have s1_0 : evA e_0 (.tmp 1) = _ := hA 1 _ rfl
  have ml_0 : m_0.length = 0 := by rw [hm_0]; rfl
  clear hA hm_0
  have hnn := valD_nn h; have hdl := digN_nil (n := (valD ds).toNat)
  refine aw_seq <| at_ <| al_stm (st_alloc y49_az145 rfl ml_0) trivial rfl (fun m_1 hm_1 => ?_)
  have mo0_1 := m_push hm_1 ml_0
  simp only [pS, Value.cells, Nat.reduceAdd] at mo0_1
  have ml_1 := m_push_l hm_1 ml_0
  have ml_1 : _ = 1 := ml_1
  clear hm_1
  refine ae3 (up_m rfl s0_0) (up_m rfl s1_0) up_h ?_; clear s0_0 s1_0; intro e_2 s0_2 s1_2 s4_2
  refine then_n <| aw_seq <| at_ <| ar (ro_move s1_2) rfl <| ar (ro_call (evL_cons up_h evL_nil) rfl (trimmed_ok ds h hl) y49_hcf141) rfl <| ar (ro_assign up_h) rfl <| ae3 (up_m rfl (u2 rfl s0_2)) up_h (up_m rfl (u2 rfl s4_2)) ?_; clear s0_2 s1_2 s4_2; intro e_3 s0_3 s1_3 s4_3
  refine then_n <| aw_seq <| aw_seq <| at_ <| ar (ro_move s1_3) rfl <| ar (ro_eq (ro_len_row up_h rfl y49_sl49.1) (by simp only [lnS] <;> rfl)) rfl ?_
  refine ar (ro_eql up_h ev_c) rfl ?_
  refine ae4 (up_m rfl (u2 rfl s0_3)) (up_m rfl (u2 rfl s1_3)) (up_m rfl (u2 rfl s4_3)) up_h ?_; clear s0_3 s1_3 s4_3; intro e_4 s0_4 s1_4 s4_4 s9_4
  refine then_n <| aw_case s9_4 (fun hq_5 => ?_) (fun hq_5 => ?_)
  ·replace hq_5 := bt hq_5
   refine at_ <| ar (ro_assign ev_c) rfl <| ae3 up_h (up_m rfl s1_4) (up_m rfl s4_4) ?_; clear s0_4 s1_4 s4_4 s9_4; intro e_6 s0_6 s1_6 s4_6
   refine then_n <| aw_seq <| at_ <| ar (ro_move s0_6) rfl <| ar (ro_move (up_m rfl s1_6)) rfl <| ar (ro_build (evP_cons (up_m rfl up_h) (evP_cons up_h evP_nil)) y49_bz145 y49_bu145 y49_bp145 rfl) rfl ?_
   refine al_stm (st_store (up_m rfl (u2 rfl s4_6)) up_h rfl rfl mo0_1 y49_sz145 rfl (nle rfl)) trivial rfl (fun m_7 hm_7 => ?_)
   have mo0_7 := m_set hm_7 mo0_1
   simp only [pS, Value.cells, Nat.reduceAdd] at mo0_7
   have ml_7 := m_set_l hm_7 ml_1
   clear hm_7 mo0_1
   refine ae1 (up_n (up_m rfl (u2 rfl s4_6))) ?_; clear s0_6 s1_6 s4_6; intro e_8 s4_8
   refine then_n <| aw_ret <| ret1 (.inr rfl) (by kernel_rfl) (resV_cell s4_8 mo0_7 y49_ty145 (nle rfl) (by simp)) (vw_r (.ro _ rfl)) ?_
   clear s4_8 mo0_7 ml_7
   (have hv : valD ds = 0 := (by omega); rw [if_pos hv]; rfl)
  replace hq_5 := bf hq_5
  refine aw_skip <| then_n <| aw_seq <| at_ <| ar (ro_move s0_4) rfl <| ar (ro_move (up_m rfl s1_4)) rfl <| ar (ro_build (evP_cons (up_m rfl up_h) (evP_cons up_h evP_nil)) y49_bz145 y49_bu145 y49_bp145 rfl) rfl ?_
  refine al_stm (st_store (up_m rfl (u2 rfl s4_4)) up_h rfl rfl mo0_1 y49_sz145 rfl (nle rfl)) trivial rfl (fun m_9 hm_9 => ?_)
  have mo0_9 := m_set hm_9 mo0_1
  simp only [pS, Value.cells, Nat.reduceAdd] at mo0_9
  have ml_9 := m_set_l hm_9 ml_1
  clear hm_9 mo0_1
  refine ae1 (up_n (up_m rfl (u2 rfl s4_4))) ?_; clear s0_4 s1_4 s4_4 s9_4; intro e_10 s4_10
  refine then_n <| aw_ret <| ret1 (.inr rfl) (by kernel_rfl) (resV_cell s4_10 mo0_9 y49_ty145 (nle rfl) (by simp)) (vw_r (.ro _ rfl)) ?_
  clear s4_10 mo0_9 ml_9
  (have hv : ¬ valD ds = 0 := (by omega); rw [if_neg hv]; rfl)
set_option maxRecDepth 100000 in
set_option maxHeartbeats 4000000 in
theorem widOf_ok (n : Int) (hn : -9000000000000000000 ≤ n ∧ n ≤ 9000000000000000000) : FnOk Try.prog 88 [mA n] (fun q => q = wA n) := by
  refine fnOk_of (fn := Try.f88) 21 (by kernel_rfl) rfl (by kernel_rfl) (Nat.le_of_ble_eq_true rfl) ?_
  intro e_0 m_0 hA hm_0
  have s0_0 : evA e_0 (.tmp 0) = _ := hA 0 _ rfl
  have ml_0 : m_0.length = 0 := by rw [hm_0]; rfl
  clear hA hm_0
  have hL := digN_len (n := n.natAbs) (k := 3) (by omega); have hdv := digN_val n.natAbs
  refine aw_seq <| at_ <| al_stm (st_alloc y49_az145 rfl ml_0) trivial rfl (fun m_1 hm_1 => ?_)
  have mo0_1 := m_push hm_1 ml_0
  simp only [pS, Value.cells, Nat.reduceAdd, one_iE, app_m] at mo0_1
  have ml_1 := m_push_l hm_1 ml_0
  have ml_1 : _ = 1 := ml_1
  clear hm_1
  refine ae2 (up_m rfl s0_0) up_h ?_; clear s0_0; intro e_2 s0_2 s2_2
  refine then_n <| aw_seq <| at_ <| ar (ro_assign ev_c) rfl <| ae3 (up_m rfl s0_2) (up_m rfl s2_2) up_h ?_; clear s0_2 s2_2; intro e_3 s0_3 s2_3 s3_3
  refine then_n <| aw_seq <| aw_cut (fun e mem => (evA e (.tmp 0) = .v (.int .i64 n.natAbs)) ∧ (evA e (.tmp 3) = .v (.int .i64 (if n < 0 then -1 else 1))) ∧ (evA e (.tmp 2) = evA e_3 (.tmp 2)) ∧ m_1 = mem) ?_ ?_
  ·
    refine aw_seq <| at_ <| ar (ro_move s0_3) rfl <| ar (ro_lss up_h ev_c) rfl <| ae4 (u2 rfl s0_3) (u2 rfl s2_3) (u2 rfl s3_3) up_h ?_; intro e_5 s0_5 s2_5 s3_5 s6_5
    refine then_n <| aw_case s6_5 (fun hq_6 => ?_) (fun hq_6 => ?_)
    ·replace hq_6 := bt hq_6
     refine at_ <| ar (ro_move s0_5) rfl ?_
     (refine ar (ro_neg' up_h ?_) rfl ?_; · (unfold In64; omega))
     refine ar (ro_assign ev_c) rfl <| ar (ro_assign (up_m rfl up_h)) rfl <| ae3 up_h (u4 rfl s2_5) (up_m rfl up_h) ?_; intro e_7 s0_7 s2_7 s3_7
     refine then_n ⟨(s0_7).trans (by (refine congrArg mA ?_; omega)), (s3_7).trans (by (refine congrArg mA ?_; first | rw [if_pos (by assumption)] | rw [if_neg (by assumption)])), (s2_7).trans (s2_3).symm, rfl⟩
    replace hq_6 := bf hq_6
    refine aw_skip <| then_n ⟨(s0_5).trans (by (refine congrArg mA ?_; omega)), (s3_5).trans (by (refine congrArg mA ?_; first | rw [if_pos (by assumption)] | rw [if_neg (by assumption)])), (s2_5).trans (s2_3).symm, rfl⟩
  · rintro e_4 _ ⟨s0_4, s3_4, k2_4, rfl⟩
    have s2_4 := k2_4.trans s2_3
    refine aw_seq <| at_ <| ar (ro_assign ev_c) rfl <| ae4 (up_m rfl s0_4) (up_m rfl s2_4) (up_m rfl s3_4) up_h ?_; clear s0_4 s2_4 s3_4; intro e_8 s0_8 s2_8 s3_8 s4_8
    refine then_n <| aw_seq <| aw_block <| aw_adopt 3 1 s4_8 ml_1 (fun m_9 e_9 hm_9 he_9 => ?_)
    have mo1_9 := m_push hm_9 ml_1
    have mo0_9 := m_push_o hm_9 mo0_1
    have ml_9 := m_push_l hm_9 ml_1
    have ml_9 : _ = 2 := ml_9
    have s0_9 : evA e_9 (.tmp 0) = _ := (congrArg (fun q => evA q (.tmp 0)) he_9).trans (up_m rfl s0_8)
    have s2_9 : evA e_9 (.tmp 2) = _ := (congrArg (fun q => evA q (.tmp 2)) he_9).trans (up_m rfl s2_8)
    have s3_9 : evA e_9 (.tmp 3) = _ := (congrArg (fun q => evA q (.tmp 3)) he_9).trans (up_m rfl s3_8)
    have s4_9 : evA e_9 (.tmp 4) = _ := (congrArg (fun q => evA q (.tmp 4)) he_9).trans up_h
    clear hm_9 he_9
    refine aw_loop (S := (Int × List Int)) (fun s e mem => match s with | ⟨x, xs⟩ => (evA e (.tmp 0) = .v (.int .i64 x)) ∧ (evA e (.tmp 2) = evA e_9 (.tmp 2)) ∧ (evA e (.tmp 3) = evA e_9 (.tmp 3)) ∧ (mem[0]? = m_9[0]?) ∧ (∃ j, evA e (.tmp 4) = .own j ∧ mem[j]? = some (.row 3 1 (xs.map iE)) ∧ j ≠ 0) ∧ (∃ n, mem.length = n ∧ 2 ≤ n) ∧ ((0 ≤ x ∧ x ≤ n.natAbs ∧ GD xs ∧ digN n.natAbs = xs ++ digN x.toNat))) (fun s => match s with | ⟨x, xs⟩ => x.toNat) ⟨_, []⟩ ⟨s0_9, rfl, rfl, rfl, ⟨_, s4_9, mo1_9, (by decide)⟩, ⟨_, ml_9, Nat.le_refl _⟩, ?_⟩ ?_
    · (exact ⟨by omega, by omega, GD.nil, by rw [List.nil_append]; congr 1⟩)
    · rintro ⟨x, xs⟩ e_10 m_10 ⟨s0_10, k2_10, k3_10, mk0_10, ⟨j4_10, s4_10, mo_j4_10, nj4_0_10⟩, ⟨n_10, ml_10, hn_10⟩, hinv⟩
      have s2_10 := k2_10.trans s2_9
      have s3_10 := k3_10.trans s3_9
      have mo0_10 := mk0_10.trans mo0_9
      have jl4_10 := m_lt mo_j4_10 ml_10
      (obtain ⟨p1, p2, p3, p4⟩ := hinv; have hx : xs.length ≤ 3 := (by have := congrArg List.length p4; rw [List.length_append] at this; omega); have e1 := Int.tdiv_eq_ediv_of_nonneg p1 (b := 1000000000); have e2 := Int.tmod_eq_emod_of_nonneg p1 (b := 1000000000))
      refine aw_seq <| aw_seq <| at_ <| ar (ro_move s0_10) rfl <| ar (ro_gtr up_h ev_c) rfl <| ae5 (u2 rfl s0_10) (u2 rfl s2_10) (u2 rfl s3_10) (u2 rfl s4_10) up_h ?_; clear s0_10 s2_10 s3_10 s4_10; intro e_11 s0_11 s2_11 s3_11 s4_11 s10_11
      refine then_n <| aw_case s10_11 (fun hq_12 => ?_) (fun hq_12 => ?_)
      ·replace hq_12 := bt hq_12
       refine aw_skip <| then_n <| aw_block <| aw_seq <| at_ <| ar (ro_move s4_11) rfl <| ar (ro_move (up_m rfl s0_11)) rfl <| ar (ro_rem up_h ev_c (by decide)) rfl ?_
       refine ar (ro_lit y49_sl49 (evP_cons up_h evP_nil) rfl rfl rfl rfl) rfl <| al_stm (st_app y49_sl49 rfl ml_10 mo_j4_10 (up_m rfl (u2 rfl up_h)) up_h (by rfl) (by simp only [lnS] <;> omega)) trivial rfl (fun m_13 hm_13 => ?_)
       have mon_10_13 := m_swap hm_13 ml_10
       simp only [pS, Value.cells, Nat.reduceAdd, one_iE, app_m] at mon_10_13
       have mo0_13 := m_swap_o hm_13 mo0_10 (by omega)
       have ml_13 := m_swap_l hm_13 ml_10
       clear hm_13 mo0_10 mo_j4_10
       refine ar (ro_assign up_h) rfl <| ae4 (u2 rfl (u4 rfl s0_11)) (u2 rfl (u4 rfl s2_11)) (u2 rfl (u4 rfl s3_11)) up_h ?_; clear s0_11 s10_11 s2_11 s3_11 s4_11; intro e_14 s0_14 s2_14 s3_14 s4_14
       refine then_n <| at_ <| ar (ro_move s0_14) rfl ?_
       (refine ar (ro_quo' up_h ev_c (by decide) ?_) rfl ?_; · (unfold In64; omega))
       refine ar (ro_assign up_h) rfl <| ae4 up_h (up_m rfl (u2 rfl s2_14)) (up_m rfl (u2 rfl s3_14)) (up_m rfl (u2 rfl s4_14)) ?_; clear s0_14 s2_14 s3_14 s4_14; intro e_15 s0_15 s2_15 s3_15 s4_15
       refine block_n <| then_n <| ⟨⟨_, _⟩, ⟨s0_15, (s2_15.trans s2_9.symm), (s3_15.trans s3_9.symm), (mo0_13.trans mo0_9.symm), ⟨_, s4_15, mon_10_13, (by omega)⟩, ⟨_, ml_13, by omega⟩, ?_⟩, ?_⟩
       · (refine ⟨by omega, by omega, p3.app (GD.one (by omega)), ?_⟩; rw [p4, digN_s (show x.toNat ≠ 0 by omega), List.append_assoc, List.singleton_append, show (x.tdiv 1000000000).toNat = x.toNat / 1000000000 by omega, show x.tmod 1000000000 = ((x.toNat % 1000000000 : Nat) : Int) by omega])
       · ((try dsimp only); omega)
      replace hq_12 := bf hq_12
      (have hx0 : x.toNat = 0 := (by omega); rw [hx0, digN_0, List.append_nil] at p4; have wo := wideOf_ok (if n < 0 then -1 else 1) xs p3 (by omega))
      refine aw_exit <| then_x <| then_x <| block_hit <| then_n <| aw_seq <| aw_freezeR s4_11 mo_j4_10 (fun m_16 e_16 hm_16 he_16 => ?_)
      have mo0_16 := m_set_o hm_16 mo0_10 (by omega)
      have ml_16 := m_set_l hm_16 ml_10
      have s0_16 : evA e_16 (.tmp 0) = _ := (congrArg (fun q => evA q (.tmp 0)) he_16).trans (up_m rfl s0_11)
      have s2_16 : evA e_16 (.tmp 2) = _ := (congrArg (fun q => evA q (.tmp 2)) he_16).trans (up_m rfl s2_11)
      have s3_16 : evA e_16 (.tmp 3) = _ := (congrArg (fun q => evA q (.tmp 3)) he_16).trans (up_m rfl s3_11)
      have s4_16 : evA e_16 (.tmp 4) = _ := (congrArg (fun q => evA q (.tmp 4)) he_16).trans up_h
      have s10_16 : evA e_16 (.tmp 10) = _ := (congrArg (fun q => evA q (.tmp 10)) he_16).trans (up_m rfl s10_11)
      clear hm_16 he_16
      refine at_ <| ar (ro_move s3_16) rfl <| ar (ro_move (up_m rfl s4_16)) rfl <| ar (ro_call (evL_cons (up_m rfl up_h) (evL_cons up_h evL_nil)) rfl (wo) y49_hcf140) rfl <| al_stm (st_store (up_m rfl (u2 rfl s2_16)) up_h rfl rfl mo0_16 y49_sz145 rfl (nle rfl)) trivial rfl (fun m_17 hm_17 => ?_)
      have mo0_17 := m_set hm_17 mo0_16
      simp only [pS, Value.cells, Nat.reduceAdd, one_iE, app_m] at mo0_17
      have ml_17 := m_set_l hm_17 ml_16
      clear hm_17 mo0_16
      refine ae1 (up_n (up_m rfl (u2 rfl s2_16))) ?_; clear s0_16 s10_16 s2_16 s3_16 s4_16; intro e_18 s2_18
      refine then_n <| aw_ret <| ret1 (.inr rfl) (by kernel_rfl) (resV_cell s2_18 mo0_17 y49_ty145 (nle rfl) (by simp)) (vw_r (.ro _ rfl)) ?_
      clear s2_18 mo0_17 ml_17
      (rw [← p4, hdv, Int.toNat_natCast]; unfold wA sgnV; by_cases h1 : n < 0; (rw [if_neg (by omega), if_pos h1, if_pos h1]; rfl); by_cases h2 : n = 0; (subst h2; rfl); (rw [if_neg (by omega), if_neg h1, if_neg h1, if_pos (by omega)]; rfl))
end Go.Proofs.Ytonjcljnpcmenaa

