/- Contracts of chapter 1: two lines as one. No conditions on a program. -/
import Derived.Test.YtonjcljnpcmenaaM10
namespace Go.Proofs.Ytonjcljnpcmenaa
open Go Go.RowKit Go.Proofs
set_option linter.unusedSimpArgs false
set_option linter.unusedVariables false
theorem y67_az26 : (Try.prog.info? 26).bind (·.zero) = some (.agg #[.string ByteArray.empty, .slice none 0 0, .slice none 0 0, .slice none 0 0]) := by kernel_rfl
theorem y67_az39 : (Try.prog.info? 39).bind (·.zero) = some (.agg #[.int .i64 0, .int .i64 0]) := by kernel_rfl
theorem y67_az70 : (Try.prog.info? 70).bind (·.zero) = some (.agg #[.int .i64 0, .int .i64 0, .int .i64 0, .int .i64 0]) := by kernel_rfl
theorem y67_az91 : (Try.prog.info? 91).bind (·.zero) = some (.agg #[.string ByteArray.empty, .int .i64 0, .slice none 0 0]) := by kernel_rfl
theorem y67_bz26 : (Try.prog.info? 26).bind (·.zero) = some (.agg #[.string ByteArray.empty, .slice none 0 0, .slice none 0 0, .slice none 0 0]) := by kernel_rfl
theorem y67_bu26 : Try.prog.underlying 26 = some (.struct (fsOf Try.prog 26)) := by kernel_rfl
theorem y67_bp26 : ∀ w, ((fsOf Try.prog 26).mapM fun f => Prod.mk f.offset <$> sizeOf f.type : Sem (Array (Nat × Nat))).run Try.prog w = .ok (#[(0, 1), (1, 1), (2, 1), (3, 1)]) w := fun _ => by kernel_rfl
theorem y67_bz39 : (Try.prog.info? 39).bind (·.zero) = some (.agg #[.int .i64 0, .int .i64 0]) := by kernel_rfl
theorem y67_bu39 : Try.prog.underlying 39 = some (.struct (fsOf Try.prog 39)) := by kernel_rfl
theorem y67_bp39 : ∀ w, ((fsOf Try.prog 39).mapM fun f => Prod.mk f.offset <$> sizeOf f.type : Sem (Array (Nat × Nat))).run Try.prog w = .ok (#[(0, 1), (1, 1)]) w := fun _ => by kernel_rfl
theorem y67_fl26_1 : FldIs Try.prog 26 1 1 false 1 := by unfold FldIs; kernel_rfl
theorem y67_fl26_2 : FldIs Try.prog 26 2 2 false 1 := by unfold FldIs; kernel_rfl
theorem y67_fl26_3 : FldIs Try.prog 26 3 3 false 1 := by unfold FldIs; kernel_rfl
theorem y67_fl39_0 : FldIs Try.prog 39 0 0 false 1 := by unfold FldIs; kernel_rfl
theorem y67_fl39_1 : FldIs Try.prog 39 1 1 false 1 := by unfold FldIs; kernel_rfl
theorem y67_fl70_0 : FldIs Try.prog 70 0 0 false 1 := by unfold FldIs; kernel_rfl
theorem y67_fl70_1 : FldIs Try.prog 70 1 1 false 1 := by unfold FldIs; kernel_rfl
theorem y67_fl70_2 : FldIs Try.prog 70 2 2 true 2 := by unfold FldIs; kernel_rfl
theorem y67_fl91_2 : FldIs Try.prog 91 2 2 false 1 := by unfold FldIs; kernel_rfl
theorem y67_hcf18 : ∀ args w, (callFunc 18 args).run Try.prog w = .ok (.enter 18 args) w := fun _ _ => by kernel_rfl
theorem y67_hcf75 : ∀ args w, (callFunc 75 args).run Try.prog w = .ok (.enter 75 args) w := fun _ _ => by kernel_rfl
theorem y67_hcf76 : ∀ args w, (callFunc 76 args).run Try.prog w = .ok (.enter 76 args) w := fun _ _ => by kernel_rfl
theorem y67_hcf77 : ∀ args w, (callFunc 77 args).run Try.prog w = .ok (.enter 77 args) w := fun _ _ => by kernel_rfl
theorem y67_hcf95 : ∀ args w, (callFunc 95 args).run Try.prog w = .ok (.enter 95 args) w := fun _ _ => by kernel_rfl
theorem y67_hcf96 : ∀ args w, (callFunc 96 args).run Try.prog w = .ok (.enter 96 args) w := fun _ _ => by kernel_rfl
theorem y67_sl185 : SlIs Try.prog 185 34 1 8 (.int .i64 0) := ⟨by kernel_rfl, by kernel_rfl, by kernel_rfl⟩
theorem y67_sl22 : SlIs Try.prog 22 70 4 32 (.agg #[.int .i64 0, .int .i64 0, .int .i64 0, .int .i64 0]) := ⟨by kernel_rfl, by kernel_rfl, by kernel_rfl⟩
theorem y67_sl23 : SlIs Try.prog 23 87 2 16 (.agg #[.int .i64 0, .int .i64 0]) := ⟨by kernel_rfl, by kernel_rfl, by kernel_rfl⟩
theorem y67_sl24 : SlIs Try.prog 24 91 3 48 (.agg #[.string ByteArray.empty, .int .i64 0, .slice none 0 0]) := ⟨by kernel_rfl, by kernel_rfl, by kernel_rfl⟩
theorem y67_sz22 : (Try.prog.info? 22).map (·.size) = some 1 := by kernel_rfl
theorem y67_sz23 : (Try.prog.info? 23).map (·.size) = some 1 := by kernel_rfl
theorem y67_sz24 : (Try.prog.info? 24).map (·.size) = some 1 := by kernel_rfl
theorem y67_sz26 : (Try.prog.info? 26).map (·.size) = some 4 := by kernel_rfl
theorem y67_sz39 : (Try.prog.info? 39).map (·.size) = some 2 := by kernel_rfl
theorem y67_sz49 : (Try.prog.info? 49).map (·.size) = some 1 := by kernel_rfl
theorem y67_sz70 : (Try.prog.info? 70).map (·.size) = some 4 := by kernel_rfl
theorem y67_sz91 : (Try.prog.info? 91).map (·.size) = some 3 := by kernel_rfl
theorem y67_ty22 : TyIs Try.prog 22 false 1 := ⟨by kernel_rfl, by kernel_rfl⟩
theorem y67_ty23 : TyIs Try.prog 23 false 1 := ⟨by kernel_rfl, by kernel_rfl⟩
theorem y67_ty24 : TyIs Try.prog 24 false 1 := ⟨by kernel_rfl, by kernel_rfl⟩
theorem y67_ty26 : TyIs Try.prog 26 true 4 := ⟨by kernel_rfl, by kernel_rfl⟩
theorem y67_ty3 : TyIs Try.prog 3 false 1 := ⟨by kernel_rfl, by kernel_rfl⟩
theorem y67_ty39 : TyIs Try.prog 39 true 2 := ⟨by kernel_rfl, by kernel_rfl⟩
theorem y67_ty49 : TyIs Try.prog 49 false 1 := ⟨by kernel_rfl, by kernel_rfl⟩
theorem y67_ty70 : TyIs Try.prog 70 true 4 := ⟨by kernel_rfl, by kernel_rfl⟩
theorem y67_ty91 : TyIs Try.prog 91 true 3 := ⟨by kernel_rfl, by kernel_rfl⟩

/-- The joint at which two lines meet. -/
def joiJ (a b : Lin) : Jnt := ⟨(a.js.getD (a.js.length - 1) default).acr, (a.js.getD (a.js.length - 1) default).up, max (a.js.getD (a.js.length - 1) default).lo (b.js.getD 0 default).lo, min (a.js.getD (a.js.length - 1) default).hi (b.js.getD 0 default).hi⟩
def joiX (a b : Lin) : Int := if (a.js.getD (a.js.length - 1) default).acr = (b.js.getD 0 default).acr ∧ (a.js.getD (a.js.length - 1) default).up = (b.js.getD 0 default).up ∧ (joiJ a b).lo ≤ (joiJ a b).hi then (if a.bs.length + b.bs.length ≤ 40 then 0 else 8) else 13
def joiL (a b : Lin) : Lin := ⟨a.nam, a.js.set (a.js.length - 1) (joiJ a b) ++ b.js.drop 1, a.bs ++ b.bs, []⟩
def joiA (a b : Lin) : AV := if joiX a b = 0 then .tuple [lnA (joiL a b), mA 0] else .tuple [lnA nonL, mA (joiX a b)]
theorem joiA_0 {a b : Lin} (h : joiX a b = 0) : joiA a b = .tuple [lnA (joiL a b), mA 0] := by unfold joiA; rw [if_pos h]
theorem joiA_n {a b : Lin} (h : joiX a b ≠ 0) : joiA a b = .tuple [lnA nonL, mA (joiX a b)] := by unfold joiA; rw [if_neg h]
theorem jnE_one (l : List Jnt) : (l.map jnE).flatten.all oneA = true := by
  induction l with
  | nil => rfl
  | cons p l ih => simp only [List.map_cons, List.flatten_cons, List.all_append, ih, Bool.and_true]; rfl
theorem beE_one (l : List Bea) : (l.map beE).flatten.all oneA = true := by
  induction l with
  | nil => rfl
  | cons p l ih => simp only [List.map_cons, List.flatten_cons, List.all_append, ih, Bool.and_true]; rfl
theorem jnE_oneD (l : List Jnt) (n : Nat) : ((l.map jnE).drop n).flatten.all oneA = true := by
  rw [← List.map_drop]; exact jnE_one _
theorem app_jn (x y : List Jnt) : x.map jnE ++ (y.map jnE).drop 1 = (x ++ y.drop 1).map jnE := by simp
theorem app_be (x y : List Bea) : x.map beE ++ y.map beE = (x ++ y).map beE := by simp
set_option maxRecDepth 100000 in
set_option maxHeartbeats 4000000 in
theorem joined_a (a b : Lin) (ha : Sho a) (he : (linM a).2 ≠ 0) (x : AV) (d : Int) (hx : FnOk Try.prog 76 [lnA b] (fun q => q = .tuple [x, mA d])) : FnOk Try.prog 39 [lnA a, lnA b] (fun q => q = .tuple [lnA nonL, mA (linM a).2]) := by
  refine fnOk_of (fn := Try.f39) 107 (by kernel_rfl) rfl (by kernel_rfl) (Nat.le_of_ble_eq_true rfl) ?_
  intro e_0 m_0 hA hm_0
  have s0_0 : evA e_0 (.tmp 0) = _ := hA 0 _ rfl
  have s1_0 : evA e_0 (.tmp 1) = _ := hA 1 _ rfl
  have ml_0 : m_0.length = 0 := by rw [hm_0]; rfl
  clear hA hm_0
  have hf : ∀ z, firstE [(linM a).2, z] = (linM a).2 := (fun z => by simp [firstE, he])
  refine aw_seq <| at_ <| al_stm (st_box s0_0 rfl ml_0) trivial rfl (fun m_1 hm_1 => ?_)
  have mo0_1 := m_push hm_1 ml_0
  have ml_1 := m_push_l hm_1 ml_0
  have ml_1 : _ = 1 := ml_1
  clear hm_1
  refine al_stm (st_box (up_m rfl s1_0) rfl ml_1) trivial rfl (fun m_2 hm_2 => ?_)
  have mo1_2 := m_push hm_2 ml_1
  have mo0_2 := m_push_o hm_2 mo0_1
  have ml_2 := m_push_l hm_2 ml_1
  have ml_2 : _ = 2 := ml_2
  clear hm_2 mo0_1
  refine al_stm (st_alloc y67_az26 rfl ml_2) trivial rfl (fun m_3 hm_3 => ?_)
  have mo2_3 := m_push hm_3 ml_2
  simp only [pS, Value.cells, Nat.reduceAdd] at mo2_3
  have mo1_3 := m_push_o hm_3 mo1_2
  have mo0_3 := m_push_o hm_3 mo0_2
  have ml_3 := m_push_l hm_3 ml_2
  have ml_3 : _ = 3 := ml_3
  clear hm_3 mo1_2 mo0_2
  refine ar (ro_assign ev_c) rfl <| ae3 (up_m rfl (u2 rfl up_h)) (u2 rfl up_h) (up_m rfl up_h) ?_; clear s0_0 s1_0; intro e_4 s2_4 s3_4 s4_4
  refine then_n <| aw_seq <| at_ <| ar (ro_eq (ro_ld_ptr y67_ty26 rfl mo0_3 s2_4 (nle rfl)) (by simp only [pS, Value.cells, Nat.reduceAdd] <;> rfl)) rfl ?_
  refine ar (ro_call (evL_cons up_h evL_nil) rfl (yOpen_bad a ha he) y67_hcf76) rfl <| ar (ro_move up_h) rfl <| ar (ro_extract up_h rfl) rfl <| ar (ro_extract (up_m rfl up_h) rfl) rfl <| ar (ro_assign (up_m rfl up_h)) rfl <| ar (ro_assign (up_m rfl up_h)) rfl <| ae4 (up_m rfl (u2 rfl (u4 rfl s2_4))) (up_m rfl (u2 rfl (u4 rfl s3_4))) (up_m rfl (u2 rfl (u4 rfl s4_4))) up_h ?_; clear s2_4 s3_4 s4_4; intro e_5 s2_5 s3_5 s4_5 s7_5
  refine then_n <| aw_seq <| at_ <| ar (ro_eq (ro_ld_ptr y67_ty26 rfl mo1_3 s3_5 (nle rfl)) (by simp only [pS, Value.cells, Nat.reduceAdd] <;> rfl)) rfl ?_
  refine ar (ro_call (evL_cons up_h evL_nil) rfl (hx) y67_hcf76) rfl <| ar (ro_move up_h) rfl <| ar (ro_extract up_h rfl) rfl <| ar (ro_extract (up_m rfl up_h) rfl) rfl <| ar (ro_assign (up_m rfl up_h)) rfl <| ar (ro_assign (up_m rfl up_h)) rfl <| ae5 (up_m rfl (u2 rfl (u4 rfl s2_5))) (up_m rfl (u2 rfl (u4 rfl s3_5))) (up_m rfl (u2 rfl (u4 rfl s4_5))) (up_m rfl (u2 rfl (u4 rfl s7_5))) up_h ?_; clear s2_5 s3_5 s4_5 s7_5; intro e_6 s2_6 s3_6 s4_6 s7_6 s9_6
  refine then_n <| aw_seq <| aw_seq <| at_ <| ar (ro_move s7_6) rfl <| ar (ro_move (up_m rfl s9_6)) rfl <| ar (ro_lit y67_sl185 (evP_cons (up_m rfl up_h) (evP_cons up_h evP_nil)) rfl rfl rfl rfl) rfl <| ar (ro_call (evL_cons up_h evL_nil) rfl ((yFirst_ok [_, _] (by simp)).mono (fun q h => h.trans (by rw [hf]))) y67_hcf77) rfl ?_
  refine ar (ro_assign up_h) rfl <| ae4 (up_m rfl (u4 rfl s2_6)) (up_m rfl (u4 rfl s3_6)) (up_m rfl (u4 rfl s4_6)) up_h ?_; clear s2_6 s3_6 s4_6 s7_6 s9_6; intro e_7 s2_7 s3_7 s4_7 s7_7
  refine then_n <| aw_seq <| at_ <| ar (ro_move s7_7) rfl <| ar (ro_neq up_h ev_c) rfl <| ae5 (u2 rfl s2_7) (u2 rfl s3_7) (u2 rfl s4_7) (u2 rfl s7_7) up_h ?_; clear s2_7 s3_7 s4_7 s7_7; intro e_8 s2_8 s3_8 s4_8 s7_8 s30_8
  refine then_n <| aw_case s30_8 (fun hq_9 => ?_) (fun hq_9 => ?_)
  ·replace hq_9 := bnt hq_9
   refine aw_seq <| at_ <| ar (ro_build evP_nil y67_bz26 y67_bu26 y67_bp26 rfl) rfl ?_
   refine ar (ro_move (up_m rfl s7_8)) rfl <| al_stm (st_store (u2 rfl s4_8) (up_m rfl up_h) rfl rfl mo2_3 y67_sz26 rfl (nle rfl)) trivial rfl (fun m_10 hm_10 => ?_)
   have mo2_10 := m_set hm_10 mo2_3
   simp only [pS, Value.cells, Nat.reduceAdd] at mo2_10
   have mo1_10 := m_set_o hm_10 mo1_3 (by decide)
   have mo0_10 := m_set_o hm_10 mo0_3 (by decide)
   have ml_10 := m_set_l hm_10 ml_3
   clear hm_10 mo2_3 mo1_3 mo0_3
   refine ar (ro_assign (up_n up_h)) rfl <| ae2 (up_m rfl (up_n (u2 rfl s4_8))) up_h ?_; clear s2_8 s30_8 s3_8 s4_8 s7_8; intro e_11 s4_11 s5_11
   refine then_n <| aw_ret <| then_r <| ret2 (.inr rfl) (by kernel_rfl) (resV_cell s4_11 mo2_10 y67_ty26 (nle rfl) (by simp)) (resV_tmp s5_11) (vw_r (vw_agg (vwl_cons (.ro _ rfl) (vwl_cons (.nil 4) (vwl_cons (.nil 2) (vwl_cons (.nil 3) vwl_nil)))))) (.ro _ rfl) ?_
   clear s4_11 s5_11 mo2_10 mo1_10 mo0_10 ml_10
   rfl
  · replace hq_9 := bnf hq_9; exfalso; omega
set_option maxRecDepth 100000 in
set_option maxHeartbeats 4000000 in
theorem joined_b (a b : Lin) (ha : Sho a) (hb : Sho b) (hg : (linM a).2 = 0) (he : (linM b).2 ≠ 0) : FnOk Try.prog 39 [lnA a, lnA b] (fun q => q = .tuple [lnA nonL, mA (linM b).2]) := by
  refine fnOk_of (fn := Try.f39) 107 (by kernel_rfl) rfl (by kernel_rfl) (Nat.le_of_ble_eq_true rfl) ?_
  intro e_0 m_0 hA hm_0
  have s0_0 : evA e_0 (.tmp 0) = _ := hA 0 _ rfl
  have s1_0 : evA e_0 (.tmp 1) = _ := hA 1 _ rfl
  have ml_0 : m_0.length = 0 := by rw [hm_0]; rfl
  clear hA hm_0
  refine aw_seq <| at_ <| al_stm (st_box s0_0 rfl ml_0) trivial rfl (fun m_1 hm_1 => ?_)
  have mo0_1 := m_push hm_1 ml_0
  have ml_1 := m_push_l hm_1 ml_0
  have ml_1 : _ = 1 := ml_1
  clear hm_1
  refine al_stm (st_box (up_m rfl s1_0) rfl ml_1) trivial rfl (fun m_2 hm_2 => ?_)
  have mo1_2 := m_push hm_2 ml_1
  have mo0_2 := m_push_o hm_2 mo0_1
  have ml_2 := m_push_l hm_2 ml_1
  have ml_2 : _ = 2 := ml_2
  clear hm_2 mo0_1
  refine al_stm (st_alloc y67_az26 rfl ml_2) trivial rfl (fun m_3 hm_3 => ?_)
  have mo2_3 := m_push hm_3 ml_2
  simp only [pS, Value.cells, Nat.reduceAdd] at mo2_3
  have mo1_3 := m_push_o hm_3 mo1_2
  have mo0_3 := m_push_o hm_3 mo0_2
  have ml_3 := m_push_l hm_3 ml_2
  have ml_3 : _ = 3 := ml_3
  clear hm_3 mo1_2 mo0_2
  refine ar (ro_assign ev_c) rfl <| ae3 (up_m rfl (u2 rfl up_h)) (u2 rfl up_h) (up_m rfl up_h) ?_; clear s0_0 s1_0; intro e_4 s2_4 s3_4 s4_4
  refine then_n <| aw_seq <| at_ <| ar (ro_eq (ro_ld_ptr y67_ty26 rfl mo0_3 s2_4 (nle rfl)) (by simp only [pS, Value.cells, Nat.reduceAdd] <;> rfl)) rfl ?_
  refine ar (ro_call (evL_cons up_h evL_nil) rfl (yOpen_good a ha hg) y67_hcf76) rfl <| ar (ro_move up_h) rfl <| ar (ro_extract up_h rfl) rfl <| ar (ro_extract (up_m rfl up_h) rfl) rfl <| ar (ro_assign (up_m rfl up_h)) rfl <| ar (ro_assign (up_m rfl up_h)) rfl <| ae4 (up_m rfl (u2 rfl (u4 rfl s2_4))) (up_m rfl (u2 rfl (u4 rfl s3_4))) (up_m rfl (u2 rfl (u4 rfl s4_4))) up_h ?_; clear s2_4 s3_4 s4_4; intro e_5 s2_5 s3_5 s4_5 s7_5
  refine then_n <| aw_seq <| at_ <| ar (ro_eq (ro_ld_ptr y67_ty26 rfl mo1_3 s3_5 (nle rfl)) (by simp only [pS, Value.cells, Nat.reduceAdd] <;> rfl)) rfl ?_
  refine ar (ro_call (evL_cons up_h evL_nil) rfl (yOpen_bad b hb he) y67_hcf76) rfl <| ar (ro_move up_h) rfl <| ar (ro_extract up_h rfl) rfl <| ar (ro_extract (up_m rfl up_h) rfl) rfl <| ar (ro_assign (up_m rfl up_h)) rfl <| ar (ro_assign (up_m rfl up_h)) rfl <| ae5 (up_m rfl (u2 rfl (u4 rfl s2_5))) (up_m rfl (u2 rfl (u4 rfl s3_5))) (up_m rfl (u2 rfl (u4 rfl s4_5))) (up_m rfl (u2 rfl (u4 rfl s7_5))) up_h ?_; clear s2_5 s3_5 s4_5 s7_5; intro e_6 s2_6 s3_6 s4_6 s7_6 s9_6
  refine then_n <| aw_seq <| aw_seq <| at_ <| ar (ro_move s7_6) rfl <| ar (ro_move (up_m rfl s9_6)) rfl <| ar (ro_lit y67_sl185 (evP_cons (up_m rfl up_h) (evP_cons up_h evP_nil)) rfl rfl rfl rfl) rfl <| ar (ro_call (evL_cons up_h evL_nil) rfl ((yFirst_ok [_, _] (by simp)).mono (fun q h => h.trans (by rw [firstE_0]))) y67_hcf77) rfl ?_
  refine ar (ro_assign up_h) rfl <| ae4 (up_m rfl (u4 rfl s2_6)) (up_m rfl (u4 rfl s3_6)) (up_m rfl (u4 rfl s4_6)) up_h ?_; clear s2_6 s3_6 s4_6 s7_6 s9_6; intro e_7 s2_7 s3_7 s4_7 s7_7
  refine then_n <| aw_seq <| at_ <| ar (ro_move s7_7) rfl <| ar (ro_neq up_h ev_c) rfl <| ae5 (u2 rfl s2_7) (u2 rfl s3_7) (u2 rfl s4_7) (u2 rfl s7_7) up_h ?_; clear s2_7 s3_7 s4_7 s7_7; intro e_8 s2_8 s3_8 s4_8 s7_8 s30_8
  refine then_n <| aw_case s30_8 (fun hq_9 => ?_) (fun hq_9 => ?_)
  ·replace hq_9 := bnt hq_9
   refine aw_seq <| at_ <| ar (ro_build evP_nil y67_bz26 y67_bu26 y67_bp26 rfl) rfl ?_
   refine ar (ro_move (up_m rfl s7_8)) rfl <| al_stm (st_store (u2 rfl s4_8) (up_m rfl up_h) rfl rfl mo2_3 y67_sz26 rfl (nle rfl)) trivial rfl (fun m_10 hm_10 => ?_)
   have mo2_10 := m_set hm_10 mo2_3
   simp only [pS, Value.cells, Nat.reduceAdd] at mo2_10
   have mo1_10 := m_set_o hm_10 mo1_3 (by decide)
   have mo0_10 := m_set_o hm_10 mo0_3 (by decide)
   have ml_10 := m_set_l hm_10 ml_3
   clear hm_10 mo2_3 mo1_3 mo0_3
   refine ar (ro_assign (up_n up_h)) rfl <| ae2 (up_m rfl (up_n (u2 rfl s4_8))) up_h ?_; clear s2_8 s30_8 s3_8 s4_8 s7_8; intro e_11 s4_11 s5_11
   refine then_n <| aw_ret <| then_r <| ret2 (.inr rfl) (by kernel_rfl) (resV_cell s4_11 mo2_10 y67_ty26 (nle rfl) (by simp)) (resV_tmp s5_11) (vw_r (vw_agg (vwl_cons (.ro _ rfl) (vwl_cons (.nil 4) (vwl_cons (.nil 2) (vwl_cons (.nil 3) vwl_nil)))))) (.ro _ rfl) ?_
   clear s4_11 s5_11 mo2_10 mo1_10 mo0_10 ml_10
   rfl
  · replace hq_9 := bnf hq_9; exfalso; omega
set_option maxRecDepth 100000 in
set_option maxHeartbeats 4000000 in
theorem joined_in (a b : Lin) (ha : Sho a) (hb : Sho b) (hg : (linM a).2 = 0) (hh : (linM b).2 = 0) : FnOk Try.prog 39 [lnA a, lnA b] (fun q => q = joiA a b) := by
  refine fnOk_of (fn := Try.f39) 107 (by kernel_rfl) rfl (by kernel_rfl) (Nat.le_of_ble_eq_true rfl) ?_
  intro e_0 m_0 hA hm_0
  have s0_0 : evA e_0 (.tmp 0) = _ := hA 0 _ rfl
  have s1_0 : evA e_0 (.tmp 1) = _ := hA 1 _ rfl
  have ml_0 : m_0.length = 0 := by rw [hm_0]; rfl
  clear hA hm_0
  have hr := rgt_of hg; have hs := rgt_of hh; have hjs := hr.js; have hks := hs.js; have hn1 := hr.n1; have hn2 := hs.n1; have hn0 := hr.n0; have hj := hr.jnt (a.js.length - 1) (by omega); have hk := hs.jnt 0 (by omega); have hix : ((a.js.length : Int) - 1).toNat = a.js.length - 1 := (by omega)
  refine aw_seq <| at_ <| al_stm (st_box s0_0 rfl ml_0) trivial rfl (fun m_1 hm_1 => ?_)
  have mo0_1 := m_push hm_1 ml_0
  have ml_1 := m_push_l hm_1 ml_0
  have ml_1 : _ = 1 := ml_1
  clear hm_1
  refine al_stm (st_box (up_m rfl s1_0) rfl ml_1) trivial rfl (fun m_2 hm_2 => ?_)
  have mo1_2 := m_push hm_2 ml_1
  have mo0_2 := m_push_o hm_2 mo0_1
  have ml_2 := m_push_l hm_2 ml_1
  have ml_2 : _ = 2 := ml_2
  clear hm_2 mo0_1
  refine al_stm (st_alloc y67_az26 rfl ml_2) trivial rfl (fun m_3 hm_3 => ?_)
  have mo2_3 := m_push hm_3 ml_2
  simp only [pS, Value.cells, Nat.reduceAdd, jnE, set_jn4, app_jn, app_be, hix] at mo2_3
  have mo1_3 := m_push_o hm_3 mo1_2
  have mo0_3 := m_push_o hm_3 mo0_2
  have ml_3 := m_push_l hm_3 ml_2
  have ml_3 : _ = 3 := ml_3
  clear hm_3 mo1_2 mo0_2
  refine ar (ro_assign ev_c) rfl <| ae3 (up_m rfl (u2 rfl up_h)) (u2 rfl up_h) (up_m rfl up_h) ?_; clear s0_0 s1_0; intro e_4 s2_4 s3_4 s4_4
  refine then_n <| aw_seq <| at_ <| ar (ro_eq (ro_ld_ptr y67_ty26 rfl mo0_3 s2_4 (nle rfl)) (by simp only [pS, Value.cells, Nat.reduceAdd, jnE, set_jn4, app_jn, app_be, hix] <;> rfl)) rfl ?_
  refine ar (ro_call (evL_cons up_h evL_nil) rfl (yOpen_good a ha hg) y67_hcf76) rfl <| ar (ro_move up_h) rfl <| ar (ro_extract up_h rfl) rfl <| ar (ro_extract (up_m rfl up_h) rfl) rfl <| ar (ro_assign (up_m rfl up_h)) rfl <| ar (ro_assign (up_m rfl up_h)) rfl <| ae4 (up_m rfl (u2 rfl (u4 rfl s2_4))) (up_m rfl (u2 rfl (u4 rfl s3_4))) (up_m rfl (u2 rfl (u4 rfl s4_4))) up_h ?_; clear s2_4 s3_4 s4_4; intro e_5 s2_5 s3_5 s4_5 s7_5
  refine then_n <| aw_seq <| at_ <| ar (ro_eq (ro_ld_ptr y67_ty26 rfl mo1_3 s3_5 (nle rfl)) (by simp only [pS, Value.cells, Nat.reduceAdd, jnE, set_jn4, app_jn, app_be, hix] <;> rfl)) rfl ?_
  refine ar (ro_call (evL_cons up_h evL_nil) rfl (yOpen_good b hb hh) y67_hcf76) rfl <| ar (ro_move up_h) rfl <| ar (ro_extract up_h rfl) rfl <| ar (ro_extract (up_m rfl up_h) rfl) rfl <| ar (ro_assign (up_m rfl up_h)) rfl <| ar (ro_assign (up_m rfl up_h)) rfl <| ae5 (up_m rfl (u2 rfl (u4 rfl s2_5))) (up_m rfl (u2 rfl (u4 rfl s3_5))) (up_m rfl (u2 rfl (u4 rfl s4_5))) (up_m rfl (u2 rfl (u4 rfl s7_5))) up_h ?_; clear s2_5 s3_5 s4_5 s7_5; intro e_6 s2_6 s3_6 s4_6 s7_6 s9_6
  refine then_n <| aw_seq <| aw_seq <| at_ <| ar (ro_move s7_6) rfl <| ar (ro_move (up_m rfl s9_6)) rfl <| ar (ro_lit y67_sl185 (evP_cons (up_m rfl up_h) (evP_cons up_h evP_nil)) rfl rfl rfl rfl) rfl <| ar (ro_call (evL_cons up_h evL_nil) rfl ((yFirst_ok [_, _] (by simp)).mono (fun q h => show q = mA 0 from h.trans (by rw [firstE_0]))) y67_hcf77) rfl ?_
  refine ar (ro_assign up_h) rfl <| ae4 (up_m rfl (u4 rfl s2_6)) (up_m rfl (u4 rfl s3_6)) (up_m rfl (u4 rfl s4_6)) up_h ?_; clear s2_6 s3_6 s4_6 s7_6 s9_6; intro e_7 s2_7 s3_7 s4_7 s7_7
  refine then_n <| aw_seq <| at_ <| ar (ro_move s7_7) rfl <| ar (ro_neq up_h ev_c) rfl <| ae5 (u2 rfl s2_7) (u2 rfl s3_7) (u2 rfl s4_7) (u2 rfl s7_7) up_h ?_; clear s2_7 s3_7 s4_7 s7_7; intro e_8 s2_8 s3_8 s4_8 s7_8 s30_8
  refine then_n <| aw_case s30_8 (fun hq_9 => ?_) (fun hq_9 => ?_)
  · cases hq_9
  replace hq_9 := bnf hq_9
  refine aw_skip <| then_n <| aw_seq <| aw_drawK 6 4 ml_3 (by kernel_rfl) (by kernel_rfl) (by kernel_rfl) (by kernel_rfl) (fun m_10 hm_10 => ?_)
  have mo2_10 := m_room_o hm_10 mo2_3
  have mo1_10 := m_room_o hm_10 mo1_3
  have mo0_10 := m_room_o hm_10 mo0_3
  have mo3_10 : m_10[3]? = _ := m_room_g hm_10 ml_3 0 rfl rfl
  have mo4_10 : m_10[4]? = _ := m_room_g hm_10 ml_3 1 rfl rfl
  have mo5_10 : m_10[5]? = _ := m_room_g hm_10 ml_3 2 rfl rfl
  have mo6_10 : m_10[6]? = _ := m_room_g hm_10 ml_3 3 rfl rfl
  have ml_10 : _ = 7 := m_room_l (K := 4) hm_10 ml_3
  clear hm_10 mo2_3 mo1_3 mo0_3 ml_3
  refine dh_ld (0) (fun M_ hM_ => (ro_eq (ro_ld_ptr y67_ty26 rfl (agr hM_ mo0_10 (by simp)) s2_8 (nle rfl)) (by simp only [pS, Value.cells, Nat.reduceAdd, jnE, set_jn4, app_jn, app_be, hix] <;> rfl))) trivial trivial ?_
  refine dh_tw (3) (4) (fun M_ hM_ => (tw_call2 1 2 rfl rfl (evL_cons up_h evL_nil) rfl (copied_two a ha hr.ful) y67_hcf95)) trivial mo3_10 mo4_10 rfl rfl trivial ⟨.inl (by simp <;> omega), trivial⟩ ⟨.inl (by simp <;> omega), trivial⟩ (fun m_11 hm_11 => ?_)
  have mo3_11 := m_tw1 hm_11 mo3_10 (by decide)
  have mo4_11 := m_tw2 hm_11 mo4_10
  have mo2_11 := m_tw_o hm_11 mo2_10 (by decide) (by decide)
  have mo1_11 := m_tw_o hm_11 mo1_10 (by decide) (by decide)
  have mo0_11 := m_tw_o hm_11 mo0_10 (by decide) (by decide)
  have mo5_11 := m_tw_o hm_11 mo5_10 (by decide) (by decide)
  have mo6_11 := m_tw_o hm_11 mo6_10 (by decide) (by decide)
  have ml_11 := m_tw_l hm_11 ml_10
  clear hm_11 mo2_10 mo1_10 mo0_10 mo3_10 mo4_10 mo5_10 mo6_10
  refine dh_ld (1) (fun M_ hM_ => (ro_eq (ro_ld_ptr y67_ty26 rfl (agr hM_ mo1_11 (by simp)) (u2 rfl s3_8) (nle rfl)) (by simp only [pS, Value.cells, Nat.reduceAdd, jnE, set_jn4, app_jn, app_be, hix] <;> rfl))) trivial ⟨.inl (by simp <;> omega), ⟨.inl (by simp <;> omega), trivial⟩⟩ ?_
  refine dh_ro (fun M_ hM_ => (ro_call (evL_cons up_h evL_nil) rfl (copied_ok b hb hs.ful) y67_hcf95)) trivial ?_
  refine dh_nw (5) (fun M_ hM_ => (nw_alloc y67_az26 rfl)) trivial mo5_11 rfl ⟨.inl (by simp <;> omega), ⟨.inl (by simp <;> omega), trivial⟩⟩ ⟨.inl (by simp <;> omega), ⟨.inl (by simp <;> omega), ⟨.inl (by simp <;> omega), trivial⟩⟩⟩ (fun m_12 hm_12 => ?_)
  have mo5_12 := m_set hm_12 mo5_11
  simp only [pS, Value.cells, Nat.reduceAdd, jnE, set_jn4, app_jn, app_be, hix] at mo5_12
  have mo3_12 := m_set_o hm_12 mo3_11 (by decide)
  have mo4_12 := m_set_o hm_12 mo4_11 (by decide)
  have mo2_12 := m_set_o hm_12 mo2_11 (by decide)
  have mo1_12 := m_set_o hm_12 mo1_11 (by decide)
  have mo0_12 := m_set_o hm_12 mo0_11 (by decide)
  have mo6_12 := m_set_o hm_12 mo6_11 (by decide)
  have ml_12 := m_set_l hm_12 ml_11
  clear hm_12 mo3_11 mo4_11 mo2_11 mo1_11 mo0_11 mo5_11 mo6_11
  refine dh_nw (6) (fun M_ hM_ => (nw_alloc y67_az26 rfl)) trivial mo6_12 rfl ⟨.inl (by simp <;> omega), ⟨.inl (by simp <;> omega), ⟨.inl (by simp <;> omega), trivial⟩⟩⟩ ⟨.inl (by simp <;> omega), ⟨.inl (by simp <;> omega), ⟨.inl (by simp <;> omega), ⟨.inl (by simp <;> omega), trivial⟩⟩⟩⟩ (fun m_13 hm_13 => ?_)
  have mo6_13 := m_set hm_13 mo6_12
  simp only [pS, Value.cells, Nat.reduceAdd, jnE, set_jn4, app_jn, app_be, hix] at mo6_13
  have mo5_13 := m_set_o hm_13 mo5_12 (by decide)
  have mo3_13 := m_set_o hm_13 mo3_12 (by decide)
  have mo4_13 := m_set_o hm_13 mo4_12 (by decide)
  have mo2_13 := m_set_o hm_13 mo2_12 (by decide)
  have mo1_13 := m_set_o hm_13 mo1_12 (by decide)
  have mo0_13 := m_set_o hm_13 mo0_12 (by decide)
  have ml_13 := m_set_l hm_13 ml_12
  clear hm_13 mo5_12 mo3_12 mo4_12 mo2_12 mo1_12 mo0_12 mo6_12
  refine dh_nil rfl ?_
  refine al_stm (st_storeO (up_m rfl up_h) (u4 rfl up_h) rfl (oneL_c rfl (oneL_o mo3_13 (oneL_o mo4_13 (oneL_c rfl oneL_nil)))) mo5_13 y67_sz26 rfl (nle rfl)) trivial rfl (fun m_14 hm_14 => ?_)
  have mo5_14 := m_set hm_14 mo5_13
  simp only [pS, Value.cells, Nat.reduceAdd, jnE, set_jn4, app_jn, app_be, hix] at mo5_14
  have mo6_14 := m_set_o hm_14 mo6_13 (by decide)
  have mo3_14 := m_set_o hm_14 mo3_13 (by decide)
  have mo4_14 := m_set_o hm_14 mo4_13 (by decide)
  have mo2_14 := m_set_o hm_14 mo2_13 (by decide)
  have mo1_14 := m_set_o hm_14 mo1_13 (by decide)
  have mo0_14 := m_set_o hm_14 mo0_13 (by decide)
  have ml_14 := m_set_l hm_14 ml_13
  clear hm_14 mo6_13 mo5_13 mo3_13 mo4_13 mo2_13 mo1_13 mo0_13
  refine al_stm (st_store (up_n up_h) (up_n (u2 rfl up_h)) rfl rfl mo6_14 y67_sz26 rfl (nle rfl)) trivial rfl (fun m_15 hm_15 => ?_)
  have mo6_15 := m_set hm_15 mo6_14
  simp only [pS, Value.cells, Nat.reduceAdd, jnE, set_jn4, app_jn, app_be, hix] at mo6_15
  have mo5_15 := m_set_o hm_15 mo5_14 (by decide)
  have mo3_15 := m_set_o hm_15 mo3_14 (by decide)
  have mo4_15 := m_set_o hm_15 mo4_14 (by decide)
  have mo2_15 := m_set_o hm_15 mo2_14 (by decide)
  have mo1_15 := m_set_o hm_15 mo1_14 (by decide)
  have mo0_15 := m_set_o hm_15 mo0_14 (by decide)
  have ml_15 := m_set_l hm_15 ml_14
  clear hm_15 mo5_14 mo6_14 mo3_14 mo4_14 mo2_14 mo1_14 mo0_14
  refine ae5 (up_n (up_n (u2 rfl (u4 rfl s2_8)))) (up_n (up_n (u2 rfl (u4 rfl s3_8)))) (up_n (up_n (u2 rfl (u4 rfl s4_8)))) (up_n (up_n (up_m rfl up_h))) (up_n (up_n up_h)) ?_; clear s2_8 s30_8 s3_8 s4_8 s7_8; intro e_16 s2_16 s3_16 s4_16 s10_16 s11_16
  refine then_n <| aw_seq <| aw_drawK 13 1 ml_15 (by kernel_rfl) (by kernel_rfl) (by kernel_rfl) (by kernel_rfl) (fun m_17 hm_17 => ?_)
  have mo6_17 := m_room_o hm_17 mo6_15
  have mo5_17 := m_room_o hm_17 mo5_15
  have mo3_17 := m_room_o hm_17 mo3_15
  have mo4_17 := m_room_o hm_17 mo4_15
  have mo2_17 := m_room_o hm_17 mo2_15
  have mo1_17 := m_room_o hm_17 mo1_15
  have mo0_17 := m_room_o hm_17 mo0_15
  have mo7_17 : m_17[7]? = _ := m_room_g hm_17 ml_15 0 rfl rfl
  have ml_17 : _ = 8 := m_room_l (K := 1) hm_17 ml_15
  clear hm_17 mo6_15 mo5_15 mo3_15 mo4_15 mo2_15 mo1_15 mo0_15 ml_15
  refine dh_ro (fun M_ hM_ => (ro_fld_ptr y67_fl26_1 rfl s10_16)) trivial ?_
  refine dh_ld (5) (fun M_ hM_ => (ro_eq (ro_ld_ptr y67_ty22 rfl (agr hM_ mo5_17 (by simp)) up_h (nle rfl)) (by simp only [pS, Value.cells, Nat.reduceAdd, jnE, set_jn4, app_jn, app_be, hix] <;> rfl))) trivial trivial ?_
  refine dh_ro (fun M_ hM_ => (ro_fld_ptr y67_fl26_1 rfl (u2 rfl s10_16))) trivial ?_
  refine dh_ld (5) (fun M_ hM_ => (ro_eq (ro_ld_ptr y67_ty22 rfl (agr hM_ mo5_17 (by simp)) up_h (nle rfl)) (by simp only [pS, Value.cells, Nat.reduceAdd, jnE, set_jn4, app_jn, app_be, hix] <;> rfl))) trivial trivial ?_
  refine dh_ld (3) (fun M_ hM_ => (ro_eq (ro_len_own up_h (agr hM_ mo3_17 (by simp)) rfl y67_sl22.1) (by simp only [lnS] <;> rfl))) trivial trivial ?_
  (refine dh_ro (fun M_ hM_ => (ro_sub' up_h ev_c ?_)) trivial ?_; · (unfold In64; omega))
  refine dh_ld (3) (fun M_ hM_ => (ro_ix_own y67_sl22 (agr hM_ mo3_17 (by simp)) (u4 rfl up_h) up_h (by omega) (by simp only [lnS] <;> omega))) trivial trivial ?_
  refine dh_ro (fun M_ hM_ => (ro_fld_ptr y67_fl26_1 rfl (up_m rfl (u2 rfl (u4 rfl s11_16))))) trivial ?_
  refine dh_ld (6) (fun M_ hM_ => (ro_eq (ro_ld_ptr y67_ty22 rfl (agr hM_ mo6_17 (by simp)) up_h (nle rfl)) (by simp only [pS, Value.cells, Nat.reduceAdd, jnE, set_jn4, app_jn, app_be, hix] <;> rfl))) trivial trivial ?_
  refine dh_ro (fun M_ hM_ => (ro_eq (ro_ix y67_sl22 up_h ev_c (by decide) (by refine idx_map ?_; first | omega | (simp only [lnS]; omega))) (by simp only [pS, Value.cells, Nat.reduceAdd, jnE, set_jn4, app_jn, app_be, hix] <;> rfl))) trivial ?_
  refine dh_ro (fun M_ hM_ => (ro_eq (ro_ld_ref y67_ty70 rfl up_h (nle rfl)) (by simp only [pS, Value.cells, Nat.reduceAdd, jnE, set_jn4, app_jn, app_be, hix] <;> rfl))) trivial ?_
  refine dh_nw (7) (fun M_ hM_ => (nw_alloc y67_az70 rfl)) trivial mo7_17 rfl trivial ⟨.inl (by simp <;> omega), ⟨.inl (by simp <;> omega), ⟨.inl (by simp <;> omega), ⟨.inl (by simp <;> omega), ⟨.inl (by simp <;> omega), trivial⟩⟩⟩⟩⟩ (fun m_18 hm_18 => ?_)
  have mo7_18 := m_set hm_18 mo7_17
  simp only [pS, Value.cells, Nat.reduceAdd, jnE, set_jn4, app_jn, app_be, hix] at mo7_18
  have mo6_18 := m_set_o hm_18 mo6_17 (by decide)
  have mo5_18 := m_set_o hm_18 mo5_17 (by decide)
  have mo3_18 := m_set_o hm_18 mo3_17 (by decide)
  have mo4_18 := m_set_o hm_18 mo4_17 (by decide)
  have mo2_18 := m_set_o hm_18 mo2_17 (by decide)
  have mo1_18 := m_set_o hm_18 mo1_17 (by decide)
  have mo0_18 := m_set_o hm_18 mo0_17 (by decide)
  have ml_18 := m_set_l hm_18 ml_17
  clear hm_18 mo6_17 mo5_17 mo3_17 mo4_17 mo2_17 mo1_17 mo0_17 mo7_17
  refine dh_ro (fun M_ hM_ => (ro_assign (up_m rfl (u4 rfl up_h)))) trivial ?_
  refine dh_nil rfl ?_
  refine al_stm (st_store (up_m rfl up_h) (u2 rfl up_h) rfl rfl mo7_18 y67_sz70 rfl (nle rfl)) trivial rfl (fun m_19 hm_19 => ?_)
  have mo7_19 := m_set hm_19 mo7_18
  simp only [pS, Value.cells, Nat.reduceAdd, jnE, set_jn4, app_jn, app_be, hix] at mo7_19
  have mo6_19 := m_set_o hm_19 mo6_18 (by decide)
  have mo5_19 := m_set_o hm_19 mo5_18 (by decide)
  have mo3_19 := m_set_o hm_19 mo3_18 (by decide)
  have mo4_19 := m_set_o hm_19 mo4_18 (by decide)
  have mo2_19 := m_set_o hm_19 mo2_18 (by decide)
  have mo1_19 := m_set_o hm_19 mo1_18 (by decide)
  have mo0_19 := m_set_o hm_19 mo0_18 (by decide)
  have ml_19 := m_set_l hm_19 ml_18
  clear hm_19 mo7_18 mo6_18 mo5_18 mo3_18 mo4_18 mo2_18 mo1_18 mo0_18
  refine ae7 (up_n (up_m rfl (u4 rfl (u8 rfl s2_16)))) (up_n (up_m rfl (u4 rfl (u8 rfl s3_16)))) (up_n (up_m rfl (u4 rfl (u8 rfl s4_16)))) (up_n (up_m rfl (u4 rfl (u8 rfl s10_16)))) (up_n (up_m rfl (u4 rfl (u8 rfl s11_16)))) (up_n up_h) (up_n (up_m rfl up_h)) ?_; clear s10_16 s11_16 s2_16 s3_16 s4_16; intro e_20 s2_20 s3_20 s4_20 s10_20 s11_20 s12_20 s13_20
  refine then_n <| aw_seq <| aw_drawK 8 1 ml_19 (by kernel_rfl) (by kernel_rfl) (by kernel_rfl) (by kernel_rfl) (fun m_21 hm_21 => ?_)
  have mo7_21 := m_room_o hm_21 mo7_19
  have mo6_21 := m_room_o hm_21 mo6_19
  have mo5_21 := m_room_o hm_21 mo5_19
  have mo3_21 := m_room_o hm_21 mo3_19
  have mo4_21 := m_room_o hm_21 mo4_19
  have mo2_21 := m_room_o hm_21 mo2_19
  have mo1_21 := m_room_o hm_21 mo1_19
  have mo0_21 := m_room_o hm_21 mo0_19
  have mo8_21 : m_21[8]? = _ := m_room_g hm_21 ml_19 0 rfl rfl
  have ml_21 : _ = 9 := m_room_l (K := 1) hm_21 ml_19
  clear hm_21 mo7_19 mo6_19 mo5_19 mo3_19 mo4_19 mo2_19 mo1_19 mo0_19 ml_19
  refine dh_ro (fun M_ hM_ => (ro_move s12_20)) trivial ?_
  refine dh_ro (fun M_ hM_ => (ro_nilP up_h)) trivial ?_
  refine dh_ro (fun M_ hM_ => (ro_fld_el (o := 0) y67_fl70_2 rfl up_h)) trivial ?_
  refine dh_ld (3) (fun M_ hM_ => (ro_eq (ro_ld_elO y67_ty39 rfl (agr hM_ mo3_21 (by simp)) up_h (nle rfl) (by first | (refine idx_map ?_; first | omega | (simp only [lnS]; omega)) | (refine idx_mapI ?_; first | omega | (simp only [lnS]; omega)) | (refine idx_mapN ?_; first | omega | (simp only [lnS]; omega)) | rfl)) (by simp only [pS, Value.cells, Nat.reduceAdd, jnE, set_jn4, app_jn, app_be, hix] <;> rfl))) trivial trivial ?_
  refine dh_ro (fun M_ hM_ => (ro_fld_ptr y67_fl70_2 rfl (u4 rfl s13_20))) trivial ?_
  refine dh_ld (7) (fun M_ hM_ => (ro_eq (ro_ld_ptr y67_ty39 rfl (agr hM_ mo7_21 (by simp)) up_h (nle rfl)) (by simp only [pS, Value.cells, Nat.reduceAdd, jnE, set_jn4, app_jn, app_be, hix] <;> rfl))) trivial trivial ?_
  refine dh_ro (fun M_ hM_ => (ro_call (evL_cons (u2 rfl up_h) (evL_cons up_h evL_nil)) rfl (common_ok _ _ _ _) y67_hcf96)) trivial ?_
  refine dh_nw (8) (fun M_ hM_ => (nw_alloc y67_az39 rfl)) trivial mo8_21 rfl trivial ⟨.inl (by simp <;> omega), ⟨.inl (by simp <;> omega), trivial⟩⟩ (fun m_22 hm_22 => ?_)
  have mo8_22 := m_set hm_22 mo8_21
  simp only [pS, Value.cells, Nat.reduceAdd, jnE, set_jn4, app_jn, app_be, hix] at mo8_22
  have mo7_22 := m_set_o hm_22 mo7_21 (by decide)
  have mo6_22 := m_set_o hm_22 mo6_21 (by decide)
  have mo5_22 := m_set_o hm_22 mo5_21 (by decide)
  have mo3_22 := m_set_o hm_22 mo3_21 (by decide)
  have mo4_22 := m_set_o hm_22 mo4_21 (by decide)
  have mo2_22 := m_set_o hm_22 mo2_21 (by decide)
  have mo1_22 := m_set_o hm_22 mo1_21 (by decide)
  have mo0_22 := m_set_o hm_22 mo0_21 (by decide)
  have ml_22 := m_set_l hm_22 ml_21
  clear hm_22 mo7_21 mo6_21 mo5_21 mo3_21 mo4_21 mo2_21 mo1_21 mo0_21 mo8_21
  refine dh_nil rfl ?_
  refine al_stm (st_store up_h (up_m rfl up_h) rfl rfl mo8_22 y67_sz39 rfl (nle rfl)) trivial rfl (fun m_23 hm_23 => ?_)
  have mo8_23 := m_set hm_23 mo8_22
  simp only [pS, Value.cells, Nat.reduceAdd, jnE, set_jn4, app_jn, app_be, hix] at mo8_23
  have mo7_23 := m_set_o hm_23 mo7_22 (by decide)
  have mo6_23 := m_set_o hm_23 mo6_22 (by decide)
  have mo5_23 := m_set_o hm_23 mo5_22 (by decide)
  have mo3_23 := m_set_o hm_23 mo3_22 (by decide)
  have mo4_23 := m_set_o hm_23 mo4_22 (by decide)
  have mo2_23 := m_set_o hm_23 mo2_22 (by decide)
  have mo1_23 := m_set_o hm_23 mo1_22 (by decide)
  have mo0_23 := m_set_o hm_23 mo0_22 (by decide)
  have ml_23 := m_set_l hm_23 ml_22
  clear hm_23 mo8_22 mo7_22 mo6_22 mo5_22 mo3_22 mo4_22 mo2_22 mo1_22 mo0_22
  refine ae8 (up_n (u8 rfl s2_20)) (up_n (u8 rfl s3_20)) (up_n (u8 rfl s4_20)) (up_n (u8 rfl s10_20)) (up_n (u8 rfl s11_20)) (up_n (u8 rfl s12_20)) (up_n (u8 rfl s13_20)) (up_n up_h) ?_; clear s10_20 s11_20 s12_20 s13_20 s2_20 s3_20 s4_20; intro e_24 s2_24 s3_24 s4_24 s10_24 s11_24 s12_24 s13_24 s14_24
  refine then_n <| aw_seq <| aw_seq <| aw_draw 23 (by kernel_rfl) (by kernel_rfl) (by kernel_rfl) (by kernel_rfl) ?_
  refine dr (ro_move s12_24) rfl <| dr (ro_nilP up_h) rfl <| dr (ro_fld_ptr y67_fl70_0 rfl up_h) rfl <| dr (ro_eq (ro_ld_el y67_ty3 rfl mo3_23 up_h (nle rfl) (by first | (refine idx_map ?_; first | omega | (simp only [lnS]; omega)) | (refine idx_mapI ?_; first | omega | (simp only [lnS]; omega)) | (refine idx_mapN ?_; first | omega | (simp only [lnS]; omega)) | rfl)) (by simp only [pS, Value.cells, Nat.reduceAdd, jnE, set_jn4, app_jn, app_be, hix] <;> rfl)) rfl ?_
  refine dr (ro_fld_ptr y67_fl70_0 rfl (u4 rfl s13_24)) rfl <| dr (ro_eq (ro_ld_ptr y67_ty3 rfl mo7_23 up_h (nle rfl)) (by simp only [pS, Value.cells, Nat.reduceAdd, jnE, set_jn4, app_jn, app_be, hix] <;> rfl)) rfl ?_
  refine dr (ro_neq (u2 rfl up_h) up_h) rfl <| dr (ro_move up_h) rfl <| ds_case up_h (fun hb_25 hq_25 => ?_) (fun hb_25 hq_25 => ?_)
  ·replace hq_25 := bnt hq_25
   refine ds_skip' ⟨_, rfl, .inl hb_25⟩ rfl ?_
   refine ds_skip' ⟨_, rfl, .inl (up_m rfl hb_25)⟩ rfl ?_
   refine ds_skip' ⟨_, rfl, .inl (u2 rfl hb_25)⟩ rfl ?_
   refine ds_skip' ⟨_, rfl, .inl (up_m rfl (u2 rfl hb_25))⟩ rfl ?_
   refine ds_skip' ⟨_, rfl, .inl (u4 rfl hb_25)⟩ rfl ?_
   refine ds_skip' ⟨_, rfl, .inl (up_m rfl (u4 rfl hb_25))⟩ rfl ?_
   refine ds_skip' ⟨_, rfl, .inl (u2 rfl (u4 rfl hb_25))⟩ rfl ?_
   refine dr (ro_pickT (up_m rfl (u2 rfl (u4 rfl hb_25))) ev_c) rfl <| dr (ro_move up_h) rfl <| ds_skip' ⟨_, rfl, .inl up_h⟩ rfl ?_
   refine ds_skip' ⟨_, rfl, .inl (up_m rfl up_h)⟩ rfl ?_
   refine ds_skip' ⟨_, rfl, .inl (u2 rfl up_h)⟩ rfl ?_
   refine ds_skip' ⟨_, rfl, .inl (up_m rfl (u2 rfl up_h))⟩ rfl ?_
   refine ds_skip' ⟨_, rfl, .inl (u4 rfl up_h)⟩ rfl ?_
   refine dr (ro_pickT (up_m rfl (u4 rfl up_h)) ev_c) rfl <| ds_nil <| ae8 (up_m rfl (u2 rfl (u4 rfl (u16 rfl s2_24)))) (up_m rfl (u2 rfl (u4 rfl (u16 rfl s3_24)))) (up_m rfl (u2 rfl (u4 rfl (u16 rfl s4_24)))) (up_m rfl (u2 rfl (u4 rfl (u16 rfl s10_24)))) (up_m rfl (u2 rfl (u4 rfl (u16 rfl s11_24)))) (up_m rfl (u2 rfl (u4 rfl (u16 rfl s12_24)))) (up_m rfl (u2 rfl (u4 rfl (u16 rfl s14_24)))) up_h ?_; clear hb_25 s10_24 s11_24 s12_24 s13_24 s14_24 s2_24 s3_24 s4_24; intro e_26 s2_26 s3_26 s4_26 s10_26 s11_26 s12_26 s14_26 s77_26
   refine then_n <| aw_true s77_26 <| aw_seq <| at_ <| ar (ro_build evP_nil y67_bz26 y67_bu26 y67_bp26 rfl) rfl ?_
   refine al_stm (st_store (up_m rfl s4_26) up_h rfl rfl mo2_23 y67_sz26 rfl (nle rfl)) trivial rfl (fun m_28 hm_28 => ?_)
   have mo2_28 := m_set hm_28 mo2_23
   simp only [pS, Value.cells, Nat.reduceAdd, jnE, set_jn4, app_jn, app_be, hix] at mo2_28
   have mo8_28 := m_set_o hm_28 mo8_23 (by decide)
   have mo7_28 := m_set_o hm_28 mo7_23 (by decide)
   have mo6_28 := m_set_o hm_28 mo6_23 (by decide)
   have mo5_28 := m_set_o hm_28 mo5_23 (by decide)
   have mo3_28 := m_set_o hm_28 mo3_23 (by decide)
   have mo4_28 := m_set_o hm_28 mo4_23 (by decide)
   have mo1_28 := m_set_o hm_28 mo1_23 (by decide)
   have mo0_28 := m_set_o hm_28 mo0_23 (by decide)
   have ml_28 := m_set_l hm_28 ml_23
   clear hm_28 mo8_23 mo7_23 mo6_23 mo5_23 mo3_23 mo4_23 mo2_23 mo1_23 mo0_23
   refine ar (ro_assign ev_c) rfl <| ae2 (up_m rfl (up_n (up_m rfl s4_26))) up_h ?_; clear s10_26 s11_26 s12_26 s14_26 s2_26 s3_26 s4_26 s77_26; intro e_29 s4_29 s5_29
   refine then_n <| aw_ret <| then_r <| ret2 (.inr rfl) (by kernel_rfl) (resV_cell s4_29 mo2_28 y67_ty26 (nle rfl) (by simp)) (resV_tmp s5_29) (vw_r (vw_agg (vwl_cons (.ro _ rfl) (vwl_cons (.nil 4) (vwl_cons (.nil 2) (vwl_cons (.nil 3) vwl_nil)))))) (.ro _ rfl) ?_
   clear s4_29 s5_29 mo2_28 mo8_28 mo7_28 mo6_28 mo5_28 mo3_28 mo4_28 mo1_28 mo0_28 ml_28
   (have hz : joiX a b = 13 := (by unfold joiX joiJ; dsimp only; rw [if_neg (by omega)]); rw [joiA_n (by omega), hz]; rfl)
  replace hq_25 := bnf hq_25
  refine ds_ro' (ro_move (u8 rfl s12_24)) ⟨_, rfl, hb_25⟩ rfl ?_
  refine ds_ro' (ro_nilP up_h) ⟨_, rfl, (up_m rfl hb_25)⟩ rfl ?_
  refine ds_ro' (ro_fld_el (o := 0) y67_fl70_1 rfl up_h) ⟨_, rfl, (u2 rfl hb_25)⟩ rfl ?_
  refine ds_ro' (ro_eq (ro_ld_elO y67_ty3 rfl mo3_23 up_h (nle rfl) (by first | (refine idx_map ?_; first | omega | (simp only [lnS]; omega)) | (refine idx_mapI ?_; first | omega | (simp only [lnS]; omega)) | (refine idx_mapN ?_; first | omega | (simp only [lnS]; omega)) | rfl)) (by simp only [pS, Value.cells, Nat.reduceAdd, jnE, set_jn4, app_jn, app_be, hix] <;> rfl)) ⟨_, rfl, (up_m rfl (u2 rfl hb_25))⟩ rfl ?_
  refine ds_ro' (ro_fld_ptr y67_fl70_1 rfl (u4 rfl (u8 rfl s13_24))) ⟨_, rfl, (u4 rfl hb_25)⟩ rfl ?_
  refine ds_ro' (ro_eq (ro_ld_ptr y67_ty3 rfl mo7_23 up_h (nle rfl)) (by simp only [pS, Value.cells, Nat.reduceAdd, jnE, set_jn4, app_jn, app_be, hix] <;> rfl)) ⟨_, rfl, (up_m rfl (u4 rfl hb_25))⟩ rfl ?_
  refine ds_ro' (ro_neq (u2 rfl up_h) up_h) ⟨_, rfl, (u2 rfl (u4 rfl hb_25))⟩ rfl ?_
  refine dr (ro_pickF (up_m rfl (u2 rfl (u4 rfl hb_25))) up_h) rfl <| dr (ro_move up_h) rfl <| ds_case up_h (fun hb_30 hq_30 => ?_) (fun hb_30 hq_30 => ?_)
  ·replace hq_30 := bnt hq_30
   refine ds_skip' ⟨_, rfl, .inl hb_30⟩ rfl ?_
   refine ds_skip' ⟨_, rfl, .inl (up_m rfl hb_30)⟩ rfl ?_
   refine ds_skip' ⟨_, rfl, .inl (u2 rfl hb_30)⟩ rfl ?_
   refine ds_skip' ⟨_, rfl, .inl (up_m rfl (u2 rfl hb_30))⟩ rfl ?_
   refine ds_skip' ⟨_, rfl, .inl (u4 rfl hb_30)⟩ rfl ?_
   refine dr (ro_pickT (up_m rfl (u4 rfl hb_30)) ev_c) rfl <| ds_nil <| ae8 (up_m rfl (u2 rfl (u4 rfl (u16 rfl s2_24)))) (up_m rfl (u2 rfl (u4 rfl (u16 rfl s3_24)))) (up_m rfl (u2 rfl (u4 rfl (u16 rfl s4_24)))) (up_m rfl (u2 rfl (u4 rfl (u16 rfl s10_24)))) (up_m rfl (u2 rfl (u4 rfl (u16 rfl s11_24)))) (up_m rfl (u2 rfl (u4 rfl (u16 rfl s12_24)))) (up_m rfl (u2 rfl (u4 rfl (u16 rfl s14_24)))) up_h ?_; clear hb_25 hb_30 s10_24 s11_24 s12_24 s13_24 s14_24 s2_24 s3_24 s4_24; intro e_31 s2_31 s3_31 s4_31 s10_31 s11_31 s12_31 s14_31 s77_31
   refine then_n <| aw_true s77_31 <| aw_seq <| at_ <| ar (ro_build evP_nil y67_bz26 y67_bu26 y67_bp26 rfl) rfl ?_
   refine al_stm (st_store (up_m rfl s4_31) up_h rfl rfl mo2_23 y67_sz26 rfl (nle rfl)) trivial rfl (fun m_33 hm_33 => ?_)
   have mo2_33 := m_set hm_33 mo2_23
   simp only [pS, Value.cells, Nat.reduceAdd, jnE, set_jn4, app_jn, app_be, hix] at mo2_33
   have mo8_33 := m_set_o hm_33 mo8_23 (by decide)
   have mo7_33 := m_set_o hm_33 mo7_23 (by decide)
   have mo6_33 := m_set_o hm_33 mo6_23 (by decide)
   have mo5_33 := m_set_o hm_33 mo5_23 (by decide)
   have mo3_33 := m_set_o hm_33 mo3_23 (by decide)
   have mo4_33 := m_set_o hm_33 mo4_23 (by decide)
   have mo1_33 := m_set_o hm_33 mo1_23 (by decide)
   have mo0_33 := m_set_o hm_33 mo0_23 (by decide)
   have ml_33 := m_set_l hm_33 ml_23
   clear hm_33 mo8_23 mo7_23 mo6_23 mo5_23 mo3_23 mo4_23 mo2_23 mo1_23 mo0_23
   refine ar (ro_assign ev_c) rfl <| ae2 (up_m rfl (up_n (up_m rfl s4_31))) up_h ?_; clear s10_31 s11_31 s12_31 s14_31 s2_31 s3_31 s4_31 s77_31; intro e_34 s4_34 s5_34
   refine then_n <| aw_ret <| then_r <| ret2 (.inr rfl) (by kernel_rfl) (resV_cell s4_34 mo2_33 y67_ty26 (nle rfl) (by simp)) (resV_tmp s5_34) (vw_r (vw_agg (vwl_cons (.ro _ rfl) (vwl_cons (.nil 4) (vwl_cons (.nil 2) (vwl_cons (.nil 3) vwl_nil)))))) (.ro _ rfl) ?_
   clear s4_34 s5_34 mo2_33 mo8_33 mo7_33 mo6_33 mo5_33 mo3_33 mo4_33 mo1_33 mo0_33 ml_33
   (have hz : joiX a b = 13 := (by unfold joiX joiJ; dsimp only; rw [if_neg (by omega)]); rw [joiA_n (by omega), hz]; rfl)
  replace hq_30 := bnf hq_30
  refine ds_ro' (ro_fld_ptr y67_fl39_0 rfl (up_m rfl (u16 rfl s14_24))) ⟨_, rfl, hb_30⟩ rfl ?_
  refine ds_ro' (ro_eq (ro_ld_ptr y67_ty3 rfl mo8_23 up_h (nle rfl)) (by simp only [pS, Value.cells, Nat.reduceAdd, jnE, set_jn4, app_jn, app_be, hix] <;> rfl)) ⟨_, rfl, (up_m rfl hb_30)⟩ rfl ?_
  refine ds_ro' (ro_fld_ptr y67_fl39_1 rfl (up_m rfl (u2 rfl (u16 rfl s14_24)))) ⟨_, rfl, (u2 rfl hb_30)⟩ rfl ?_
  refine ds_ro' (ro_eq (ro_ld_ptr y67_ty3 rfl mo8_23 up_h (nle rfl)) (by simp only [pS, Value.cells, Nat.reduceAdd, jnE, set_jn4, app_jn, app_be, hix] <;> rfl)) ⟨_, rfl, (up_m rfl (u2 rfl hb_30))⟩ rfl ?_
  refine ds_ro' (ro_gtr (u2 rfl up_h) up_h) ⟨_, rfl, (u4 rfl hb_30)⟩ rfl ?_
  refine dr (ro_pickF (up_m rfl (u4 rfl hb_30)) up_h) rfl <| ds_nil <| ae8 (up_m rfl (u2 rfl (u4 rfl (u16 rfl s2_24)))) (up_m rfl (u2 rfl (u4 rfl (u16 rfl s3_24)))) (up_m rfl (u2 rfl (u4 rfl (u16 rfl s4_24)))) (up_m rfl (u2 rfl (u4 rfl (u16 rfl s10_24)))) (up_m rfl (u2 rfl (u4 rfl (u16 rfl s11_24)))) (up_m rfl (u2 rfl (u4 rfl (u16 rfl s12_24)))) (up_m rfl (u2 rfl (u4 rfl (u16 rfl s14_24)))) up_h ?_; clear hb_25 hb_30 s10_24 s11_24 s12_24 s13_24 s14_24 s2_24 s3_24 s4_24; intro e_35 s2_35 s3_35 s4_35 s10_35 s11_35 s12_35 s14_35 s77_35
  refine then_n <| aw_case s77_35 (fun hq_36 => ?_) (fun hq_36 => ?_)
  ·replace hq_36 := bt hq_36
   refine aw_seq <| at_ <| ar (ro_build evP_nil y67_bz26 y67_bu26 y67_bp26 rfl) rfl ?_
   refine al_stm (st_store (up_m rfl s4_35) up_h rfl rfl mo2_23 y67_sz26 rfl (nle rfl)) trivial rfl (fun m_37 hm_37 => ?_)
   have mo2_37 := m_set hm_37 mo2_23
   simp only [pS, Value.cells, Nat.reduceAdd, jnE, set_jn4, app_jn, app_be, hix] at mo2_37
   have mo8_37 := m_set_o hm_37 mo8_23 (by decide)
   have mo7_37 := m_set_o hm_37 mo7_23 (by decide)
   have mo6_37 := m_set_o hm_37 mo6_23 (by decide)
   have mo5_37 := m_set_o hm_37 mo5_23 (by decide)
   have mo3_37 := m_set_o hm_37 mo3_23 (by decide)
   have mo4_37 := m_set_o hm_37 mo4_23 (by decide)
   have mo1_37 := m_set_o hm_37 mo1_23 (by decide)
   have mo0_37 := m_set_o hm_37 mo0_23 (by decide)
   have ml_37 := m_set_l hm_37 ml_23
   clear hm_37 mo8_23 mo7_23 mo6_23 mo5_23 mo3_23 mo4_23 mo2_23 mo1_23 mo0_23
   refine ar (ro_assign ev_c) rfl <| ae2 (up_m rfl (up_n (up_m rfl s4_35))) up_h ?_; clear s10_35 s11_35 s12_35 s14_35 s2_35 s3_35 s4_35 s77_35; intro e_38 s4_38 s5_38
   refine then_n <| aw_ret <| then_r <| ret2 (.inr rfl) (by kernel_rfl) (resV_cell s4_38 mo2_37 y67_ty26 (nle rfl) (by simp)) (resV_tmp s5_38) (vw_r (vw_agg (vwl_cons (.ro _ rfl) (vwl_cons (.nil 4) (vwl_cons (.nil 2) (vwl_cons (.nil 3) vwl_nil)))))) (.ro _ rfl) ?_
   clear s4_38 s5_38 mo2_37 mo8_37 mo7_37 mo6_37 mo5_37 mo3_37 mo4_37 mo1_37 mo0_37 ml_37
   (have hz : joiX a b = 13 := (by unfold joiX joiJ; dsimp only; rw [if_neg (by omega)]); rw [joiA_n (by omega), hz]; rfl)
  replace hq_36 := bf hq_36
  refine aw_skip <| then_n <| aw_seq <| aw_seq <| at_ <| ar (ro_fld_ptr y67_fl26_2 rfl s2_35) rfl <| ar (ro_eq (ro_ld_ptr y67_ty23 rfl mo0_23 up_h (nle rfl)) (by simp only [pS, Value.cells, Nat.reduceAdd, jnE, set_jn4, app_jn, app_be, hix] <;> rfl)) rfl ?_
  refine ar (ro_eq (ro_len_row up_h rfl y67_sl23.1) (by simp only [lnS] <;> rfl)) rfl ?_
  refine ar (ro_fld_ptr y67_fl26_2 rfl (up_m rfl (u2 rfl s3_35))) rfl <| ar (ro_eq (ro_ld_ptr y67_ty23 rfl mo1_23 up_h (nle rfl)) (by simp only [pS, Value.cells, Nat.reduceAdd, jnE, set_jn4, app_jn, app_be, hix] <;> rfl)) rfl ?_
  refine ar (ro_eq (ro_len_row up_h rfl y67_sl23.1) (by simp only [lnS] <;> rfl)) rfl ?_
  (refine ar (ro_add' (up_m rfl (u2 rfl up_h)) up_h ?_) rfl ?_; · (unfold In64; omega))
  refine ar (ro_gtr up_h ev_c) rfl <| ae6 (u8 rfl s4_35) (u8 rfl s10_35) (u8 rfl s11_35) (u8 rfl s12_35) (u8 rfl s14_35) up_h ?_; clear s10_35 s11_35 s12_35 s14_35 s2_35 s3_35 s4_35 s77_35; intro e_39 s4_39 s10_39 s11_39 s12_39 s14_39 s86_39
  refine then_n <| aw_case s86_39 (fun hq_40 => ?_) (fun hq_40 => ?_)
  ·replace hq_40 := bt hq_40
   refine aw_seq <| at_ <| ar (ro_build evP_nil y67_bz26 y67_bu26 y67_bp26 rfl) rfl ?_
   refine al_stm (st_store (up_m rfl s4_39) up_h rfl rfl mo2_23 y67_sz26 rfl (nle rfl)) trivial rfl (fun m_41 hm_41 => ?_)
   have mo2_41 := m_set hm_41 mo2_23
   simp only [pS, Value.cells, Nat.reduceAdd, jnE, set_jn4, app_jn, app_be, hix] at mo2_41
   have mo8_41 := m_set_o hm_41 mo8_23 (by decide)
   have mo7_41 := m_set_o hm_41 mo7_23 (by decide)
   have mo6_41 := m_set_o hm_41 mo6_23 (by decide)
   have mo5_41 := m_set_o hm_41 mo5_23 (by decide)
   have mo3_41 := m_set_o hm_41 mo3_23 (by decide)
   have mo4_41 := m_set_o hm_41 mo4_23 (by decide)
   have mo1_41 := m_set_o hm_41 mo1_23 (by decide)
   have mo0_41 := m_set_o hm_41 mo0_23 (by decide)
   have ml_41 := m_set_l hm_41 ml_23
   clear hm_41 mo8_23 mo7_23 mo6_23 mo5_23 mo3_23 mo4_23 mo2_23 mo1_23 mo0_23
   refine ar (ro_assign ev_c) rfl <| ae2 (up_m rfl (up_n (up_m rfl s4_39))) up_h ?_; clear s10_39 s11_39 s12_39 s14_39 s4_39 s86_39; intro e_42 s4_42 s5_42
   refine then_n <| aw_ret <| then_r <| ret2 (.inr rfl) (by kernel_rfl) (resV_cell s4_42 mo2_41 y67_ty26 (nle rfl) (by simp)) (resV_tmp s5_42) (vw_r (vw_agg (vwl_cons (.ro _ rfl) (vwl_cons (.nil 4) (vwl_cons (.nil 2) (vwl_cons (.nil 3) vwl_nil)))))) (.ro _ rfl) ?_
   clear s4_42 s5_42 mo2_41 mo8_41 mo7_41 mo6_41 mo5_41 mo3_41 mo4_41 mo1_41 mo0_41 ml_41
   (have hz : joiX a b = 8 := (by unfold joiX joiJ; dsimp only; rw [if_pos (by omega), if_neg (by omega)]); rw [joiA_n (by omega), hz]; rfl)
  replace hq_40 := bf hq_40
  refine aw_skip <| then_n <| aw_seq <| at_ <| ar (ro_move s12_39) rfl <| ar (ro_eq (ro_ld_ptr y67_ty39 rfl mo8_23 (up_m rfl s14_39) (nle rfl)) (by simp only [pS, Value.cells, Nat.reduceAdd, jnE, set_jn4, app_jn, app_be, hix] <;> rfl)) rfl ?_
  refine ar (ro_nilP (up_m rfl up_h)) rfl <| ar (ro_fld_el (o := 0) y67_fl70_2 rfl up_h) rfl <| al_stm (st_store_el up_h (u2 rfl up_h) rfl rfl rfl mo3_23 rfl (by first | (refine idx_map ?_; first | omega | (simp only [lnS]; omega)) | (refine idx_mapI ?_; first | omega | (simp only [lnS]; omega)) | (refine idx_mapN ?_; first | omega | (simp only [lnS]; omega)) | rfl) y67_sz39 rfl (nle rfl)) trivial rfl (fun m_43 hm_43 => ?_)
  have mo3_43 := m_set hm_43 mo3_23
  simp only [pS, Value.cells, Nat.reduceAdd, jnE, set_jn4, app_jn, app_be, hix] at mo3_43
  have mo8_43 := m_set_o hm_43 mo8_23 (by decide)
  have mo7_43 := m_set_o hm_43 mo7_23 (by decide)
  have mo6_43 := m_set_o hm_43 mo6_23 (by decide)
  have mo5_43 := m_set_o hm_43 mo5_23 (by decide)
  have mo4_43 := m_set_o hm_43 mo4_23 (by decide)
  have mo2_43 := m_set_o hm_43 mo2_23 (by decide)
  have mo1_43 := m_set_o hm_43 mo1_23 (by decide)
  have mo0_43 := m_set_o hm_43 mo0_23 (by decide)
  have ml_43 := m_set_l hm_43 ml_23
  clear hm_43 mo8_23 mo7_23 mo6_23 mo5_23 mo3_23 mo4_23 mo2_23 mo1_23 mo0_23
  refine ae3 (up_n (u4 rfl s4_39)) (up_n (u4 rfl s10_39)) (up_n (u4 rfl s11_39)) ?_; clear s10_39 s11_39 s12_39 s14_39 s4_39 s86_39; intro e_44 s4_44 s10_44 s11_44
  refine then_n <| aw_seq <| aw_drawK 12 2 ml_43 (by kernel_rfl) (by kernel_rfl) (by kernel_rfl) (by kernel_rfl) (fun m_45 hm_45 => ?_)
  have mo3_45 := m_room_o hm_45 mo3_43
  have mo8_45 := m_room_o hm_45 mo8_43
  have mo7_45 := m_room_o hm_45 mo7_43
  have mo6_45 := m_room_o hm_45 mo6_43
  have mo5_45 := m_room_o hm_45 mo5_43
  have mo4_45 := m_room_o hm_45 mo4_43
  have mo2_45 := m_room_o hm_45 mo2_43
  have mo1_45 := m_room_o hm_45 mo1_43
  have mo0_45 := m_room_o hm_45 mo0_43
  have mo9_45 : m_45[9]? = _ := m_room_g hm_45 ml_43 0 rfl rfl
  have mo10_45 : m_45[10]? = _ := m_room_g hm_45 ml_43 1 rfl rfl
  have ml_45 : _ = 11 := m_room_l (K := 2) hm_45 ml_43
  clear hm_45 mo3_43 mo8_43 mo7_43 mo6_43 mo5_43 mo4_43 mo2_43 mo1_43 mo0_43 ml_43
  refine dh_ro (fun M_ hM_ => (ro_fld_ptr y67_fl26_1 rfl s10_44)) trivial ?_
  refine dh_ld (5) (fun M_ hM_ => (ro_eq (ro_ld_ptr y67_ty22 rfl (agr hM_ mo5_45 (by simp)) up_h (nle rfl)) (by simp only [pS, Value.cells, Nat.reduceAdd, jnE, set_jn4, app_jn, app_be, hix] <;> rfl))) trivial trivial ?_
  refine dh_ro (fun M_ hM_ => (ro_fld_ptr y67_fl26_1 rfl (u2 rfl s11_44))) trivial ?_
  refine dh_ld (6) (fun M_ hM_ => (ro_eq (ro_ld_ptr y67_ty22 rfl (agr hM_ mo6_45 (by simp)) up_h (nle rfl)) (by simp only [pS, Value.cells, Nat.reduceAdd, jnE, set_jn4, app_jn, app_be, hix] <;> rfl))) trivial trivial ?_
  refine dh_ro (fun M_ hM_ => (ro_sll y67_sl22 up_h ev_c (by decide) (by simp only [lnS] <;> omega))) trivial ?_
  refine dh_sw (9) (3) (fun M_ hM_ => (sw_app y67_sl22 rfl (agr hM_ mo3_45 (by simp)) (up_m rfl (u2 rfl up_h)) up_h (by first | rfl | (simp [oneA]; done) | first | exact jnE_oneD _ _ | exact beE_one _) (by simp only [lnS] <;> omega))) trivial mo9_45 rfl trivial ⟨.inl (by simp <;> omega), ⟨.inl (by simp <;> omega), trivial⟩⟩ ⟨.inl (by simp <;> omega), ⟨.inl (by simp <;> omega), trivial⟩⟩ (fun m_46 hm_46 => ?_)
  have mo9_46 := m_sw hm_46 mo9_45
  have mo8_46 := m_sw_o hm_46 mo8_45 (by decide) (by decide)
  have mo7_46 := m_sw_o hm_46 mo7_45 (by decide) (by decide)
  have mo6_46 := m_sw_o hm_46 mo6_45 (by decide) (by decide)
  have mo5_46 := m_sw_o hm_46 mo5_45 (by decide) (by decide)
  have mo4_46 := m_sw_o hm_46 mo4_45 (by decide) (by decide)
  have mo2_46 := m_sw_o hm_46 mo2_45 (by decide) (by decide)
  have mo1_46 := m_sw_o hm_46 mo1_45 (by decide) (by decide)
  have mo0_46 := m_sw_o hm_46 mo0_45 (by decide) (by decide)
  have mo10_46 := m_sw_o hm_46 mo10_45 (by decide) (by decide)
  have ml_46 := m_sw_l hm_46 ml_45
  clear hm_46 mo3_45 mo8_45 mo7_45 mo6_45 mo5_45 mo4_45 mo2_45 mo1_45 mo0_45 mo9_45 mo10_45
  refine dh_ro (fun M_ hM_ => (ro_fld_ptr y67_fl26_2 rfl (u2 rfl (u4 rfl s10_44)))) trivial ?_
  refine dh_ld (5) (fun M_ hM_ => (ro_eq (ro_ld_ptr y67_ty23 rfl (agr hM_ mo5_46 (by simp)) up_h (nle rfl)) (by simp only [pS, Value.cells, Nat.reduceAdd, jnE, set_jn4, app_jn, app_be, hix] <;> rfl))) trivial ⟨.inl (by simp <;> omega), ⟨.inl (by simp <;> omega), trivial⟩⟩ ?_
  refine dh_ro (fun M_ hM_ => (ro_fld_ptr y67_fl26_2 rfl (u8 rfl s11_44))) trivial ?_
  refine dh_ld (6) (fun M_ hM_ => (ro_eq (ro_ld_ptr y67_ty23 rfl (agr hM_ mo6_46 (by simp)) up_h (nle rfl)) (by simp only [pS, Value.cells, Nat.reduceAdd, jnE, set_jn4, app_jn, app_be, hix] <;> rfl))) trivial ⟨.inl (by simp <;> omega), ⟨.inl (by simp <;> omega), trivial⟩⟩ ?_
  refine dh_sw (10) (4) (fun M_ hM_ => (sw_app y67_sl23 rfl (agr hM_ mo4_46 (by simp)) (u2 rfl up_h) up_h (by first | exact jnE_oneD _ _ | exact beE_one _) (by simp only [lnS] <;> omega))) trivial mo10_46 rfl ⟨.inl (by simp <;> omega), ⟨.inl (by simp <;> omega), trivial⟩⟩ ⟨.inl (by simp <;> omega), ⟨.inl (by simp <;> omega), ⟨.inl (by simp <;> omega), ⟨.inl (by simp <;> omega), ⟨.inl (by simp <;> omega), trivial⟩⟩⟩⟩⟩ ⟨.inl (by simp <;> omega), ⟨.inl (by simp <;> omega), ⟨.inl (by simp <;> omega), ⟨.inl (by simp <;> omega), ⟨.inl (by simp <;> omega), trivial⟩⟩⟩⟩⟩ (fun m_47 hm_47 => ?_)
  have mo10_47 := m_sw hm_47 mo10_46
  simp only [pS, Value.cells, Nat.reduceAdd, jnE, set_jn4, app_jn, app_be, hix] at mo10_47
  have mo9_47 := m_sw_o hm_47 mo9_46 (by decide) (by decide)
  have mo8_47 := m_sw_o hm_47 mo8_46 (by decide) (by decide)
  have mo7_47 := m_sw_o hm_47 mo7_46 (by decide) (by decide)
  have mo6_47 := m_sw_o hm_47 mo6_46 (by decide) (by decide)
  have mo5_47 := m_sw_o hm_47 mo5_46 (by decide) (by decide)
  have mo2_47 := m_sw_o hm_47 mo2_46 (by decide) (by decide)
  have mo1_47 := m_sw_o hm_47 mo1_46 (by decide) (by decide)
  have mo0_47 := m_sw_o hm_47 mo0_46 (by decide) (by decide)
  have ml_47 := m_sw_l hm_47 ml_46
  clear hm_47 mo9_46 mo8_46 mo7_46 mo6_46 mo5_46 mo4_46 mo2_46 mo1_46 mo0_46 mo10_46
  refine dh_ro (fun M_ hM_ => (ro_fld_ptr y67_fl26_1 rfl (up_m rfl (u2 rfl (u8 rfl s10_44))))) trivial ?_
  refine dh_nil rfl ?_
  refine al_stm (st_store_own up_h (u2 rfl (u4 rfl up_h)) mo5_47 mo9_47 y67_sz22 (nle rfl)) trivial rfl (fun m_48 hm_48 => ?_)
  have mo5_48 := m_set hm_48 mo5_47
  simp only [pS, Value.cells, Nat.reduceAdd, jnE, set_jn4, app_jn, app_be, hix] at mo5_48
  have mo10_48 := m_set_o hm_48 mo10_47 (by decide)
  have mo9_48 := m_set_o hm_48 mo9_47 (by decide)
  have mo8_48 := m_set_o hm_48 mo8_47 (by decide)
  have mo7_48 := m_set_o hm_48 mo7_47 (by decide)
  have mo6_48 := m_set_o hm_48 mo6_47 (by decide)
  have mo2_48 := m_set_o hm_48 mo2_47 (by decide)
  have mo1_48 := m_set_o hm_48 mo1_47 (by decide)
  have mo0_48 := m_set_o hm_48 mo0_47 (by decide)
  have ml_48 := m_set_l hm_48 ml_47
  clear hm_48 mo10_47 mo9_47 mo8_47 mo7_47 mo6_47 mo5_47 mo2_47 mo1_47 mo0_47
  refine ar (ro_fld_ptr y67_fl26_2 rfl (up_n (u4 rfl (u8 rfl s10_44)))) rfl <| al_stm (st_store_own up_h (up_m rfl (up_n (up_m rfl up_h))) mo5_48 mo10_48 y67_sz23 (nle rfl)) trivial rfl (fun m_49 hm_49 => ?_)
  have mo5_49 := m_set hm_49 mo5_48
  simp only [pS, Value.cells, Nat.reduceAdd, jnE, set_jn4, app_jn, app_be, hix] at mo5_49
  have mo10_49 := m_set_o hm_49 mo10_48 (by decide)
  have mo9_49 := m_set_o hm_49 mo9_48 (by decide)
  have mo8_49 := m_set_o hm_49 mo8_48 (by decide)
  have mo7_49 := m_set_o hm_49 mo7_48 (by decide)
  have mo6_49 := m_set_o hm_49 mo6_48 (by decide)
  have mo2_49 := m_set_o hm_49 mo2_48 (by decide)
  have mo1_49 := m_set_o hm_49 mo1_48 (by decide)
  have mo0_49 := m_set_o hm_49 mo0_48 (by decide)
  have ml_49 := m_set_l hm_49 ml_48
  clear hm_49 mo5_48 mo10_48 mo9_48 mo8_48 mo7_48 mo6_48 mo2_48 mo1_48 mo0_48
  refine ar (ro_fld_ptr y67_fl26_3 rfl (up_n (up_m rfl (up_n (u4 rfl (u8 rfl s10_44)))))) rfl <| al_stm (st_store up_h ev_c rfl rfl mo5_49 y67_sz24 rfl (nle rfl)) trivial rfl (fun m_50 hm_50 => ?_)
  have mo5_50 := m_set hm_50 mo5_49
  simp only [pS, Value.cells, Nat.reduceAdd, jnE, set_jn4, app_jn, app_be, hix] at mo5_50
  have mo10_50 := m_set_o hm_50 mo10_49 (by decide)
  have mo9_50 := m_set_o hm_50 mo9_49 (by decide)
  have mo8_50 := m_set_o hm_50 mo8_49 (by decide)
  have mo7_50 := m_set_o hm_50 mo7_49 (by decide)
  have mo6_50 := m_set_o hm_50 mo6_49 (by decide)
  have mo2_50 := m_set_o hm_50 mo2_49 (by decide)
  have mo1_50 := m_set_o hm_50 mo1_49 (by decide)
  have mo0_50 := m_set_o hm_50 mo0_49 (by decide)
  have ml_50 := m_set_l hm_50 ml_49
  clear hm_50 mo5_49 mo10_49 mo9_49 mo8_49 mo7_49 mo6_49 mo2_49 mo1_49 mo0_49
  refine ae2 (up_n (up_m rfl (up_n (up_m rfl (up_n (u4 rfl (u8 rfl s4_44))))))) (up_n (up_m rfl (up_n (up_m rfl (up_n (u4 rfl (u8 rfl s10_44))))))) ?_; clear s10_44 s11_44 s4_44; intro e_51 s4_51 s10_51
  refine then_n <| aw_seq <| at_ <| ar (ro_eq (ro_ld_ptr y67_ty26 rfl mo5_50 s10_51 (nle rfl)) (by simp only [pS, Value.cells, Nat.reduceAdd, jnE, set_jn4, app_jn, app_be, hix] <;> rfl)) rfl ?_
  refine al_stm (st_storeO (up_m rfl s4_51) up_h rfl (oneL_c rfl (oneL_o mo9_50 (oneL_o mo10_50 (oneL_c rfl oneL_nil)))) mo2_50 y67_sz26 rfl (nle rfl)) trivial rfl (fun m_52 hm_52 => ?_)
  have mo2_52 := m_set hm_52 mo2_50
  simp only [pS, Value.cells, Nat.reduceAdd, jnE, set_jn4, app_jn, app_be, hix] at mo2_52
  have mo5_52 := m_set_o hm_52 mo5_50 (by decide)
  have mo10_52 := m_set_o hm_52 mo10_50 (by decide)
  have mo9_52 := m_set_o hm_52 mo9_50 (by decide)
  have mo8_52 := m_set_o hm_52 mo8_50 (by decide)
  have mo7_52 := m_set_o hm_52 mo7_50 (by decide)
  have mo6_52 := m_set_o hm_52 mo6_50 (by decide)
  have mo1_52 := m_set_o hm_52 mo1_50 (by decide)
  have mo0_52 := m_set_o hm_52 mo0_50 (by decide)
  have ml_52 := m_set_l hm_52 ml_50
  clear hm_52 mo5_50 mo10_50 mo9_50 mo8_50 mo7_50 mo6_50 mo2_50 mo1_50 mo0_50
  refine ar (ro_assign ev_c) rfl <| ae2 (up_m rfl (up_n (up_m rfl s4_51))) up_h ?_; clear s10_51 s4_51; intro e_53 s4_53 s5_53
  refine then_n <| aw_ret <| ret2 (.inr rfl) (by kernel_rfl) (resV_cell s4_53 mo2_52 y67_ty26 (nle rfl) (by simp)) (resV_tmp s5_53) (vw_r (vw_agg (vwl_cons (.ro _ rfl) (vwl_cons (.own _ _ _ _ mo9_52) (vwl_cons (.own _ _ _ _ mo10_52) (vwl_cons (.nil 3) vwl_nil)))))) (.ro _ rfl) ?_
  clear s4_53 s5_53 mo2_52 mo5_52 mo10_52 mo9_52 mo8_52 mo7_52 mo6_52 mo1_52 mo0_52 ml_52
  (have hz : joiX a b = 0 := (by unfold joiX joiJ; dsimp only; rw [if_pos (by omega), if_pos (by omega)]); rw [joiA_0 hz]; show _ = AV.tuple [AV.agg [_, AV.row 4 ((a.js.set (a.js.length - 1) (joiJ a b) ++ b.js.drop 1).map jnE), _, _], _]; rw [← app_jn]; rfl)
set_option maxRecDepth 100000 in
set_option maxHeartbeats 4000000 in
theorem copyTwo_ok (l : Lin) (hl : Sho l) (hf : Ful l) : FnRow2 Try.prog 18 [lnA l] 70 4 (l.js.map jnE) 87 2 (l.bs.map beE) [.a (.v (.string l.nam)), .one, .two, .a (.row 3 (l.ss.map swE))] := by
  obtain ⟨h1, h2, h3, h4, h5⟩ := id hl
  have h0 := hf.1
  have h6 := hf.2.1
  refine fnRow2_of (fn := Try.f18) 39 (by kernel_rfl) rfl (by kernel_rfl) (Nat.le_of_ble_eq_true rfl) (by exact ⟨jnE_plain l.js, beE_plain l.bs⟩) rfl ?_
  intro e_0 m_0 hA hm_0
  have s0_0 : evA e_0 (.tmp 0) = _ := hA 0 _ rfl
  have ml_0 : m_0.length = 0 := by rw [hm_0]; rfl
  clear hA hm_0
  refine aw_seq <| at_ <| al_stm (st_box s0_0 rfl ml_0) trivial rfl (fun m_1 hm_1 => ?_)
  have mo0_1 := m_push hm_1 ml_0
  have ml_1 := m_push_l hm_1 ml_0
  have ml_1 : _ = 1 := ml_1
  clear hm_1
  refine al_stm (st_alloc y67_az26 rfl ml_1) trivial rfl (fun m_2 hm_2 => ?_)
  have mo1_2 := m_push hm_2 ml_1
  simp only [pS, Value.cells, Nat.reduceAdd, swE, one_swE, app_m] at mo1_2
  have mo0_2 := m_push_o hm_2 mo0_1
  have ml_2 := m_push_l hm_2 ml_1
  have ml_2 : _ = 2 := ml_2
  clear hm_2 mo0_1
  refine ae2 (up_m rfl up_h) up_h ?_; clear s0_0; intro e_3 s1_3 s2_3
  refine then_n <| aw_seq <| at_ <| ar (ro_lit0 y67_sl22) rfl <| ar (ro_fld_ptr y67_fl26_1 rfl (up_m rfl s1_3)) rfl <| ar (ro_eq (ro_ld_ptr y67_ty22 rfl mo0_2 up_h (nle rfl)) (by simp only [pS, Value.cells, Nat.reduceAdd, swE, one_swE, app_m] <;> rfl)) rfl ?_
  refine al_stm (st_ape (by first | simpa using h0 | simpa using h6) (by first | exact jnE_plain l.js | exact beE_plain l.bs) ml_2 y67_sl22 rfl (u2 rfl up_h) up_h (by simp only [lnS] <;> omega)) trivial rfl (fun m_4 hm_4 => ?_)
  have mo2_4 := m_push hm_4 ml_2
  have mo1_4 := m_push_o hm_4 mo1_2
  have mo0_4 := m_push_o hm_4 mo0_2
  have ml_4 := m_push_l hm_4 ml_2
  have ml_4 : _ = 3 := ml_4
  clear hm_4 mo1_2 mo0_2
  refine ar (ro_fld_ptr y67_fl26_1 rfl (u4 rfl s1_3)) rfl <| al_stm (st_store_own up_h (up_m rfl up_h) mo0_4 mo2_4 y67_sz22 (nle rfl)) trivial rfl (fun m_5 hm_5 => ?_)
  have mo0_5 := m_set hm_5 mo0_4
  simp only [pS, Value.cells, Nat.reduceAdd, swE, one_swE, app_m] at mo0_5
  have mo2_5 := m_set_o hm_5 mo2_4 (by decide)
  have mo1_5 := m_set_o hm_5 mo1_4 (by decide)
  have ml_5 := m_set_l hm_5 ml_4
  clear hm_5 mo2_4 mo1_4 mo0_4
  refine ae2 (up_n (up_m rfl (u4 rfl s1_3))) (up_n (up_m rfl (u4 rfl s2_3))) ?_; clear s1_3 s2_3; intro e_6 s1_6 s2_6
  refine then_n <| aw_seq <| at_ <| ar (ro_lit0 y67_sl23) rfl <| ar (ro_fld_ptr y67_fl26_2 rfl (up_m rfl s1_6)) rfl <| ar (ro_eq (ro_ld_ptr y67_ty23 rfl mo0_5 up_h (nle rfl)) (by simp only [pS, Value.cells, Nat.reduceAdd, swE, one_swE, app_m] <;> rfl)) rfl ?_
  refine al_stm (st_ape (by first | simpa using h0 | simpa using h6) (by first | exact jnE_plain l.js | exact beE_plain l.bs) ml_5 y67_sl23 rfl (u2 rfl up_h) up_h (by simp only [lnS] <;> omega)) trivial rfl (fun m_7 hm_7 => ?_)
  have mo3_7 := m_push hm_7 ml_5
  have mo0_7 := m_push_o hm_7 mo0_5
  have mo2_7 := m_push_o hm_7 mo2_5
  have mo1_7 := m_push_o hm_7 mo1_5
  have ml_7 := m_push_l hm_7 ml_5
  have ml_7 : _ = 4 := ml_7
  clear hm_7 mo0_5 mo2_5 mo1_5
  refine ar (ro_fld_ptr y67_fl26_2 rfl (u4 rfl s1_6)) rfl <| al_stm (st_store_own up_h (up_m rfl up_h) mo0_7 mo3_7 y67_sz23 (nle rfl)) trivial rfl (fun m_8 hm_8 => ?_)
  have mo0_8 := m_set hm_8 mo0_7
  simp only [pS, Value.cells, Nat.reduceAdd, swE, one_swE, app_m] at mo0_8
  have mo3_8 := m_set_o hm_8 mo3_7 (by decide)
  have mo2_8 := m_set_o hm_8 mo2_7 (by decide)
  have mo1_8 := m_set_o hm_8 mo1_7 (by decide)
  have ml_8 := m_set_l hm_8 ml_7
  clear hm_8 mo3_7 mo0_7 mo2_7 mo1_7
  refine ae2 (up_n (up_m rfl (u4 rfl s1_6))) (up_n (up_m rfl (u4 rfl s2_6))) ?_; clear s1_6 s2_6; intro e_9 s1_9 s2_9
  refine then_n <| aw_seq <| at_ <| ar (ro_assign ev_c) rfl <| ae3 (up_m rfl s1_9) (up_m rfl s2_9) up_h ?_; clear s1_9 s2_9; intro e_10 s1_10 s2_10 s3_10
  refine then_n <| aw_seq <| aw_seq <| at_ <| ar (ro_assign ev_c) rfl <| ae4 (up_m rfl s1_10) (up_m rfl s2_10) (up_m rfl s3_10) up_h ?_; clear s1_10 s2_10 s3_10; intro e_11 s1_11 s2_11 s3_11 s4_11
  refine then_n <| aw_block <| aw_adopt 91 3 s3_11 ml_8 (fun m_12 e_12 hm_12 he_12 => ?_)
  have mo4_12 := m_push hm_12 ml_8
  have mo0_12 := m_push_o hm_12 mo0_8
  have mo3_12 := m_push_o hm_12 mo3_8
  have mo2_12 := m_push_o hm_12 mo2_8
  have mo1_12 := m_push_o hm_12 mo1_8
  have ml_12 := m_push_l hm_12 ml_8
  have ml_12 : _ = 5 := ml_12
  have s1_12 : evA e_12 (.tmp 1) = _ := (congrArg (fun q => evA q (.tmp 1)) he_12).trans (up_m rfl s1_11)
  have s2_12 : evA e_12 (.tmp 2) = _ := (congrArg (fun q => evA q (.tmp 2)) he_12).trans (up_m rfl s2_11)
  have s3_12 : evA e_12 (.tmp 3) = _ := (congrArg (fun q => evA q (.tmp 3)) he_12).trans up_h
  have s4_12 : evA e_12 (.tmp 4) = _ := (congrArg (fun q => evA q (.tmp 4)) he_12).trans (up_m rfl s4_11)
  clear hm_12 he_12
  refine aw_loop (S := (Int × List Swi)) (fun s e mem => match s with | ⟨k, xs⟩ => (evA e (.tmp 4) = .v (.int .i64 k)) ∧ (evA e (.tmp 1) = evA e_12 (.tmp 1)) ∧ (evA e (.tmp 2) = evA e_12 (.tmp 2)) ∧ (mem[0]? = m_12[0]?) ∧ (mem[3]? = m_12[3]?) ∧ (mem[2]? = m_12[2]?) ∧ (mem[1]? = m_12[1]?) ∧ (∃ j, evA e (.tmp 3) = .own j ∧ mem[j]? = some (.row 91 3 (xs.map swE)) ∧ j ≠ 0 ∧ j ≠ 3 ∧ j ≠ 2 ∧ j ≠ 1) ∧ (∃ n, mem.length = n ∧ 5 ≤ n) ∧ ((0 ≤ k ∧ k ≤ l.ss.length ∧ xs = l.ss.take k.toNat))) (fun s => match s with | ⟨k, xs⟩ => (l.ss.length - k).toNat) ⟨_, []⟩ ⟨s4_12, rfl, rfl, rfl, rfl, rfl, rfl, ⟨_, s3_12, mo4_12, (by decide), (by decide), (by decide), (by decide)⟩, ⟨_, ml_12, Nat.le_refl _⟩, ?_⟩ ?_
  · (exact ⟨by omega, by omega, rfl⟩)
  · rintro ⟨k, xs⟩ e_13 m_13 ⟨s4_13, k1_13, k2_13, mk0_13, mk3_13, mk2_13, mk1_13, ⟨j3_13, s3_13, mo_j3_13, nj3_0_13, nj3_3_13, nj3_2_13, nj3_1_13⟩, ⟨n_13, ml_13, hn_13⟩, hinv⟩
    have s1_13 := k1_13.trans s1_12
    have s2_13 := k2_13.trans s2_12
    have mo0_13 := mk0_13.trans mo0_12
    have mo3_13 := mk3_13.trans mo3_12
    have mo2_13 := mk2_13.trans mo2_12
    have mo1_13 := mk1_13.trans mo1_12
    have jl3_13 := m_lt mo_j3_13 ml_13
    (obtain ⟨p1, p2, p3⟩ := hinv; have hso := hl.at k.toNat; have hxl : xs.length ≤ 1000000 := (by rw [p3, List.length_take]; omega))
    refine aw_seq <| aw_seq <| at_ <| ar (ro_move s4_13) rfl <| ar (ro_fld_ptr y67_fl26_3 rfl (up_m rfl s1_13)) rfl <| ar (ro_eq (ro_ld_ptr y67_ty24 rfl mo0_13 up_h (nle rfl)) (by simp only [pS, Value.cells, Nat.reduceAdd, swE, one_swE, app_m] <;> rfl)) rfl ?_
    refine ar (ro_eq (ro_len_row up_h rfl y67_sl24.1) (by simp only [lnS] <;> rfl)) rfl ?_
    refine ar (ro_lss (up_m rfl (u2 rfl up_h)) up_h) rfl <| ae5 (up_m rfl (u4 rfl s1_13)) (up_m rfl (u4 rfl s2_13)) (up_m rfl (u4 rfl s3_13)) (up_m rfl (u4 rfl s4_13)) up_h ?_; clear s1_13 s2_13 s3_13 s4_13; intro e_14 s1_14 s2_14 s3_14 s4_14 s20_14
    refine then_n <| aw_case s20_14 (fun hq_15 => ?_) (fun hq_15 => ?_)
    ·replace hq_15 := bt hq_15
     refine aw_skip <| then_n <| aw_seq <| aw_block <| aw_seq <| at_ <| ar (ro_fld_ptr y67_fl26_3 rfl s1_14) rfl <| ar (ro_eq (ro_ld_ptr y67_ty24 rfl mo0_13 up_h (nle rfl)) (by simp only [pS, Value.cells, Nat.reduceAdd, swE, one_swE, app_m] <;> rfl)) rfl ?_
     refine ar (ro_move (u2 rfl s4_14)) rfl <| ar (ro_eq (ro_ix y67_sl24 (up_m rfl up_h) up_h (by omega) (by first | (refine idx_map ?_; first | omega | (simp only [lnS]; omega)) | (refine idx_mapI ?_; first | omega | (simp only [lnS]; omega)) | (refine idx_mapN ?_; first | omega | (simp only [lnS]; omega)) | rfl)) (by simp only [pS, Value.cells, Nat.reduceAdd, swE, one_swE, app_m] <;> rfl)) rfl ?_
     refine ar (ro_eq (ro_ld_ref y67_ty91 rfl up_h (nle rfl)) (by simp only [pS, Value.cells, Nat.reduceAdd, swE, one_swE, app_m] <;> rfl)) rfl ?_
     refine al_stm (st_alloc y67_az91 rfl ml_13) trivial rfl (fun m_16 hm_16 => ?_)
     have mon_13_16 := m_push hm_16 ml_13
     simp only [pS, Value.cells, Nat.reduceAdd, swE, one_swE, app_m] at mon_13_16
     have mo0_16 := m_push_o hm_16 mo0_13
     have mo3_16 := m_push_o hm_16 mo3_13
     have mo2_16 := m_push_o hm_16 mo2_13
     have mo1_16 := m_push_o hm_16 mo1_13
     have moj3_13_16 := m_push_o hm_16 mo_j3_13
     have ml_16 := m_push_l hm_16 ml_13
     clear hm_16 mo0_13 mo3_13 mo2_13 mo1_13 mo_j3_13
     refine al_stm (st_store up_h (up_m rfl up_h) rfl rfl mon_13_16 y67_sz91 rfl (nle rfl)) trivial rfl (fun m_17 hm_17 => ?_)
     have mon_13_17 := m_set hm_17 mon_13_16
     simp only [pS, Value.cells, Nat.reduceAdd, swE, one_swE, app_m] at mon_13_17
     have mo0_17 := m_set_o hm_17 mo0_16 (by omega)
     have mo3_17 := m_set_o hm_17 mo3_16 (by omega)
     have mo2_17 := m_set_o hm_17 mo2_16 (by omega)
     have mo1_17 := m_set_o hm_17 mo1_16 (by omega)
     have moj3_13_17 := m_set_o hm_17 moj3_13_16 (by omega)
     have ml_17 := m_set_l hm_17 ml_16
     clear hm_17 mon_13_16 mo0_16 mo3_16 mo2_16 mo1_16 moj3_13_16
     refine ae5 (up_n (u2 rfl (u4 rfl s1_14))) (up_n (u2 rfl (u4 rfl s2_14))) (up_n (u2 rfl (u4 rfl s3_14))) (up_n (u2 rfl (u4 rfl s4_14))) (up_n up_h) ?_; clear s1_14 s20_14 s2_14 s3_14 s4_14; intro e_18 s1_18 s2_18 s3_18 s4_18 s5_18
     refine then_n <| aw_seq <| at_ <| ar (ro_fld_ptr y67_fl91_2 rfl s5_18) rfl <| ar (ro_eq (ro_ld_ptr y67_ty49 rfl mon_13_17 up_h (nle rfl)) (by simp only [pS, Value.cells, Nat.reduceAdd, swE, one_swE, app_m] <;> rfl)) rfl ?_
     refine ar (ro_call (evL_cons up_h evL_nil) rfl (yCopyInts_ok _ (by omega)) y67_hcf75) rfl ?_
     refine ar (ro_fld_ptr y67_fl91_2 rfl (up_m rfl (u2 rfl s5_18))) rfl <| al_stm (st_store up_h (up_m rfl up_h) rfl rfl mon_13_17 y67_sz49 rfl (nle rfl)) trivial rfl (fun m_19 hm_19 => ?_)
     have mon_13_19 := m_set hm_19 mon_13_17
     simp only [pS, Value.cells, Nat.reduceAdd, swE, one_swE, app_m] at mon_13_19
     have mo0_19 := m_set_o hm_19 mo0_17 (by omega)
     have mo3_19 := m_set_o hm_19 mo3_17 (by omega)
     have mo2_19 := m_set_o hm_19 mo2_17 (by omega)
     have mo1_19 := m_set_o hm_19 mo1_17 (by omega)
     have moj3_13_19 := m_set_o hm_19 moj3_13_17 (by omega)
     have ml_19 := m_set_l hm_19 ml_17
     clear hm_19 mon_13_17 mo0_17 mo3_17 mo2_17 mo1_17 moj3_13_17
     refine ae5 (up_n (u4 rfl s1_18)) (up_n (u4 rfl s2_18)) (up_n (u4 rfl s3_18)) (up_n (u4 rfl s4_18)) (up_n (u4 rfl s5_18)) ?_; clear s1_18 s2_18 s3_18 s4_18 s5_18; intro e_20 s1_20 s2_20 s3_20 s4_20 s5_20
     refine then_n <| at_ <| ar (ro_move s3_20) rfl <| ar (ro_eq (ro_ld_ptr y67_ty91 rfl mon_13_19 (up_m rfl s5_20) (nle rfl)) (by simp only [pS, Value.cells, Nat.reduceAdd, swE, one_swE, app_m] <;> rfl)) rfl ?_
     refine ar (ro_lit y67_sl24 (evP_cons up_h evP_nil) rfl rfl rfl rfl) rfl <| al_stm (st_app y67_sl24 rfl ml_19 moj3_13_19 (u2 rfl up_h) up_h (by rfl) (by simp only [lnS] <;> omega)) trivial rfl (fun m_21 hm_21 => ?_)
     have mon_13_1_21 := m_swap hm_21 ml_19
     simp only [pS, Value.cells, Nat.reduceAdd, swE, one_swE, app_m] at mon_13_1_21
     have mon_13_21 := m_swap_o hm_21 mon_13_19 (by omega)
     have mo0_21 := m_swap_o hm_21 mo0_19 (by omega)
     have mo3_21 := m_swap_o hm_21 mo3_19 (by omega)
     have mo2_21 := m_swap_o hm_21 mo2_19 (by omega)
     have mo1_21 := m_swap_o hm_21 mo1_19 (by omega)
     have ml_21 := m_swap_l hm_21 ml_19
     clear hm_21 mon_13_19 mo0_19 mo3_19 mo2_19 mo1_19 moj3_13_19
     refine ar (ro_assign up_h) rfl <| ae4 (up_m rfl (u4 rfl s1_20)) (up_m rfl (u4 rfl s2_20)) up_h (up_m rfl (u4 rfl s4_20)) ?_; clear s1_20 s2_20 s3_20 s4_20 s5_20; intro e_22 s1_22 s2_22 s3_22 s4_22
     refine block_n <| then_n <| at_ <| ar (ro_move s4_22) rfl ?_
     (refine ar (ro_add' up_h ev_c ?_) rfl ?_; · (unfold In64; omega))
     refine ar (ro_assign up_h) rfl <| ae4 (up_m rfl (u2 rfl s1_22)) (up_m rfl (u2 rfl s2_22)) (up_m rfl (u2 rfl s3_22)) up_h ?_; clear s1_22 s2_22 s3_22 s4_22; intro e_23 s1_23 s2_23 s3_23 s4_23
     refine then_n <| ⟨⟨_, _⟩, ⟨s4_23, (s1_23.trans s1_12.symm), (s2_23.trans s2_12.symm), (mo0_21.trans mo0_12.symm), (mo3_21.trans mo3_12.symm), (mo2_21.trans mo2_12.symm), (mo1_21.trans mo1_12.symm), ⟨_, s3_23, mon_13_1_21, (by omega), (by omega), (by omega), (by omega)⟩, ⟨_, ml_21, by omega⟩, ?_⟩, ?_⟩
     · (refine ⟨by omega, by omega, ?_⟩; rw [take_suc p1 (by omega), ← p3])
     · ((try dsimp only); omega)
    replace hq_15 := bf hq_15
    (have hx : xs = l.ss := (by rw [p3, List.take_of_length_le (by omega)]); clear p3; subst hx)
    refine aw_exit <| then_x <| then_x <| block_hit <| then_n <| aw_seq <| aw_freezeR s3_14 mo_j3_13 (fun m_24 e_24 hm_24 he_24 => ?_)
    have mo0_24 := m_set_o hm_24 mo0_13 (by omega)
    have mo3_24 := m_set_o hm_24 mo3_13 (by omega)
    have mo2_24 := m_set_o hm_24 mo2_13 (by omega)
    have mo1_24 := m_set_o hm_24 mo1_13 (by omega)
    have ml_24 := m_set_l hm_24 ml_13
    have s1_24 : evA e_24 (.tmp 1) = _ := (congrArg (fun q => evA q (.tmp 1)) he_24).trans (up_m rfl s1_14)
    have s2_24 : evA e_24 (.tmp 2) = _ := (congrArg (fun q => evA q (.tmp 2)) he_24).trans (up_m rfl s2_14)
    have s3_24 : evA e_24 (.tmp 3) = _ := (congrArg (fun q => evA q (.tmp 3)) he_24).trans up_h
    have s4_24 : evA e_24 (.tmp 4) = _ := (congrArg (fun q => evA q (.tmp 4)) he_24).trans (up_m rfl s4_14)
    have s20_24 : evA e_24 (.tmp 20) = _ := (congrArg (fun q => evA q (.tmp 20)) he_24).trans (up_m rfl s20_14)
    clear hm_24 he_24
    refine at_ <| ar (ro_move s3_24) rfl <| ar (ro_fld_ptr y67_fl26_3 rfl (up_m rfl s1_24)) rfl <| al_stm (st_store up_h (up_m rfl up_h) rfl rfl mo0_24 y67_sz24 rfl (nle rfl)) trivial rfl (fun m_25 hm_25 => ?_)
    have mo0_25 := m_set hm_25 mo0_24
    simp only [pS, Value.cells, Nat.reduceAdd, swE, one_swE, app_m] at mo0_25
    have mo3_25 := m_set_o hm_25 mo3_24 (by decide)
    have mo2_25 := m_set_o hm_25 mo2_24 (by decide)
    have mo1_25 := m_set_o hm_25 mo1_24 (by decide)
    have ml_25 := m_set_l hm_25 ml_24
    clear hm_25 mo0_24 mo3_24 mo2_24 mo1_24
    refine ae2 (up_n (u2 rfl s1_24)) (up_n (u2 rfl s2_24)) ?_; clear s1_24 s20_24 s2_24 s3_24 s4_24; intro e_26 s1_26 s2_26
    refine then_n <| aw_seq <| at_ <| ar (ro_eq (ro_ld_ptr y67_ty26 rfl mo0_25 s1_26 (nle rfl)) (by simp only [pS, Value.cells, Nat.reduceAdd, swE, one_swE, app_m] <;> rfl)) rfl ?_
    refine al_stm (st_storeO (up_m rfl s2_26) up_h rfl (oneL_c rfl (oneL_o mo2_25 (oneL_o mo3_25 (oneL_c rfl oneL_nil)))) mo1_25 y67_sz26 rfl (nle rfl)) trivial rfl (fun m_27 hm_27 => ?_)
    have mo1_27 := m_set hm_27 mo1_25
    simp only [pS, Value.cells, Nat.reduceAdd, swE, one_swE, app_m] at mo1_27
    have mo0_27 := m_set_o hm_27 mo0_25 (by decide)
    have mo3_27 := m_set_o hm_27 mo3_25 (by decide)
    have mo2_27 := m_set_o hm_27 mo2_25 (by decide)
    have ml_27 := m_set_l hm_27 ml_25
    clear hm_27 mo0_25 mo3_25 mo2_25 mo1_25
    refine ae1 (up_n (up_m rfl s2_26)) ?_; clear s1_26 s2_26; intro e_28 s2_28
    refine then_n <| aw_ret <| retRow2 (.inr rfl) (by kernel_rfl) (by decide) mo2_27 mo3_27 (resV_cell s2_28 mo1_27 y67_ty26 (nle rfl) (by simp)) rfl ?_
    exact ⟨rfl, rfl⟩
set_option maxRecDepth 100000 in
set_option maxHeartbeats 4000000 in
theorem rJoined_ok (a b : Lin) (ha : Sho a) (hb : Sho b) (hr : Rgt a) (hs : Rgt b) : FnOk Try.prog 43 [lnA a, lnA b] (fun q => q = joiA a b) := by
  refine fnOk_of (fn := Try.f43) 92 (by kernel_rfl) rfl (by kernel_rfl) (Nat.le_of_ble_eq_true rfl) ?_
  intro e_0 m_0 hA hm_0
  have s0_0 : evA e_0 (.tmp 0) = _ := hA 0 _ rfl
  have s1_0 : evA e_0 (.tmp 1) = _ := hA 1 _ rfl
  have ml_0 : m_0.length = 0 := by rw [hm_0]; rfl
  clear hA hm_0
  have hjs := hr.js; have hks := hs.js; have hn1 := hr.n1; have hn2 := hs.n1; have hn0 := hr.n0; have hj := hr.jnt (a.js.length - 1) (by omega); have hk := hs.jnt 0 (by omega); have hix : ((a.js.length : Int) - 1).toNat = a.js.length - 1 := (by omega)
  refine aw_seq <| at_ <| al_stm (st_box s0_0 rfl ml_0) trivial rfl (fun m_1 hm_1 => ?_)
  have mo0_1 := m_push hm_1 ml_0
  have ml_1 := m_push_l hm_1 ml_0
  have ml_1 : _ = 1 := ml_1
  clear hm_1
  refine al_stm (st_box (up_m rfl s1_0) rfl ml_1) trivial rfl (fun m_2 hm_2 => ?_)
  have mo1_2 := m_push hm_2 ml_1
  have mo0_2 := m_push_o hm_2 mo0_1
  have ml_2 := m_push_l hm_2 ml_1
  have ml_2 : _ = 2 := ml_2
  clear hm_2 mo0_1
  refine al_stm (st_alloc y67_az26 rfl ml_2) trivial rfl (fun m_3 hm_3 => ?_)
  have mo2_3 := m_push hm_3 ml_2
  simp only [pS, Value.cells, Nat.reduceAdd, jnE, set_jn4, app_jn, app_be, hix] at mo2_3
  have mo1_3 := m_push_o hm_3 mo1_2
  have mo0_3 := m_push_o hm_3 mo0_2
  have ml_3 := m_push_l hm_3 ml_2
  have ml_3 : _ = 3 := ml_3
  clear hm_3 mo1_2 mo0_2
  refine ar (ro_assign ev_c) rfl <| ae3 (up_m rfl (u2 rfl up_h)) (u2 rfl up_h) (up_m rfl up_h) ?_; clear s0_0 s1_0; intro e_4 s2_4 s3_4 s4_4
  refine then_n <| aw_seq <| aw_drawK 15 2 ml_3 (by kernel_rfl) (by kernel_rfl) (by kernel_rfl) (by kernel_rfl) (fun m_5 hm_5 => ?_)
  have mo2_5 := m_room_o hm_5 mo2_3
  have mo1_5 := m_room_o hm_5 mo1_3
  have mo0_5 := m_room_o hm_5 mo0_3
  have mo3_5 : m_5[3]? = _ := m_room_g hm_5 ml_3 0 rfl rfl
  have mo4_5 : m_5[4]? = _ := m_room_g hm_5 ml_3 1 rfl rfl
  have ml_5 : _ = 5 := m_room_l (K := 2) hm_5 ml_3
  clear hm_5 mo2_3 mo1_3 mo0_3 ml_3
  refine dh_ro (fun M_ hM_ => (ro_fld_ptr y67_fl26_1 rfl s2_4)) trivial ?_
  refine dh_ld (0) (fun M_ hM_ => (ro_eq (ro_ld_ptr y67_ty22 rfl (agr hM_ mo0_5 (by simp)) up_h (nle rfl)) (by simp only [pS, Value.cells, Nat.reduceAdd, jnE, set_jn4, app_jn, app_be, hix] <;> rfl))) trivial trivial ?_
  refine dh_ro (fun M_ hM_ => (ro_fld_ptr y67_fl26_1 rfl (u2 rfl s2_4))) trivial ?_
  refine dh_ld (0) (fun M_ hM_ => (ro_eq (ro_ld_ptr y67_ty22 rfl (agr hM_ mo0_5 (by simp)) up_h (nle rfl)) (by simp only [pS, Value.cells, Nat.reduceAdd, jnE, set_jn4, app_jn, app_be, hix] <;> rfl))) trivial trivial ?_
  refine dh_ro (fun M_ hM_ => (ro_eq (ro_len_row up_h rfl y67_sl22.1) (by simp only [lnS] <;> rfl))) trivial ?_
  (refine dh_ro (fun M_ hM_ => (ro_sub' up_h ev_c ?_)) trivial ?_; · (unfold In64; omega))
  refine dh_ro (fun M_ hM_ => (ro_eq (ro_ix y67_sl22 (u4 rfl up_h) up_h (by omega) (by first | (refine idx_map ?_; first | omega | (simp only [lnS]; omega)) | (refine idx_mapI ?_; first | omega | (simp only [lnS]; omega)) | (refine idx_mapN ?_; first | omega | (simp only [lnS]; omega)) | rfl)) (by simp only [pS, Value.cells, Nat.reduceAdd, jnE, set_jn4, app_jn, app_be, hix] <;> rfl))) trivial ?_
  refine dh_ro (fun M_ hM_ => (ro_eq (ro_ld_ref y67_ty70 rfl up_h (nle rfl)) (by simp only [pS, Value.cells, Nat.reduceAdd, jnE, set_jn4, app_jn, app_be, hix] <;> rfl))) trivial ?_
  refine dh_ro (fun M_ hM_ => (ro_fld_ptr y67_fl26_1 rfl (u8 rfl s3_4))) trivial ?_
  refine dh_ld (1) (fun M_ hM_ => (ro_eq (ro_ld_ptr y67_ty22 rfl (agr hM_ mo1_5 (by simp)) up_h (nle rfl)) (by simp only [pS, Value.cells, Nat.reduceAdd, jnE, set_jn4, app_jn, app_be, hix] <;> rfl))) trivial trivial ?_
  refine dh_ro (fun M_ hM_ => (ro_eq (ro_ix y67_sl22 up_h ev_c (by decide) (by refine idx_map ?_; first | omega | (simp only [lnS]; omega))) (by simp only [pS, Value.cells, Nat.reduceAdd, jnE, set_jn4, app_jn, app_be, hix] <;> rfl))) trivial ?_
  refine dh_ro (fun M_ hM_ => (ro_eq (ro_ld_ref y67_ty70 rfl up_h (nle rfl)) (by simp only [pS, Value.cells, Nat.reduceAdd, jnE, set_jn4, app_jn, app_be, hix] <;> rfl))) trivial ?_
  refine dh_nw (3) (fun M_ hM_ => (nw_alloc y67_az70 rfl)) trivial mo3_5 rfl trivial ⟨.inl (by simp <;> omega), ⟨.inl (by simp <;> omega), ⟨.inl (by simp <;> omega), trivial⟩⟩⟩ (fun m_6 hm_6 => ?_)
  have mo3_6 := m_set hm_6 mo3_5
  simp only [pS, Value.cells, Nat.reduceAdd, jnE, set_jn4, app_jn, app_be, hix] at mo3_6
  have mo2_6 := m_set_o hm_6 mo2_5 (by decide)
  have mo1_6 := m_set_o hm_6 mo1_5 (by decide)
  have mo0_6 := m_set_o hm_6 mo0_5 (by decide)
  have mo4_6 := m_set_o hm_6 mo4_5 (by decide)
  have ml_6 := m_set_l hm_6 ml_5
  clear hm_6 mo2_5 mo1_5 mo0_5 mo3_5 mo4_5
  refine dh_nw (4) (fun M_ hM_ => (nw_alloc y67_az70 rfl)) trivial mo4_6 rfl ⟨.inl (by simp <;> omega), trivial⟩ ⟨.inl (by simp <;> omega), ⟨.inl (by simp <;> omega), ⟨.inl (by simp <;> omega), ⟨.inl (by simp <;> omega), trivial⟩⟩⟩⟩ (fun m_7 hm_7 => ?_)
  have mo4_7 := m_set hm_7 mo4_6
  simp only [pS, Value.cells, Nat.reduceAdd, jnE, set_jn4, app_jn, app_be, hix] at mo4_7
  have mo3_7 := m_set_o hm_7 mo3_6 (by decide)
  have mo2_7 := m_set_o hm_7 mo2_6 (by decide)
  have mo1_7 := m_set_o hm_7 mo1_6 (by decide)
  have mo0_7 := m_set_o hm_7 mo0_6 (by decide)
  have ml_7 := m_set_l hm_7 ml_6
  clear hm_7 mo3_6 mo2_6 mo1_6 mo0_6 mo4_6
  refine dh_set (3) (fun M_ hM_ => (se_store (up_m rfl up_h) (u2 rfl (u4 rfl up_h)) rfl rfl (agr hM_ mo3_7 (by simp)) y67_sz70 rfl (nle rfl))) trivial ⟨.inr (wt_one 14 12 (by kernel_rfl)), ⟨.inl (by simp <;> omega), trivial⟩⟩ ⟨.inl (by simp <;> omega), ⟨.inl (by simp <;> omega), ⟨.inl (by simp <;> omega), ⟨.inr (wt_one 14 12 (by kernel_rfl)), ⟨.inl (by simp <;> omega), trivial⟩⟩⟩⟩⟩ (fun m_8 hm_8 => ?_)
  have mo3_8 := m_set hm_8 mo3_7
  simp only [pS, Value.cells, Nat.reduceAdd, jnE, set_jn4, app_jn, app_be, hix] at mo3_8
  have mo4_8 := m_set_o hm_8 mo4_7 (by decide)
  have mo2_8 := m_set_o hm_8 mo2_7 (by decide)
  have mo1_8 := m_set_o hm_8 mo1_7 (by decide)
  have mo0_8 := m_set_o hm_8 mo0_7 (by decide)
  have ml_8 := m_set_l hm_8 ml_7
  clear hm_8 mo4_7 mo3_7 mo2_7 mo1_7 mo0_7
  refine dh_nil rfl ?_
  refine al_stm (st_store (up_n up_h) (up_n (u2 rfl up_h)) rfl rfl mo4_8 y67_sz70 rfl (nle rfl)) trivial rfl (fun m_9 hm_9 => ?_)
  have mo4_9 := m_set hm_9 mo4_8
  simp only [pS, Value.cells, Nat.reduceAdd, jnE, set_jn4, app_jn, app_be, hix] at mo4_9
  have mo3_9 := m_set_o hm_9 mo3_8 (by decide)
  have mo2_9 := m_set_o hm_9 mo2_8 (by decide)
  have mo1_9 := m_set_o hm_9 mo1_8 (by decide)
  have mo0_9 := m_set_o hm_9 mo0_8 (by decide)
  have ml_9 := m_set_l hm_9 ml_8
  clear hm_9 mo3_8 mo4_8 mo2_8 mo1_8 mo0_8
  refine ae5 (up_n (up_n (u2 rfl (u4 rfl (u8 rfl s2_4))))) (up_n (up_n (u2 rfl (u4 rfl (u8 rfl s3_4))))) (up_n (up_n (u2 rfl (u4 rfl (u8 rfl s4_4))))) (up_n (up_n (up_m rfl up_h))) (up_n (up_n up_h)) ?_; clear s2_4 s3_4 s4_4; intro e_10 s2_10 s3_10 s4_10 s6_10 s7_10
  refine then_n <| aw_seq <| at_ <| ar (ro_fld_ptr y67_fl70_2 rfl s6_10) rfl <| ar (ro_fld_ptr y67_fl39_0 rfl up_h) rfl <| ar (ro_eq (ro_ld_ptr y67_ty3 rfl mo3_9 up_h (nle rfl)) (by simp only [pS, Value.cells, Nat.reduceAdd, jnE, set_jn4, app_jn, app_be, hix] <;> rfl)) rfl ?_
  refine ar (ro_fld_ptr y67_fl70_2 rfl (up_m rfl (u2 rfl s7_10))) rfl <| ar (ro_fld_ptr y67_fl39_0 rfl up_h) rfl <| ar (ro_eq (ro_ld_ptr y67_ty3 rfl mo4_9 up_h (nle rfl)) (by simp only [pS, Value.cells, Nat.reduceAdd, jnE, set_jn4, app_jn, app_be, hix] <;> rfl)) rfl ?_
  refine ar (ro_max (up_m rfl (u2 rfl up_h)) up_h) rfl <| ar (ro_fld_ptr y67_fl70_2 rfl (up_m rfl (u2 rfl (u4 rfl s6_10)))) rfl <| ar (ro_fld_ptr y67_fl39_1 rfl up_h) rfl <| ar (ro_eq (ro_ld_ptr y67_ty3 rfl mo3_9 up_h (nle rfl)) (by simp only [pS, Value.cells, Nat.reduceAdd, jnE, set_jn4, app_jn, app_be, hix] <;> rfl)) rfl ?_
  refine ar (ro_fld_ptr y67_fl70_2 rfl (u2 rfl (u8 rfl s7_10))) rfl <| ar (ro_fld_ptr y67_fl39_1 rfl up_h) rfl <| ar (ro_eq (ro_ld_ptr y67_ty3 rfl mo4_9 up_h (nle rfl)) (by simp only [pS, Value.cells, Nat.reduceAdd, jnE, set_jn4, app_jn, app_be, hix] <;> rfl)) rfl ?_
  refine ar (ro_min (up_m rfl (u2 rfl up_h)) up_h) rfl <| ar (ro_build (evP_cons (up_m rfl (u2 rfl (u4 rfl up_h))) (evP_cons up_h evP_nil)) y67_bz39 y67_bu39 y67_bp39 rfl) rfl ?_
  refine al_stm (st_alloc y67_az39 rfl ml_9) trivial rfl (fun m_11 hm_11 => ?_)
  have mo5_11 := m_push hm_11 ml_9
  simp only [pS, Value.cells, Nat.reduceAdd, jnE, set_jn4, app_jn, app_be, hix] at mo5_11
  have mo4_11 := m_push_o hm_11 mo4_9
  have mo3_11 := m_push_o hm_11 mo3_9
  have mo2_11 := m_push_o hm_11 mo2_9
  have mo1_11 := m_push_o hm_11 mo1_9
  have mo0_11 := m_push_o hm_11 mo0_9
  have ml_11 := m_push_l hm_11 ml_9
  have ml_11 : _ = 6 := ml_11
  clear hm_11 mo4_9 mo3_9 mo2_9 mo1_9 mo0_9
  refine al_stm (st_store up_h (up_m rfl up_h) rfl rfl mo5_11 y67_sz39 rfl (nle rfl)) trivial rfl (fun m_12 hm_12 => ?_)
  have mo5_12 := m_set hm_12 mo5_11
  simp only [pS, Value.cells, Nat.reduceAdd, jnE, set_jn4, app_jn, app_be, hix] at mo5_12
  have mo4_12 := m_set_o hm_12 mo4_11 (by decide)
  have mo3_12 := m_set_o hm_12 mo3_11 (by decide)
  have mo2_12 := m_set_o hm_12 mo2_11 (by decide)
  have mo1_12 := m_set_o hm_12 mo1_11 (by decide)
  have mo0_12 := m_set_o hm_12 mo0_11 (by decide)
  have ml_12 := m_set_l hm_12 ml_11
  clear hm_12 mo5_11 mo4_11 mo3_11 mo2_11 mo1_11 mo0_11
  refine ae6 (up_n (u16 rfl s2_10)) (up_n (u16 rfl s3_10)) (up_n (u16 rfl s4_10)) (up_n (u16 rfl s6_10)) (up_n (u16 rfl s7_10)) (up_n up_h) ?_; clear s2_10 s3_10 s4_10 s6_10 s7_10; intro e_13 s2_13 s3_13 s4_13 s6_13 s7_13 s8_13
  refine then_n <| aw_seq <| aw_seq <| at_ <| ar (ro_fld_ptr y67_fl70_0 rfl s6_13) rfl <| ar (ro_eq (ro_ld_ptr y67_ty3 rfl mo3_12 up_h (nle rfl)) (by simp only [pS, Value.cells, Nat.reduceAdd, jnE, set_jn4, app_jn, app_be, hix] <;> rfl)) rfl ?_
  refine ar (ro_fld_ptr y67_fl70_0 rfl (u2 rfl s7_13)) rfl <| ar (ro_eq (ro_ld_ptr y67_ty3 rfl mo4_12 up_h (nle rfl)) (by simp only [pS, Value.cells, Nat.reduceAdd, jnE, set_jn4, app_jn, app_be, hix] <;> rfl)) rfl ?_
  refine ar (ro_neq (u2 rfl up_h) up_h) rfl <| ar (ro_move up_h) rfl <| al_case up_h (fun hb_14 hq_14 => ?_) (fun hb_14 hq_14 => ?_)
  ·replace hq_14 := bnt hq_14
   refine al_skip' ⟨_, rfl, .inl hb_14⟩ rfl ?_
   refine al_skip' ⟨_, rfl, .inl (up_m rfl hb_14)⟩ rfl ?_
   refine al_skip' ⟨_, rfl, .inl (u2 rfl hb_14)⟩ rfl ?_
   refine al_skip' ⟨_, rfl, .inl (up_m rfl (u2 rfl hb_14))⟩ rfl ?_
   refine al_skip' ⟨_, rfl, .inl (u4 rfl hb_14)⟩ rfl ?_
   refine ar (ro_pickT (up_m rfl (u4 rfl hb_14)) ev_c) rfl <| ar (ro_move up_h) rfl <| al_skip' ⟨_, rfl, .inl up_h⟩ rfl ?_
   refine al_skip' ⟨_, rfl, .inl (up_m rfl up_h)⟩ rfl ?_
   refine al_skip' ⟨_, rfl, .inl (u2 rfl up_h)⟩ rfl ?_
   refine al_skip' ⟨_, rfl, .inl (up_m rfl (u2 rfl up_h))⟩ rfl ?_
   refine al_skip' ⟨_, rfl, .inl (u4 rfl up_h)⟩ rfl ?_
   refine ar (ro_pickT (up_m rfl (u4 rfl up_h)) ev_c) rfl <| ae5 (up_m rfl (u2 rfl (u16 rfl s2_13))) (up_m rfl (u2 rfl (u16 rfl s3_13))) (up_m rfl (u2 rfl (u16 rfl s4_13))) (up_m rfl (u2 rfl (u16 rfl s8_13))) up_h ?_; clear hb_14 s2_13 s3_13 s4_13 s6_13 s7_13 s8_13; intro e_15 s2_15 s3_15 s4_15 s8_15 s55_15
   refine then_n <| aw_true s55_15 <| aw_seq <| at_ <| ar (ro_build evP_nil y67_bz26 y67_bu26 y67_bp26 rfl) rfl ?_
   refine al_stm (st_store (up_m rfl s4_15) up_h rfl rfl mo2_12 y67_sz26 rfl (nle rfl)) trivial rfl (fun m_17 hm_17 => ?_)
   have mo2_17 := m_set hm_17 mo2_12
   simp only [pS, Value.cells, Nat.reduceAdd, jnE, set_jn4, app_jn, app_be, hix] at mo2_17
   have mo5_17 := m_set_o hm_17 mo5_12 (by decide)
   have mo4_17 := m_set_o hm_17 mo4_12 (by decide)
   have mo3_17 := m_set_o hm_17 mo3_12 (by decide)
   have mo1_17 := m_set_o hm_17 mo1_12 (by decide)
   have mo0_17 := m_set_o hm_17 mo0_12 (by decide)
   have ml_17 := m_set_l hm_17 ml_12
   clear hm_17 mo5_12 mo4_12 mo3_12 mo2_12 mo1_12 mo0_12
   refine ar (ro_assign ev_c) rfl <| ae2 (up_m rfl (up_n (up_m rfl s4_15))) up_h ?_; clear s2_15 s3_15 s4_15 s55_15 s8_15; intro e_18 s4_18 s5_18
   refine then_n <| aw_ret <| then_r <| ret2 (.inr rfl) (by kernel_rfl) (resV_cell s4_18 mo2_17 y67_ty26 (nle rfl) (by simp)) (resV_tmp s5_18) (vw_r (vw_agg (vwl_cons (.ro _ rfl) (vwl_cons (.nil 4) (vwl_cons (.nil 2) (vwl_cons (.nil 3) vwl_nil)))))) (.ro _ rfl) ?_
   clear s4_18 s5_18 mo2_17 mo5_17 mo4_17 mo3_17 mo1_17 mo0_17 ml_17
   (have hz : joiX a b = 13 := (by unfold joiX joiJ; dsimp only; rw [if_neg (by omega)]); rw [joiA_n (by omega), hz]; rfl)
  replace hq_14 := bnf hq_14
  refine al_ro' (ro_fld_ptr y67_fl70_1 rfl (u2 rfl (u4 rfl s6_13))) ⟨_, rfl, hb_14⟩ rfl ?_
  refine al_ro' (ro_eq (ro_ld_ptr y67_ty3 rfl mo3_12 up_h (nle rfl)) (by simp only [pS, Value.cells, Nat.reduceAdd, jnE, set_jn4, app_jn, app_be, hix] <;> rfl)) ⟨_, rfl, (up_m rfl hb_14)⟩ rfl ?_
  refine al_ro' (ro_fld_ptr y67_fl70_1 rfl (u8 rfl s7_13)) ⟨_, rfl, (u2 rfl hb_14)⟩ rfl ?_
  refine al_ro' (ro_eq (ro_ld_ptr y67_ty3 rfl mo4_12 up_h (nle rfl)) (by simp only [pS, Value.cells, Nat.reduceAdd, jnE, set_jn4, app_jn, app_be, hix] <;> rfl)) ⟨_, rfl, (up_m rfl (u2 rfl hb_14))⟩ rfl ?_
  refine al_ro' (ro_neq (u2 rfl up_h) up_h) ⟨_, rfl, (u4 rfl hb_14)⟩ rfl ?_
  refine ar (ro_pickF (up_m rfl (u4 rfl hb_14)) up_h) rfl <| ar (ro_move up_h) rfl <| al_case up_h (fun hb_19 hq_19 => ?_) (fun hb_19 hq_19 => ?_)
  ·replace hq_19 := bnt hq_19
   refine al_skip' ⟨_, rfl, .inl hb_19⟩ rfl ?_
   refine al_skip' ⟨_, rfl, .inl (up_m rfl hb_19)⟩ rfl ?_
   refine al_skip' ⟨_, rfl, .inl (u2 rfl hb_19)⟩ rfl ?_
   refine al_skip' ⟨_, rfl, .inl (up_m rfl (u2 rfl hb_19))⟩ rfl ?_
   refine al_skip' ⟨_, rfl, .inl (u4 rfl hb_19)⟩ rfl ?_
   refine ar (ro_pickT (up_m rfl (u4 rfl hb_19)) ev_c) rfl <| ae5 (up_m rfl (u2 rfl (u16 rfl s2_13))) (up_m rfl (u2 rfl (u16 rfl s3_13))) (up_m rfl (u2 rfl (u16 rfl s4_13))) (up_m rfl (u2 rfl (u16 rfl s8_13))) up_h ?_; clear hb_14 hb_19 s2_13 s3_13 s4_13 s6_13 s7_13 s8_13; intro e_20 s2_20 s3_20 s4_20 s8_20 s55_20
   refine then_n <| aw_true s55_20 <| aw_seq <| at_ <| ar (ro_build evP_nil y67_bz26 y67_bu26 y67_bp26 rfl) rfl ?_
   refine al_stm (st_store (up_m rfl s4_20) up_h rfl rfl mo2_12 y67_sz26 rfl (nle rfl)) trivial rfl (fun m_22 hm_22 => ?_)
   have mo2_22 := m_set hm_22 mo2_12
   simp only [pS, Value.cells, Nat.reduceAdd, jnE, set_jn4, app_jn, app_be, hix] at mo2_22
   have mo5_22 := m_set_o hm_22 mo5_12 (by decide)
   have mo4_22 := m_set_o hm_22 mo4_12 (by decide)
   have mo3_22 := m_set_o hm_22 mo3_12 (by decide)
   have mo1_22 := m_set_o hm_22 mo1_12 (by decide)
   have mo0_22 := m_set_o hm_22 mo0_12 (by decide)
   have ml_22 := m_set_l hm_22 ml_12
   clear hm_22 mo5_12 mo4_12 mo3_12 mo2_12 mo1_12 mo0_12
   refine ar (ro_assign ev_c) rfl <| ae2 (up_m rfl (up_n (up_m rfl s4_20))) up_h ?_; clear s2_20 s3_20 s4_20 s55_20 s8_20; intro e_23 s4_23 s5_23
   refine then_n <| aw_ret <| then_r <| ret2 (.inr rfl) (by kernel_rfl) (resV_cell s4_23 mo2_22 y67_ty26 (nle rfl) (by simp)) (resV_tmp s5_23) (vw_r (vw_agg (vwl_cons (.ro _ rfl) (vwl_cons (.nil 4) (vwl_cons (.nil 2) (vwl_cons (.nil 3) vwl_nil)))))) (.ro _ rfl) ?_
   clear s4_23 s5_23 mo2_22 mo5_22 mo4_22 mo3_22 mo1_22 mo0_22 ml_22
   (have hz : joiX a b = 13 := (by unfold joiX joiJ; dsimp only; rw [if_neg (by omega)]); rw [joiA_n (by omega), hz]; rfl)
  replace hq_19 := bnf hq_19
  refine al_ro' (ro_fld_ptr y67_fl39_0 rfl (up_m rfl (u4 rfl (u8 rfl s8_13)))) ⟨_, rfl, hb_19⟩ rfl ?_
  refine al_ro' (ro_eq (ro_ld_ptr y67_ty3 rfl mo5_12 up_h (nle rfl)) (by simp only [pS, Value.cells, Nat.reduceAdd, jnE, set_jn4, app_jn, app_be, hix] <;> rfl)) ⟨_, rfl, (up_m rfl hb_19)⟩ rfl ?_
  refine al_ro' (ro_fld_ptr y67_fl39_1 rfl (up_m rfl (u2 rfl (u4 rfl (u8 rfl s8_13))))) ⟨_, rfl, (u2 rfl hb_19)⟩ rfl ?_
  refine al_ro' (ro_eq (ro_ld_ptr y67_ty3 rfl mo5_12 up_h (nle rfl)) (by simp only [pS, Value.cells, Nat.reduceAdd, jnE, set_jn4, app_jn, app_be, hix] <;> rfl)) ⟨_, rfl, (up_m rfl (u2 rfl hb_19))⟩ rfl ?_
  refine al_ro' (ro_gtr (u2 rfl up_h) up_h) ⟨_, rfl, (u4 rfl hb_19)⟩ rfl ?_
  refine ar (ro_pickF (up_m rfl (u4 rfl hb_19)) up_h) rfl <| ae5 (up_m rfl (u2 rfl (u16 rfl s2_13))) (up_m rfl (u2 rfl (u16 rfl s3_13))) (up_m rfl (u2 rfl (u16 rfl s4_13))) (up_m rfl (u2 rfl (u16 rfl s8_13))) up_h ?_; clear hb_14 hb_19 s2_13 s3_13 s4_13 s6_13 s7_13 s8_13; intro e_24 s2_24 s3_24 s4_24 s8_24 s55_24
  refine then_n <| aw_case s55_24 (fun hq_25 => ?_) (fun hq_25 => ?_)
  ·replace hq_25 := bt hq_25
   refine aw_seq <| at_ <| ar (ro_build evP_nil y67_bz26 y67_bu26 y67_bp26 rfl) rfl ?_
   refine al_stm (st_store (up_m rfl s4_24) up_h rfl rfl mo2_12 y67_sz26 rfl (nle rfl)) trivial rfl (fun m_26 hm_26 => ?_)
   have mo2_26 := m_set hm_26 mo2_12
   simp only [pS, Value.cells, Nat.reduceAdd, jnE, set_jn4, app_jn, app_be, hix] at mo2_26
   have mo5_26 := m_set_o hm_26 mo5_12 (by decide)
   have mo4_26 := m_set_o hm_26 mo4_12 (by decide)
   have mo3_26 := m_set_o hm_26 mo3_12 (by decide)
   have mo1_26 := m_set_o hm_26 mo1_12 (by decide)
   have mo0_26 := m_set_o hm_26 mo0_12 (by decide)
   have ml_26 := m_set_l hm_26 ml_12
   clear hm_26 mo5_12 mo4_12 mo3_12 mo2_12 mo1_12 mo0_12
   refine ar (ro_assign ev_c) rfl <| ae2 (up_m rfl (up_n (up_m rfl s4_24))) up_h ?_; clear s2_24 s3_24 s4_24 s55_24 s8_24; intro e_27 s4_27 s5_27
   refine then_n <| aw_ret <| then_r <| ret2 (.inr rfl) (by kernel_rfl) (resV_cell s4_27 mo2_26 y67_ty26 (nle rfl) (by simp)) (resV_tmp s5_27) (vw_r (vw_agg (vwl_cons (.ro _ rfl) (vwl_cons (.nil 4) (vwl_cons (.nil 2) (vwl_cons (.nil 3) vwl_nil)))))) (.ro _ rfl) ?_
   clear s4_27 s5_27 mo2_26 mo5_26 mo4_26 mo3_26 mo1_26 mo0_26 ml_26
   (have hz : joiX a b = 13 := (by unfold joiX joiJ; dsimp only; rw [if_neg (by omega)]); rw [joiA_n (by omega), hz]; rfl)
  replace hq_25 := bf hq_25
  refine aw_skip <| then_n <| aw_seq <| aw_seq <| at_ <| ar (ro_fld_ptr y67_fl26_2 rfl s2_24) rfl <| ar (ro_eq (ro_ld_ptr y67_ty23 rfl mo0_12 up_h (nle rfl)) (by simp only [pS, Value.cells, Nat.reduceAdd, jnE, set_jn4, app_jn, app_be, hix] <;> rfl)) rfl ?_
  refine ar (ro_eq (ro_len_row up_h rfl y67_sl23.1) (by simp only [lnS] <;> rfl)) rfl ?_
  refine ar (ro_fld_ptr y67_fl26_2 rfl (up_m rfl (u2 rfl s3_24))) rfl <| ar (ro_eq (ro_ld_ptr y67_ty23 rfl mo1_12 up_h (nle rfl)) (by simp only [pS, Value.cells, Nat.reduceAdd, jnE, set_jn4, app_jn, app_be, hix] <;> rfl)) rfl ?_
  refine ar (ro_eq (ro_len_row up_h rfl y67_sl23.1) (by simp only [lnS] <;> rfl)) rfl ?_
  (refine ar (ro_add' (up_m rfl (u2 rfl up_h)) up_h ?_) rfl ?_; · (unfold In64; omega))
  refine ar (ro_gtr up_h ev_c) rfl <| ae5 (u8 rfl s2_24) (u8 rfl s3_24) (u8 rfl s4_24) (u8 rfl s8_24) up_h ?_; clear s2_24 s3_24 s4_24 s55_24 s8_24; intro e_28 s2_28 s3_28 s4_28 s8_28 s64_28
  refine then_n <| aw_case s64_28 (fun hq_29 => ?_) (fun hq_29 => ?_)
  ·replace hq_29 := bt hq_29
   refine aw_seq <| at_ <| ar (ro_build evP_nil y67_bz26 y67_bu26 y67_bp26 rfl) rfl ?_
   refine al_stm (st_store (up_m rfl s4_28) up_h rfl rfl mo2_12 y67_sz26 rfl (nle rfl)) trivial rfl (fun m_30 hm_30 => ?_)
   have mo2_30 := m_set hm_30 mo2_12
   simp only [pS, Value.cells, Nat.reduceAdd, jnE, set_jn4, app_jn, app_be, hix] at mo2_30
   have mo5_30 := m_set_o hm_30 mo5_12 (by decide)
   have mo4_30 := m_set_o hm_30 mo4_12 (by decide)
   have mo3_30 := m_set_o hm_30 mo3_12 (by decide)
   have mo1_30 := m_set_o hm_30 mo1_12 (by decide)
   have mo0_30 := m_set_o hm_30 mo0_12 (by decide)
   have ml_30 := m_set_l hm_30 ml_12
   clear hm_30 mo5_12 mo4_12 mo3_12 mo2_12 mo1_12 mo0_12
   refine ar (ro_assign ev_c) rfl <| ae2 (up_m rfl (up_n (up_m rfl s4_28))) up_h ?_; clear s2_28 s3_28 s4_28 s64_28 s8_28; intro e_31 s4_31 s5_31
   refine then_n <| aw_ret <| then_r <| ret2 (.inr rfl) (by kernel_rfl) (resV_cell s4_31 mo2_30 y67_ty26 (nle rfl) (by simp)) (resV_tmp s5_31) (vw_r (vw_agg (vwl_cons (.ro _ rfl) (vwl_cons (.nil 4) (vwl_cons (.nil 2) (vwl_cons (.nil 3) vwl_nil)))))) (.ro _ rfl) ?_
   clear s4_31 s5_31 mo2_30 mo5_30 mo4_30 mo3_30 mo1_30 mo0_30 ml_30
   (have hz : joiX a b = 8 := (by unfold joiX joiJ; dsimp only; rw [if_pos (by omega), if_neg (by omega)]); rw [joiA_n (by omega), hz]; rfl)
  replace hq_29 := bf hq_29
  refine aw_skip <| then_n <| aw_seq <| at_ <| ar (ro_eq (ro_ld_ptr y67_ty26 rfl mo0_12 s2_28 (nle rfl)) (by simp only [pS, Value.cells, Nat.reduceAdd, jnE, set_jn4, app_jn, app_be, hix] <;> rfl)) rfl ?_
  refine al_stm (st_call2 ml_12 (evL_cons up_h evL_nil) rfl (copyTwo_ok a ha hr.ful) y67_hcf18) trivial rfl (fun m_32 hm_32 => ?_)
  have mo6_32 := m_push2 hm_32 ml_12
  have mo7_32 := m_push2b hm_32 ml_12
  simp only [pS, Value.cells, Nat.reduceAdd, jnE, set_jn4, app_jn, app_be, hix] at mo7_32
  have mo5_32 := m_push2_o hm_32 mo5_12
  have mo4_32 := m_push2_o hm_32 mo4_12
  have mo3_32 := m_push2_o hm_32 mo3_12
  have mo2_32 := m_push2_o hm_32 mo2_12
  have mo1_32 := m_push2_o hm_32 mo1_12
  have mo0_32 := m_push2_o hm_32 mo0_12
  have ml_32 := m_push2_l hm_32 ml_12
  have ml_32 : _ = 8 := ml_32
  clear hm_32 mo5_12 mo4_12 mo3_12 mo2_12 mo1_12 mo0_12
  refine al_stm (st_alloc y67_az26 rfl ml_32) trivial rfl (fun m_33 hm_33 => ?_)
  have mo8_33 := m_push hm_33 ml_32
  simp only [pS, Value.cells, Nat.reduceAdd, jnE, set_jn4, app_jn, app_be, hix] at mo8_33
  have mo6_33 := m_push_o hm_33 mo6_32
  have mo7_33 := m_push_o hm_33 mo7_32
  have mo5_33 := m_push_o hm_33 mo5_32
  have mo4_33 := m_push_o hm_33 mo4_32
  have mo3_33 := m_push_o hm_33 mo3_32
  have mo2_33 := m_push_o hm_33 mo2_32
  have mo1_33 := m_push_o hm_33 mo1_32
  have mo0_33 := m_push_o hm_33 mo0_32
  have ml_33 := m_push_l hm_33 ml_32
  have ml_33 : _ = 9 := ml_33
  clear hm_33 mo6_32 mo7_32 mo5_32 mo4_32 mo3_32 mo2_32 mo1_32 mo0_32
  refine al_stm (st_storeO up_h (up_m rfl up_h) rfl (oneL_c rfl (oneL_o mo6_33 (oneL_o mo7_33 (oneL_c rfl oneL_nil)))) mo8_33 y67_sz26 rfl (nle rfl)) trivial rfl (fun m_34 hm_34 => ?_)
  have mo8_34 := m_set hm_34 mo8_33
  simp only [pS, Value.cells, Nat.reduceAdd, jnE, set_jn4, app_jn, app_be, hix] at mo8_34
  have mo6_34 := m_set_o hm_34 mo6_33 (by decide)
  have mo7_34 := m_set_o hm_34 mo7_33 (by decide)
  have mo5_34 := m_set_o hm_34 mo5_33 (by decide)
  have mo4_34 := m_set_o hm_34 mo4_33 (by decide)
  have mo3_34 := m_set_o hm_34 mo3_33 (by decide)
  have mo2_34 := m_set_o hm_34 mo2_33 (by decide)
  have mo1_34 := m_set_o hm_34 mo1_33 (by decide)
  have mo0_34 := m_set_o hm_34 mo0_33 (by decide)
  have ml_34 := m_set_l hm_34 ml_33
  clear hm_34 mo8_33 mo6_33 mo7_33 mo5_33 mo4_33 mo3_33 mo2_33 mo1_33 mo0_33
  refine ae5 (up_n (up_m rfl (u2 rfl s2_28))) (up_n (up_m rfl (u2 rfl s3_28))) (up_n (up_m rfl (u2 rfl s4_28))) (up_n (up_m rfl (u2 rfl s8_28))) (up_n up_h) ?_; clear s2_28 s3_28 s4_28 s64_28 s8_28; intro e_35 s2_35 s3_35 s4_35 s8_35 s9_35
  refine then_n <| aw_seq <| at_ <| ar (ro_fld_ptr y67_fl26_3 rfl s9_35) rfl <| al_stm (st_store up_h ev_c rfl rfl mo8_34 y67_sz24 rfl (nle rfl)) trivial rfl (fun m_36 hm_36 => ?_)
  have mo8_36 := m_set hm_36 mo8_34
  simp only [pS, Value.cells, Nat.reduceAdd, jnE, set_jn4, app_jn, app_be, hix] at mo8_36
  have mo6_36 := m_set_o hm_36 mo6_34 (by decide)
  have mo7_36 := m_set_o hm_36 mo7_34 (by decide)
  have mo5_36 := m_set_o hm_36 mo5_34 (by decide)
  have mo4_36 := m_set_o hm_36 mo4_34 (by decide)
  have mo3_36 := m_set_o hm_36 mo3_34 (by decide)
  have mo2_36 := m_set_o hm_36 mo2_34 (by decide)
  have mo1_36 := m_set_o hm_36 mo1_34 (by decide)
  have mo0_36 := m_set_o hm_36 mo0_34 (by decide)
  have ml_36 := m_set_l hm_36 ml_34
  clear hm_36 mo8_34 mo6_34 mo7_34 mo5_34 mo4_34 mo3_34 mo2_34 mo1_34 mo0_34
  refine ae5 (up_n (up_m rfl s2_35)) (up_n (up_m rfl s3_35)) (up_n (up_m rfl s4_35)) (up_n (up_m rfl s8_35)) (up_n (up_m rfl s9_35)) ?_; clear s2_35 s3_35 s4_35 s8_35 s9_35; intro e_37 s2_37 s3_37 s4_37 s8_37 s9_37
  refine then_n <| aw_seq <| at_ <| ar (ro_fld_ptr y67_fl26_1 rfl s9_37) rfl <| ar (ro_eq (ro_ld_ptr y67_ty22 rfl mo8_36 up_h (nle rfl)) (by simp only [pS, Value.cells, Nat.reduceAdd, jnE, set_jn4, app_jn, app_be, hix] <;> rfl)) rfl ?_
  refine ar (ro_fld_ptr y67_fl26_1 rfl (u2 rfl s2_37)) rfl <| ar (ro_eq (ro_ld_ptr y67_ty22 rfl mo0_36 up_h (nle rfl)) (by simp only [pS, Value.cells, Nat.reduceAdd, jnE, set_jn4, app_jn, app_be, hix] <;> rfl)) rfl ?_
  refine ar (ro_eq (ro_len_row up_h rfl y67_sl22.1) (by simp only [lnS] <;> rfl)) rfl ?_
  (refine ar (ro_sub' up_h ev_c ?_) rfl ?_; · (unfold In64; omega))
  refine ar (ro_eq (ro_ld_ptr y67_ty39 rfl mo5_36 (u2 rfl (u4 rfl s8_37)) (nle rfl)) (by simp only [pS, Value.cells, Nat.reduceAdd, jnE, set_jn4, app_jn, app_be, hix] <;> rfl)) rfl ?_
  refine ar (ro_ix_own y67_sl22 mo6_36 (up_m rfl (u4 rfl up_h)) (up_m rfl up_h) (by omega) (by simp only [lnS] <;> omega)) rfl ?_
  refine ar (ro_fld_el (o := 0) y67_fl70_2 rfl up_h) rfl <| al_stm (st_store_el up_h (u2 rfl up_h) rfl rfl rfl mo6_36 rfl (by first | (refine idx_map ?_; first | omega | (simp only [lnS]; omega)) | (refine idx_mapI ?_; first | omega | (simp only [lnS]; omega)) | (refine idx_mapN ?_; first | omega | (simp only [lnS]; omega)) | rfl) y67_sz39 rfl (nle rfl)) trivial rfl (fun m_38 hm_38 => ?_)
  have mo6_38 := m_set hm_38 mo6_36
  simp only [pS, Value.cells, Nat.reduceAdd, jnE, set_jn4, app_jn, app_be, hix] at mo6_38
  have mo8_38 := m_set_o hm_38 mo8_36 (by decide)
  have mo7_38 := m_set_o hm_38 mo7_36 (by decide)
  have mo5_38 := m_set_o hm_38 mo5_36 (by decide)
  have mo4_38 := m_set_o hm_38 mo4_36 (by decide)
  have mo3_38 := m_set_o hm_38 mo3_36 (by decide)
  have mo2_38 := m_set_o hm_38 mo2_36 (by decide)
  have mo1_38 := m_set_o hm_38 mo1_36 (by decide)
  have mo0_38 := m_set_o hm_38 mo0_36 (by decide)
  have ml_38 := m_set_l hm_38 ml_36
  clear hm_38 mo8_36 mo6_36 mo7_36 mo5_36 mo4_36 mo3_36 mo2_36 mo1_36 mo0_36
  refine ae3 (up_n (up_m rfl (u8 rfl s3_37))) (up_n (up_m rfl (u8 rfl s4_37))) (up_n (up_m rfl (u8 rfl s9_37))) ?_; clear s2_37 s3_37 s4_37 s8_37 s9_37; intro e_39 s3_39 s4_39 s9_39
  refine then_n <| aw_seq <| aw_draw 5 (by kernel_rfl) (by kernel_rfl) (by kernel_rfl) (by kernel_rfl) ?_
  refine dr (ro_fld_ptr y67_fl26_1 rfl s9_39) rfl <| dr (ro_eq (ro_ld_ptr y67_ty22 rfl mo8_38 up_h (nle rfl)) (by simp only [pS, Value.cells, Nat.reduceAdd, jnE, set_jn4, app_jn, app_be, hix] <;> rfl)) rfl ?_
  refine dr (ro_fld_ptr y67_fl26_1 rfl (u2 rfl s3_39)) rfl <| dr (ro_eq (ro_ld_ptr y67_ty22 rfl mo1_38 up_h (nle rfl)) (by simp only [pS, Value.cells, Nat.reduceAdd, jnE, set_jn4, app_jn, app_be, hix] <;> rfl)) rfl ?_
  refine dr (ro_sll y67_sl22 up_h ev_c (by decide) (by simp only [lnS] <;> omega)) rfl ?_
  refine ds_nil <| al_stm (st_app y67_sl22 rfl ml_38 mo6_38 (up_m rfl (u2 rfl up_h)) up_h (by first | rfl | (simp [oneA]; done) | first | exact jnE_oneD _ _ | exact beE_one _) (by simp only [lnS] <;> omega)) trivial rfl (fun m_40 hm_40 => ?_)
  have mo9_40 := m_swap hm_40 ml_38
  have mo8_40 := m_swap_o hm_40 mo8_38 (by decide)
  have mo7_40 := m_swap_o hm_40 mo7_38 (by decide)
  have mo5_40 := m_swap_o hm_40 mo5_38 (by decide)
  have mo4_40 := m_swap_o hm_40 mo4_38 (by decide)
  have mo3_40 := m_swap_o hm_40 mo3_38 (by decide)
  have mo2_40 := m_swap_o hm_40 mo2_38 (by decide)
  have mo1_40 := m_swap_o hm_40 mo1_38 (by decide)
  have mo0_40 := m_swap_o hm_40 mo0_38 (by decide)
  have ml_40 := m_swap_l hm_40 ml_38
  have ml_40 : _ = 10 := ml_40
  clear hm_40 mo6_38 mo8_38 mo7_38 mo5_38 mo4_38 mo3_38 mo2_38 mo1_38 mo0_38
  refine ar (ro_fld_ptr y67_fl26_1 rfl (u2 rfl (u4 rfl s9_39))) rfl <| al_stm (st_store_own up_h (up_m rfl up_h) mo8_40 mo9_40 y67_sz22 (nle rfl)) trivial rfl (fun m_41 hm_41 => ?_)
  have mo8_41 := m_set hm_41 mo8_40
  simp only [pS, Value.cells, Nat.reduceAdd, jnE, set_jn4, app_jn, app_be, hix] at mo8_41
  have mo9_41 := m_set_o hm_41 mo9_40 (by decide)
  have mo7_41 := m_set_o hm_41 mo7_40 (by decide)
  have mo5_41 := m_set_o hm_41 mo5_40 (by decide)
  have mo4_41 := m_set_o hm_41 mo4_40 (by decide)
  have mo3_41 := m_set_o hm_41 mo3_40 (by decide)
  have mo2_41 := m_set_o hm_41 mo2_40 (by decide)
  have mo1_41 := m_set_o hm_41 mo1_40 (by decide)
  have mo0_41 := m_set_o hm_41 mo0_40 (by decide)
  have ml_41 := m_set_l hm_41 ml_40
  clear hm_41 mo9_40 mo8_40 mo7_40 mo5_40 mo4_40 mo3_40 mo2_40 mo1_40 mo0_40
  refine ae3 (up_n (up_m rfl (u2 rfl (u4 rfl s3_39)))) (up_n (up_m rfl (u2 rfl (u4 rfl s4_39)))) (up_n (up_m rfl (u2 rfl (u4 rfl s9_39)))) ?_; clear s3_39 s4_39 s9_39; intro e_42 s3_42 s4_42 s9_42
  refine then_n <| aw_seq <| at_ <| ar (ro_fld_ptr y67_fl26_2 rfl s9_42) rfl <| ar (ro_eq (ro_ld_ptr y67_ty23 rfl mo8_41 up_h (nle rfl)) (by simp only [pS, Value.cells, Nat.reduceAdd, jnE, set_jn4, app_jn, app_be, hix] <;> rfl)) rfl ?_
  refine ar (ro_fld_ptr y67_fl26_2 rfl (u2 rfl s3_42)) rfl <| ar (ro_eq (ro_ld_ptr y67_ty23 rfl mo1_41 up_h (nle rfl)) (by simp only [pS, Value.cells, Nat.reduceAdd, jnE, set_jn4, app_jn, app_be, hix] <;> rfl)) rfl ?_
  refine al_stm (st_app y67_sl23 rfl ml_41 mo7_41 (u2 rfl up_h) up_h (by first | exact jnE_oneD _ _ | exact beE_one _) (by simp only [lnS] <;> omega)) trivial rfl (fun m_43 hm_43 => ?_)
  have mo10_43 := m_swap hm_43 ml_41
  simp only [pS, Value.cells, Nat.reduceAdd, jnE, set_jn4, app_jn, app_be, hix] at mo10_43
  have mo8_43 := m_swap_o hm_43 mo8_41 (by decide)
  have mo9_43 := m_swap_o hm_43 mo9_41 (by decide)
  have mo5_43 := m_swap_o hm_43 mo5_41 (by decide)
  have mo4_43 := m_swap_o hm_43 mo4_41 (by decide)
  have mo3_43 := m_swap_o hm_43 mo3_41 (by decide)
  have mo2_43 := m_swap_o hm_43 mo2_41 (by decide)
  have mo1_43 := m_swap_o hm_43 mo1_41 (by decide)
  have mo0_43 := m_swap_o hm_43 mo0_41 (by decide)
  have ml_43 := m_swap_l hm_43 ml_41
  have ml_43 : _ = 11 := ml_43
  clear hm_43 mo8_41 mo9_41 mo7_41 mo5_41 mo4_41 mo3_41 mo2_41 mo1_41 mo0_41
  refine ar (ro_fld_ptr y67_fl26_2 rfl (up_m rfl (u4 rfl s9_42))) rfl <| al_stm (st_store_own up_h (up_m rfl up_h) mo8_43 mo10_43 y67_sz23 (nle rfl)) trivial rfl (fun m_44 hm_44 => ?_)
  have mo8_44 := m_set hm_44 mo8_43
  simp only [pS, Value.cells, Nat.reduceAdd, jnE, set_jn4, app_jn, app_be, hix] at mo8_44
  have mo10_44 := m_set_o hm_44 mo10_43 (by decide)
  have mo9_44 := m_set_o hm_44 mo9_43 (by decide)
  have mo5_44 := m_set_o hm_44 mo5_43 (by decide)
  have mo4_44 := m_set_o hm_44 mo4_43 (by decide)
  have mo3_44 := m_set_o hm_44 mo3_43 (by decide)
  have mo2_44 := m_set_o hm_44 mo2_43 (by decide)
  have mo1_44 := m_set_o hm_44 mo1_43 (by decide)
  have mo0_44 := m_set_o hm_44 mo0_43 (by decide)
  have ml_44 := m_set_l hm_44 ml_43
  clear hm_44 mo10_43 mo8_43 mo9_43 mo5_43 mo4_43 mo3_43 mo2_43 mo1_43 mo0_43
  refine ae2 (up_n (u2 rfl (u4 rfl s4_42))) (up_n (u2 rfl (u4 rfl s9_42))) ?_; clear s3_42 s4_42 s9_42; intro e_45 s4_45 s9_45
  refine then_n <| aw_seq <| at_ <| ar (ro_eq (ro_ld_ptr y67_ty26 rfl mo8_44 s9_45 (nle rfl)) (by simp only [pS, Value.cells, Nat.reduceAdd, jnE, set_jn4, app_jn, app_be, hix] <;> rfl)) rfl ?_
  refine al_stm (st_storeO (up_m rfl s4_45) up_h rfl (oneL_c rfl (oneL_o mo9_44 (oneL_o mo10_44 (oneL_c rfl oneL_nil)))) mo2_44 y67_sz26 rfl (nle rfl)) trivial rfl (fun m_46 hm_46 => ?_)
  have mo2_46 := m_set hm_46 mo2_44
  simp only [pS, Value.cells, Nat.reduceAdd, jnE, set_jn4, app_jn, app_be, hix] at mo2_46
  have mo8_46 := m_set_o hm_46 mo8_44 (by decide)
  have mo10_46 := m_set_o hm_46 mo10_44 (by decide)
  have mo9_46 := m_set_o hm_46 mo9_44 (by decide)
  have mo5_46 := m_set_o hm_46 mo5_44 (by decide)
  have mo4_46 := m_set_o hm_46 mo4_44 (by decide)
  have mo3_46 := m_set_o hm_46 mo3_44 (by decide)
  have mo1_46 := m_set_o hm_46 mo1_44 (by decide)
  have mo0_46 := m_set_o hm_46 mo0_44 (by decide)
  have ml_46 := m_set_l hm_46 ml_44
  clear hm_46 mo8_44 mo10_44 mo9_44 mo5_44 mo4_44 mo3_44 mo2_44 mo1_44 mo0_44
  refine ar (ro_assign ev_c) rfl <| ae2 (up_m rfl (up_n (up_m rfl s4_45))) up_h ?_; clear s4_45 s9_45; intro e_47 s4_47 s5_47
  refine then_n <| aw_ret <| ret2 (.inr rfl) (by kernel_rfl) (resV_cell s4_47 mo2_46 y67_ty26 (nle rfl) (by simp)) (resV_tmp s5_47) (vw_r (vw_agg (vwl_cons (.ro _ rfl) (vwl_cons (.own _ _ _ _ mo9_46) (vwl_cons (.own _ _ _ _ mo10_46) (vwl_cons (.nil 3) vwl_nil)))))) (.ro _ rfl) ?_
  clear s4_47 s5_47 mo2_46 mo8_46 mo10_46 mo9_46 mo5_46 mo4_46 mo3_46 mo1_46 mo0_46 ml_46
  (have hz : joiX a b = 0 := (by unfold joiX joiJ; dsimp only; rw [if_pos (by omega), if_pos (by omega)]); rw [joiA_0 hz]; show _ = AV.tuple [AV.agg [_, AV.row 4 ((a.js.set (a.js.length - 1) (joiJ a b) ++ b.js.drop 1).map jnE), _, _], _]; rw [← app_jn]; rfl)
end Go.Proofs.Ytonjcljnpcmenaa
