/- Texts of this claim, one behind the other: lemmas for the statement. -/
import Derived.Test.YtonjcljnpcmenaaM7
import Derived.Test.YtonjcljnpcmenaaM6
/- Contracts of chapter 1: surveyed and warmed lines. No conditions on a program. -/
namespace Go.Proofs.Ytonjcljnpcmenaa
open Go Go.RowKit Go.Proofs
set_option linter.unusedSimpArgs false
set_option linter.unusedVariables false
theorem y61_az26 : (Try.prog.info? 26).bind (·.zero) = some (.agg #[.string ByteArray.empty, .slice none 0 0, .slice none 0 0, .slice none 0 0]) := by kernel_rfl
theorem y61_az39 : (Try.prog.info? 39).bind (·.zero) = some (.agg #[.int .i64 0, .int .i64 0]) := by kernel_rfl
theorem y61_bz26 : (Try.prog.info? 26).bind (·.zero) = some (.agg #[.string ByteArray.empty, .slice none 0 0, .slice none 0 0, .slice none 0 0]) := by kernel_rfl
theorem y61_bu26 : Try.prog.underlying 26 = some (.struct (fsOf Try.prog 26)) := by kernel_rfl
theorem y61_bp26 : ∀ w, ((fsOf Try.prog 26).mapM fun f => Prod.mk f.offset <$> sizeOf f.type : Sem (Array (Nat × Nat))).run Try.prog w = .ok (#[(0, 1), (1, 1), (2, 1), (3, 1)]) w := fun _ => by kernel_rfl
theorem y61_bz39 : (Try.prog.info? 39).bind (·.zero) = some (.agg #[.int .i64 0, .int .i64 0]) := by kernel_rfl
theorem y61_bu39 : Try.prog.underlying 39 = some (.struct (fsOf Try.prog 39)) := by kernel_rfl
theorem y61_bp39 : ∀ w, ((fsOf Try.prog 39).mapM fun f => Prod.mk f.offset <$> sizeOf f.type : Sem (Array (Nat × Nat))).run Try.prog w = .ok (#[(0, 1), (1, 1)]) w := fun _ => by kernel_rfl
theorem y61_fl26_1 : FldIs Try.prog 26 1 1 false 1 := by unfold FldIs; kernel_rfl
theorem y61_fl39_0 : FldIs Try.prog 39 0 0 false 1 := by unfold FldIs; kernel_rfl
theorem y61_fl39_1 : FldIs Try.prog 39 1 1 false 1 := by unfold FldIs; kernel_rfl
theorem y61_fl70_0 : FldIs Try.prog 70 0 0 false 1 := by unfold FldIs; kernel_rfl
theorem y61_fl70_2 : FldIs Try.prog 70 2 2 true 2 := by unfold FldIs; kernel_rfl
theorem y61_hcf18 : ∀ args w, (callFunc 18 args).run Try.prog w = .ok (.enter 18 args) w := fun _ _ => by kernel_rfl
theorem y61_hcf76 : ∀ args w, (callFunc 76 args).run Try.prog w = .ok (.enter 76 args) w := fun _ _ => by kernel_rfl
theorem y61_hcf77 : ∀ args w, (callFunc 77 args).run Try.prog w = .ok (.enter 77 args) w := fun _ _ => by kernel_rfl
theorem y61_hcf93 : ∀ args w, (callFunc 93 args).run Try.prog w = .ok (.enter 93 args) w := fun _ _ => by kernel_rfl
theorem y61_hcf94 : ∀ args w, (callFunc 94 args).run Try.prog w = .ok (.enter 94 args) w := fun _ _ => by kernel_rfl
theorem y61_hcf95 : ∀ args w, (callFunc 95 args).run Try.prog w = .ok (.enter 95 args) w := fun _ _ => by kernel_rfl
theorem y61_hcf96 : ∀ args w, (callFunc 96 args).run Try.prog w = .ok (.enter 96 args) w := fun _ _ => by kernel_rfl
theorem y61_hcf97 : ∀ args w, (callFunc 97 args).run Try.prog w = .ok (.enter 97 args) w := fun _ _ => by kernel_rfl
theorem y61_sl185 : SlIs Try.prog 185 34 1 8 (.int .i64 0) := ⟨by kernel_rfl, by kernel_rfl, by kernel_rfl⟩
theorem y61_sl22 : SlIs Try.prog 22 70 4 32 (.agg #[.int .i64 0, .int .i64 0, .int .i64 0, .int .i64 0]) := ⟨by kernel_rfl, by kernel_rfl, by kernel_rfl⟩
theorem y61_sz26 : (Try.prog.info? 26).map (·.size) = some 4 := by kernel_rfl
theorem y61_sz39 : (Try.prog.info? 39).map (·.size) = some 2 := by kernel_rfl
theorem y61_ty22 : TyIs Try.prog 22 false 1 := ⟨by kernel_rfl, by kernel_rfl⟩
theorem y61_ty26 : TyIs Try.prog 26 true 4 := ⟨by kernel_rfl, by kernel_rfl⟩
theorem y61_ty3 : TyIs Try.prog 3 false 1 := ⟨by kernel_rfl, by kernel_rfl⟩
theorem y61_ty39 : TyIs Try.prog 39 true 2 := ⟨by kernel_rfl, by kernel_rfl⟩

theorem Rgt.ful {l : Lin} (h : Rgt l) : Ful l := by
  have hjs := h.js
  have hn1 := h.n1
  have hn0 := h.n0
  refine ⟨fun hc => ?_, fun hc => ?_, fun t ht hc => ?_⟩
  · rw [hc] at hjs; simp at hjs
  · rw [hc] at hn0; simp at hn0
  · obtain ⟨i, hi, rfl⟩ := List.mem_iff_getElem.1 ht
    have h1 := h.sa i hi
    have h2 : l.ss.getD i default = l.ss[i] := by rw [List.getD_eq_getElem?_getD, List.getElem?_eq_getElem hi]; rfl
    unfold swiE at h1
    rw [h2, hc] at h1
    split at h1
    · cases h1
    · split at h1
      · cases h1
      · rw [if_pos List.length_nil] at h1; cases h1
theorem Rgt.jn0 {l : Lin} (h : Rgt l) : l.js ≠ [] := h.ful.1
/-- The line of nothing. -/
def nonL : Lin := ⟨ByteArray.empty, [], [], []⟩
/-- A joint found in a range. -/
def surJ (j : Jnt) (a b : Int) : Jnt := ⟨j.acr, j.up, max (j.acr + j.lo) a - j.acr, min (j.acr + j.hi) b - j.acr⟩
def surX (l : Lin) (n : Nat) (a b : Int) : Int := if a ≤ b then (if max ((l.js.getD n default).acr + (l.js.getD n default).lo) a ≤ min ((l.js.getD n default).acr + (l.js.getD n default).hi) b then 0 else 13) else 9
def surL (l : Lin) (n : Nat) (a b : Int) : Lin := l.withJs (l.js.set n (surJ (l.js.getD n default) a b))
def surA (l : Lin) (n : Nat) (a b : Int) : AV := if surX l n a b = 0 then .tuple [lnA (surL l n a b), mA 0] else .tuple [lnA nonL, mA (surX l n a b)]
theorem surA_0 {l : Lin} {n : Nat} {a b : Int} (h : surX l n a b = 0) : surA l n a b = .tuple [lnA (surL l n a b), mA 0] := by unfold surA; rw [if_pos h]
theorem surA_n {l : Lin} {n : Nat} {a b : Int} (h : surX l n a b ≠ 0) : surA l n a b = .tuple [lnA nonL, mA (surX l n a b)] := by unfold surA; rw [if_neg h]
theorem unl9 {a b : Int} : (unlessE (decide (a ≤ b)) 9 = 0 ↔ a ≤ b) ∧ (¬ a ≤ b → unlessE (decide (a ≤ b)) 9 = 9) := by
  by_cases h : a ≤ b <;> simp [unlessE, h]
/-- A joint with a wider range. -/
def warJ (j : Jnt) (y : Int) : Jnt := ⟨j.acr, j.up, max (-100) (j.lo - y), min 100 (j.hi + y)⟩
def warN (js : List Jnt) (y : Int) : Nat → List Jnt
  | 0 => js
  | n + 1 => (warN js y n).set n (warJ (js.getD n default) y)
theorem warN_len (js : List Jnt) (y : Int) : ∀ n : Nat, (warN js y n).length = js.length
  | 0 => rfl
  | n + 1 => by simp only [warN, List.length_set]; exact warN_len js y n
theorem warN_ge (js : List Jnt) (y : Int) : ∀ {n i : Nat}, n ≤ i → (warN js y n).getD i default = js.getD i default
  | 0, _, _ => rfl
  | n + 1, i, h => by
    simp only [warN]
    rw [List.getD_eq_getElem?_getD, List.getElem?_set_ne (by omega), ← List.getD_eq_getElem?_getD]
    exact warN_ge js y (by omega)
def warL (l : Lin) (y : Int) : Lin := l.withJs (warN l.js y l.js.length)
set_option maxRecDepth 100000 in
set_option maxHeartbeats 4000000 in
theorem common_ok (a b c d : Int) : FnOk Try.prog 96 [.agg [mA a, mA b], .agg [mA c, mA d]] (fun q => q = .agg [mA (max a c), mA (min b d)]) := by
  refine fnOk_of (fn := Try.f96) 16 (by kernel_rfl) rfl (by kernel_rfl) (Nat.le_of_ble_eq_true rfl) ?_
  intro e_0 m_0 hA hm_0
  have s0_0 : evA e_0 (.tmp 0) = _ := hA 0 _ rfl
  have s1_0 : evA e_0 (.tmp 1) = _ := hA 1 _ rfl
  have ml_0 : m_0.length = 0 := by rw [hm_0]; rfl
  clear hA hm_0
  refine aw_seq <| at_ <| al_stm (st_box s0_0 rfl ml_0) trivial rfl (fun m_1 hm_1 => ?_)
  have mo0_1 := m_push hm_1 ml_0
  have ml_1 := m_push_l hm_1 ml_0
  have ml_1 : _ = 1 := ml_1
  clear hm_1
  refine al_stm (st_box (up_m rfl s1_0) rfl ml_1) trivial rfl (fun m_2 hm_2 => ?_)
  have mo1_2 := m_push hm_2 ml_1
  have mo0_2 := m_push_o hm_2 mo0_1
  have ml_2 := m_push_l hm_2 ml_1
  have ml_2 : _ = 2 := ml_2
  clear hm_2 mo0_1
  refine al_stm (st_alloc y61_az39 rfl ml_2) trivial rfl (fun m_3 hm_3 => ?_)
  have mo2_3 := m_push hm_3 ml_2
  simp only [pS, Value.cells, Nat.reduceAdd] at mo2_3
  have mo1_3 := m_push_o hm_3 mo1_2
  have mo0_3 := m_push_o hm_3 mo0_2
  have ml_3 := m_push_l hm_3 ml_2
  have ml_3 : _ = 3 := ml_3
  clear hm_3 mo1_2 mo0_2
  refine ae3 (u2 rfl up_h) (up_m rfl up_h) up_h ?_; clear s0_0 s1_0; intro e_4 s2_4 s3_4 s4_4
  refine then_n <| aw_seq <| at_ <| ar (ro_fld_ptr y61_fl39_0 rfl s2_4) rfl <| ar (ro_eq (ro_ld_ptr y61_ty3 rfl mo0_3 up_h (nle rfl)) (by simp only [pS, Value.cells, Nat.reduceAdd] <;> rfl)) rfl ?_
  refine ar (ro_fld_ptr y61_fl39_0 rfl (u2 rfl s3_4)) rfl <| ar (ro_eq (ro_ld_ptr y61_ty3 rfl mo1_3 up_h (nle rfl)) (by simp only [pS, Value.cells, Nat.reduceAdd] <;> rfl)) rfl ?_
  refine ar (ro_max (u2 rfl up_h) up_h) rfl <| ar (ro_fld_ptr y61_fl39_1 rfl (up_m rfl (u4 rfl s2_4))) rfl <| ar (ro_eq (ro_ld_ptr y61_ty3 rfl mo0_3 up_h (nle rfl)) (by simp only [pS, Value.cells, Nat.reduceAdd] <;> rfl)) rfl ?_
  refine ar (ro_fld_ptr y61_fl39_1 rfl (up_m rfl (u2 rfl (u4 rfl s3_4)))) rfl <| ar (ro_eq (ro_ld_ptr y61_ty3 rfl mo1_3 up_h (nle rfl)) (by simp only [pS, Value.cells, Nat.reduceAdd] <;> rfl)) rfl ?_
  refine ar (ro_min (u2 rfl up_h) up_h) rfl <| ar (ro_build (evP_cons (up_m rfl (u4 rfl up_h)) (evP_cons up_h evP_nil)) y61_bz39 y61_bu39 y61_bp39 rfl) rfl ?_
  refine al_stm (st_store (up_m rfl (u2 rfl (u8 rfl s4_4))) up_h rfl rfl mo2_3 y61_sz39 rfl (nle rfl)) trivial rfl (fun m_5 hm_5 => ?_)
  have mo2_5 := m_set hm_5 mo2_3
  simp only [pS, Value.cells, Nat.reduceAdd] at mo2_5
  have mo1_5 := m_set_o hm_5 mo1_3 (by decide)
  have mo0_5 := m_set_o hm_5 mo0_3 (by decide)
  have ml_5 := m_set_l hm_5 ml_3
  clear hm_5 mo2_3 mo1_3 mo0_3
  refine ae1 (up_n (up_m rfl (u2 rfl (u8 rfl s4_4)))) ?_; clear s2_4 s3_4 s4_4; intro e_6 s4_6
  refine then_n <| aw_ret <| ret1 (.inr rfl) (by kernel_rfl) (resV_cell s4_6 mo2_5 y61_ty39 (nle rfl) (by simp)) (vw_r (.ro _ rfl)) ?_
  clear s4_6 mo2_5 mo1_5 mo0_5 ml_5
  rfl
set_option maxRecDepth 100000 in
set_option maxHeartbeats 4000000 in
theorem surveyed_bad (l : Lin) (hl : Sho l) (hb : (linM l).2 ≠ 0) (n a b : Int) : FnOk Try.prog 32 [lnA l, mA n, .agg [mA a, mA b]] (fun q => q = .tuple [lnA nonL, mA (linM l).2]) := by
  refine fnOk_of (fn := Try.f32) 92 (by kernel_rfl) rfl (by kernel_rfl) (Nat.le_of_ble_eq_true rfl) ?_
  intro e_0 m_0 hA hm_0
  have s0_0 : evA e_0 (.tmp 0) = _ := hA 0 _ rfl
  have s1_0 : evA e_0 (.tmp 1) = _ := hA 1 _ rfl
  have s2_0 : evA e_0 (.tmp 2) = _ := hA 2 _ rfl
  have ml_0 : m_0.length = 0 := by rw [hm_0]; rfl
  clear hA hm_0
  refine aw_seq <| at_ <| al_stm (st_box s0_0 rfl ml_0) trivial rfl (fun m_1 hm_1 => ?_)
  have mo0_1 := m_push hm_1 ml_0
  have ml_1 := m_push_l hm_1 ml_0
  have ml_1 : _ = 1 := ml_1
  clear hm_1
  refine al_stm (st_box (up_m rfl s2_0) rfl ml_1) trivial rfl (fun m_2 hm_2 => ?_)
  have mo1_2 := m_push hm_2 ml_1
  have mo0_2 := m_push_o hm_2 mo0_1
  have ml_2 := m_push_l hm_2 ml_1
  have ml_2 : _ = 2 := ml_2
  clear hm_2 mo0_1
  refine al_stm (st_alloc y61_az26 rfl ml_2) trivial rfl (fun m_3 hm_3 => ?_)
  have mo2_3 := m_push hm_3 ml_2
  simp only [pS, Value.cells, Nat.reduceAdd] at mo2_3
  have mo1_3 := m_push_o hm_3 mo1_2
  have mo0_3 := m_push_o hm_3 mo0_2
  have ml_3 := m_push_l hm_3 ml_2
  have ml_3 : _ = 3 := ml_3
  clear hm_3 mo1_2 mo0_2
  refine ar (ro_assign ev_c) rfl <| ae4 (u4 rfl s1_0) (up_m rfl (u2 rfl up_h)) (u2 rfl up_h) (up_m rfl up_h) ?_; clear s0_0 s1_0 s2_0; intro e_4 s1_4 s3_4 s5_4 s6_4
  refine then_n <| aw_seq <| at_ <| ar (ro_eq (ro_ld_ptr y61_ty26 rfl mo0_3 s3_4 (nle rfl)) (by simp only [pS, Value.cells, Nat.reduceAdd] <;> rfl)) rfl ?_
  refine ar (ro_call (evL_cons up_h evL_nil) rfl (yOpen_bad l hl hb) y61_hcf76) rfl <| ar (ro_move up_h) rfl <| ar (ro_extract up_h rfl) rfl <| ar (ro_extract (up_m rfl up_h) rfl) rfl <| ar (ro_assign (up_m rfl up_h)) rfl <| ar (ro_assign (up_m rfl up_h)) rfl <| ae6 (up_m rfl (u2 rfl (u4 rfl s1_4))) (up_m rfl (u2 rfl (u4 rfl s3_4))) (up_m rfl (u2 rfl (u4 rfl s5_4))) (up_m rfl (u2 rfl (u4 rfl s6_4))) (up_m rfl up_h) up_h ?_; clear s1_4 s3_4 s5_4 s6_4; intro e_5 s1_5 s3_5 s5_5 s6_5 s8_5 s9_5
  refine then_n <| aw_seq <| aw_seq <| at_ <| ar (ro_move s9_5) rfl <| ar (ro_neq up_h ev_c) rfl <| ae7 (u2 rfl s1_5) (u2 rfl s3_5) (u2 rfl s5_5) (u2 rfl s6_5) (u2 rfl s8_5) (u2 rfl s9_5) up_h ?_; clear s1_5 s3_5 s5_5 s6_5 s8_5 s9_5; intro e_6 s1_6 s3_6 s5_6 s6_6 s8_6 s9_6 s20_6
  refine then_n <| aw_case s20_6 (fun hq_7 => ?_) (fun hq_7 => ?_)
  ·replace hq_7 := bnt hq_7
   refine aw_seq <| at_ <| ar (ro_build evP_nil y61_bz26 y61_bu26 y61_bp26 rfl) rfl ?_
   refine ar (ro_move (up_m rfl s9_6)) rfl <| al_stm (st_store (u2 rfl s6_6) (up_m rfl up_h) rfl rfl mo2_3 y61_sz26 rfl (nle rfl)) trivial rfl (fun m_8 hm_8 => ?_)
   have mo2_8 := m_set hm_8 mo2_3
   simp only [pS, Value.cells, Nat.reduceAdd] at mo2_8
   have mo1_8 := m_set_o hm_8 mo1_3 (by decide)
   have mo0_8 := m_set_o hm_8 mo0_3 (by decide)
   have ml_8 := m_set_l hm_8 ml_3
   clear hm_8 mo2_3 mo1_3 mo0_3
   refine ar (ro_assign (up_n up_h)) rfl <| ae2 (up_m rfl (up_n (u2 rfl s6_6))) up_h ?_; clear s1_6 s20_6 s3_6 s5_6 s6_6 s8_6 s9_6; intro e_9 s6_9 s7_9
   refine then_n <| aw_ret <| then_r <| ret2 (.inr rfl) (by kernel_rfl) (resV_cell s6_9 mo2_8 y61_ty26 (nle rfl) (by simp)) (resV_tmp s7_9) (vw_r (vw_agg (vwl_cons (.ro _ rfl) (vwl_cons (.nil 4) (vwl_cons (.nil 2) (vwl_cons (.nil 3) vwl_nil)))))) (.ro _ rfl) ?_
   clear s6_9 s7_9 mo2_8 mo1_8 mo0_8 ml_8
   rfl
  · replace hq_7 := bnf hq_7; exfalso; omega
set_option maxRecDepth 100000 in
set_option maxHeartbeats 4000000 in
theorem surveyed_miss (l : Lin) (hl : Sho l) (hg : (linM l).2 = 0) (n a b : Int) (hm : misE n 0 (l.js.length - 1) ≠ 0) : FnOk Try.prog 32 [lnA l, mA n, .agg [mA a, mA b]] (fun q => q = .tuple [lnA nonL, mA (misE n 0 (l.js.length - 1))]) := by
  refine fnOk_of (fn := Try.f32) 92 (by kernel_rfl) rfl (by kernel_rfl) (Nat.le_of_ble_eq_true rfl) ?_
  intro e_0 m_0 hA hm_0
  have s0_0 : evA e_0 (.tmp 0) = _ := hA 0 _ rfl
  have s1_0 : evA e_0 (.tmp 1) = _ := hA 1 _ rfl
  have s2_0 : evA e_0 (.tmp 2) = _ := hA 2 _ rfl
  have ml_0 : m_0.length = 0 := by rw [hm_0]; rfl
  clear hA hm_0
  have hr := rgt_of hg; have hf : ∀ z, firstE [misE n 0 (l.js.length - 1), z] = misE n 0 (l.js.length - 1) := (fun z => by simp [firstE, hm])
  refine aw_seq <| at_ <| al_stm (st_box s0_0 rfl ml_0) trivial rfl (fun m_1 hm_1 => ?_)
  have mo0_1 := m_push hm_1 ml_0
  have ml_1 := m_push_l hm_1 ml_0
  have ml_1 : _ = 1 := ml_1
  clear hm_1
  refine al_stm (st_box (up_m rfl s2_0) rfl ml_1) trivial rfl (fun m_2 hm_2 => ?_)
  have mo1_2 := m_push hm_2 ml_1
  have mo0_2 := m_push_o hm_2 mo0_1
  have ml_2 := m_push_l hm_2 ml_1
  have ml_2 : _ = 2 := ml_2
  clear hm_2 mo0_1
  refine al_stm (st_alloc y61_az26 rfl ml_2) trivial rfl (fun m_3 hm_3 => ?_)
  have mo2_3 := m_push hm_3 ml_2
  simp only [pS, Value.cells, Nat.reduceAdd] at mo2_3
  have mo1_3 := m_push_o hm_3 mo1_2
  have mo0_3 := m_push_o hm_3 mo0_2
  have ml_3 := m_push_l hm_3 ml_2
  have ml_3 : _ = 3 := ml_3
  clear hm_3 mo1_2 mo0_2
  refine ar (ro_assign ev_c) rfl <| ae4 (u4 rfl s1_0) (up_m rfl (u2 rfl up_h)) (u2 rfl up_h) (up_m rfl up_h) ?_; clear s0_0 s1_0 s2_0; intro e_4 s1_4 s3_4 s5_4 s6_4
  refine then_n <| aw_seq <| at_ <| ar (ro_eq (ro_ld_ptr y61_ty26 rfl mo0_3 s3_4 (nle rfl)) (by simp only [pS, Value.cells, Nat.reduceAdd] <;> rfl)) rfl ?_
  refine ar (ro_call (evL_cons up_h evL_nil) rfl (yOpen_good l hl hg) y61_hcf76) rfl <| ar (ro_move up_h) rfl <| ar (ro_extract up_h rfl) rfl <| ar (ro_extract (up_m rfl up_h) rfl) rfl <| ar (ro_assign (up_m rfl up_h)) rfl <| ar (ro_assign (up_m rfl up_h)) rfl <| ae6 (up_m rfl (u2 rfl (u4 rfl s1_4))) (up_m rfl (u2 rfl (u4 rfl s3_4))) (up_m rfl (u2 rfl (u4 rfl s5_4))) (up_m rfl (u2 rfl (u4 rfl s6_4))) (up_m rfl up_h) up_h ?_; clear s1_4 s3_4 s5_4 s6_4; intro e_5 s1_5 s3_5 s5_5 s6_5 s8_5 s9_5
  refine then_n <| aw_seq <| aw_seq <| at_ <| ar (ro_move s9_5) rfl <| ar (ro_neq up_h ev_c) rfl <| ae7 (u2 rfl s1_5) (u2 rfl s3_5) (u2 rfl s5_5) (u2 rfl s6_5) (u2 rfl s8_5) (u2 rfl s9_5) up_h ?_; clear s1_5 s3_5 s5_5 s6_5 s8_5 s9_5; intro e_6 s1_6 s3_6 s5_6 s6_6 s8_6 s9_6 s20_6
  refine then_n <| aw_case s20_6 (fun hq_7 => ?_) (fun hq_7 => ?_)
  · cases hq_7
  replace hq_7 := bnf hq_7
  refine aw_skip <| then_n <| aw_seq <| aw_seq <| aw_draw 12 (by kernel_rfl) (by kernel_rfl) (by kernel_rfl) (by kernel_rfl) ?_
  refine dr (ro_move s8_6) rfl <| dr (ro_move (up_m rfl s1_6)) rfl <| dr (ro_call (evL_cons (up_m rfl up_h) (evL_cons up_h evL_nil)) rfl (yJointErr_ok l hr n) y61_hcf93) rfl <| dr (ro_fld_ptr y61_fl39_0 rfl (up_m rfl (u2 rfl s5_6))) rfl <| dr (ro_eq (ro_ld_ptr y61_ty3 rfl mo1_3 up_h (nle rfl)) (by simp only [pS, Value.cells, Nat.reduceAdd] <;> rfl)) rfl ?_
  refine dr (ro_fld_ptr y61_fl39_1 rfl (up_m rfl (u4 rfl s5_6))) rfl <| dr (ro_eq (ro_ld_ptr y61_ty3 rfl mo1_3 up_h (nle rfl)) (by simp only [pS, Value.cells, Nat.reduceAdd] <;> rfl)) rfl ?_
  refine dr (ro_leq (u2 rfl up_h) up_h) rfl <| dr (ro_call (evL_cons up_h (evL_cons ev_c evL_nil)) rfl (yUnless_ok _ _) y61_hcf94) rfl <| dr (ro_lit y61_sl185 (evP_cons (u2 rfl (u4 rfl up_h)) (evP_cons up_h evP_nil)) rfl rfl rfl rfl) rfl <| dr (ro_call (evL_cons up_h evL_nil) rfl ((yFirst_ok [_, _] (by simp)).mono (fun q h => h.trans (by rw [hf]))) y61_hcf77) rfl ?_
  refine dr (ro_assign up_h) rfl <| ds_nil <| ae5 (u4 rfl (u8 rfl s1_6)) (u4 rfl (u8 rfl s3_6)) (u4 rfl (u8 rfl s5_6)) (u4 rfl (u8 rfl s6_6)) up_h ?_; clear s1_6 s20_6 s3_6 s5_6 s6_6 s8_6 s9_6; intro e_8 s1_8 s3_8 s5_8 s6_8 s10_8
  refine then_n <| aw_seq <| at_ <| ar (ro_move s10_8) rfl <| ar (ro_neq up_h ev_c) rfl <| ae6 (u2 rfl s1_8) (u2 rfl s3_8) (u2 rfl s5_8) (u2 rfl s6_8) (u2 rfl s10_8) up_h ?_; clear s10_8 s1_8 s3_8 s5_8 s6_8; intro e_9 s1_9 s3_9 s5_9 s6_9 s10_9 s35_9
  refine then_n <| aw_case s35_9 (fun hq_10 => ?_) (fun hq_10 => ?_)
  ·replace hq_10 := bnt hq_10
   refine aw_seq <| at_ <| ar (ro_build evP_nil y61_bz26 y61_bu26 y61_bp26 rfl) rfl ?_
   refine ar (ro_move (up_m rfl s10_9)) rfl <| al_stm (st_store (u2 rfl s6_9) (up_m rfl up_h) rfl rfl mo2_3 y61_sz26 rfl (nle rfl)) trivial rfl (fun m_11 hm_11 => ?_)
   have mo2_11 := m_set hm_11 mo2_3
   simp only [pS, Value.cells, Nat.reduceAdd] at mo2_11
   have mo1_11 := m_set_o hm_11 mo1_3 (by decide)
   have mo0_11 := m_set_o hm_11 mo0_3 (by decide)
   have ml_11 := m_set_l hm_11 ml_3
   clear hm_11 mo2_3 mo1_3 mo0_3
   refine ar (ro_assign (up_n up_h)) rfl <| ae2 (up_m rfl (up_n (u2 rfl s6_9))) up_h ?_; clear s10_9 s1_9 s35_9 s3_9 s5_9 s6_9; intro e_12 s6_12 s7_12
   refine then_n <| aw_ret <| then_r <| ret2 (.inr rfl) (by kernel_rfl) (resV_cell s6_12 mo2_11 y61_ty26 (nle rfl) (by simp)) (resV_tmp s7_12) (vw_r (vw_agg (vwl_cons (.ro _ rfl) (vwl_cons (.nil 4) (vwl_cons (.nil 2) (vwl_cons (.nil 3) vwl_nil)))))) (.ro _ rfl) ?_
   clear s6_12 s7_12 mo2_11 mo1_11 mo0_11 ml_11
   rfl
  · replace hq_10 := bnf hq_10; exfalso; omega
set_option maxRecDepth 100000 in
set_option maxHeartbeats 4000000 in
theorem surveyed_in (l : Lin) (hl : Sho l) (hg : (linM l).2 = 0) (n a b : Int) (hm : misE n 0 (l.js.length - 1) = 0) : FnOk Try.prog 32 [lnA l, mA n, .agg [mA a, mA b]] (fun q => q = surA l n.toNat a b) := by
  refine fnOk_of (fn := Try.f32) 92 (by kernel_rfl) rfl (by kernel_rfl) (Nat.le_of_ble_eq_true rfl) ?_
  intro e_0 m_0 hA hm_0
  have s0_0 : evA e_0 (.tmp 0) = _ := hA 0 _ rfl
  have s1_0 : evA e_0 (.tmp 1) = _ := hA 1 _ rfl
  have s2_0 : evA e_0 (.tmp 2) = _ := hA 2 _ rfl
  have ml_0 : m_0.length = 0 := by rw [hm_0]; rfl
  clear hA hm_0
  have hr := rgt_of hg; have hjs := hr.js; have hn1 := hr.n1; have hm2 := misE_z.1 hm; have hj := hr.jnt n.toNat (by omega); have hf : ∀ z, firstE [misE n 0 (l.js.length - 1), z] = z := (fun z => by rw [hm]; exact firstE_0 z)
  refine aw_seq <| at_ <| al_stm (st_box s0_0 rfl ml_0) trivial rfl (fun m_1 hm_1 => ?_)
  have mo0_1 := m_push hm_1 ml_0
  have ml_1 := m_push_l hm_1 ml_0
  have ml_1 : _ = 1 := ml_1
  clear hm_1
  refine al_stm (st_box (up_m rfl s2_0) rfl ml_1) trivial rfl (fun m_2 hm_2 => ?_)
  have mo1_2 := m_push hm_2 ml_1
  have mo0_2 := m_push_o hm_2 mo0_1
  have ml_2 := m_push_l hm_2 ml_1
  have ml_2 : _ = 2 := ml_2
  clear hm_2 mo0_1
  refine al_stm (st_alloc y61_az26 rfl ml_2) trivial rfl (fun m_3 hm_3 => ?_)
  have mo2_3 := m_push hm_3 ml_2
  simp only [pS, Value.cells, Nat.reduceAdd, jnE, set_jn4] at mo2_3
  have mo1_3 := m_push_o hm_3 mo1_2
  have mo0_3 := m_push_o hm_3 mo0_2
  have ml_3 := m_push_l hm_3 ml_2
  have ml_3 : _ = 3 := ml_3
  clear hm_3 mo1_2 mo0_2
  refine ar (ro_assign ev_c) rfl <| ae4 (u4 rfl s1_0) (up_m rfl (u2 rfl up_h)) (u2 rfl up_h) (up_m rfl up_h) ?_; clear s0_0 s1_0 s2_0; intro e_4 s1_4 s3_4 s5_4 s6_4
  refine then_n <| aw_seq <| at_ <| ar (ro_eq (ro_ld_ptr y61_ty26 rfl mo0_3 s3_4 (nle rfl)) (by simp only [pS, Value.cells, Nat.reduceAdd, jnE, set_jn4] <;> rfl)) rfl ?_
  refine ar (ro_call (evL_cons up_h evL_nil) rfl (yOpen_good l hl hg) y61_hcf76) rfl <| ar (ro_move up_h) rfl <| ar (ro_extract up_h rfl) rfl <| ar (ro_extract (up_m rfl up_h) rfl) rfl <| ar (ro_assign (up_m rfl up_h)) rfl <| ar (ro_assign (up_m rfl up_h)) rfl <| ae6 (up_m rfl (u2 rfl (u4 rfl s1_4))) (up_m rfl (u2 rfl (u4 rfl s3_4))) (up_m rfl (u2 rfl (u4 rfl s5_4))) (up_m rfl (u2 rfl (u4 rfl s6_4))) (up_m rfl up_h) up_h ?_; clear s1_4 s3_4 s5_4 s6_4; intro e_5 s1_5 s3_5 s5_5 s6_5 s8_5 s9_5
  refine then_n <| aw_seq <| aw_seq <| at_ <| ar (ro_move s9_5) rfl <| ar (ro_neq up_h ev_c) rfl <| ae7 (u2 rfl s1_5) (u2 rfl s3_5) (u2 rfl s5_5) (u2 rfl s6_5) (u2 rfl s8_5) (u2 rfl s9_5) up_h ?_; clear s1_5 s3_5 s5_5 s6_5 s8_5 s9_5; intro e_6 s1_6 s3_6 s5_6 s6_6 s8_6 s9_6 s20_6
  refine then_n <| aw_case s20_6 (fun hq_7 => ?_) (fun hq_7 => ?_)
  · cases hq_7
  replace hq_7 := bnf hq_7
  refine aw_skip <| then_n <| aw_seq <| aw_seq <| aw_draw 12 (by kernel_rfl) (by kernel_rfl) (by kernel_rfl) (by kernel_rfl) ?_
  refine dr (ro_move s8_6) rfl <| dr (ro_move (up_m rfl s1_6)) rfl <| dr (ro_call (evL_cons (up_m rfl up_h) (evL_cons up_h evL_nil)) rfl (yJointErr_ok l hr n) y61_hcf93) rfl <| dr (ro_fld_ptr y61_fl39_0 rfl (up_m rfl (u2 rfl s5_6))) rfl <| dr (ro_eq (ro_ld_ptr y61_ty3 rfl mo1_3 up_h (nle rfl)) (by simp only [pS, Value.cells, Nat.reduceAdd, jnE, set_jn4] <;> rfl)) rfl ?_
  refine dr (ro_fld_ptr y61_fl39_1 rfl (up_m rfl (u4 rfl s5_6))) rfl <| dr (ro_eq (ro_ld_ptr y61_ty3 rfl mo1_3 up_h (nle rfl)) (by simp only [pS, Value.cells, Nat.reduceAdd, jnE, set_jn4] <;> rfl)) rfl ?_
  refine dr (ro_leq (u2 rfl up_h) up_h) rfl <| dr (ro_call (evL_cons up_h (evL_cons ev_c evL_nil)) rfl (yUnless_ok _ _) y61_hcf94) rfl <| dr (ro_lit y61_sl185 (evP_cons (u2 rfl (u4 rfl up_h)) (evP_cons up_h evP_nil)) rfl rfl rfl rfl) rfl <| dr (ro_call (evL_cons up_h evL_nil) rfl ((yFirst_ok [_, _] (by simp)).mono (fun q h => h.trans (by rw [hf]))) y61_hcf77) rfl ?_
  refine dr (ro_assign up_h) rfl <| ds_nil <| ae5 (u4 rfl (u8 rfl s1_6)) (u4 rfl (u8 rfl s3_6)) (u4 rfl (u8 rfl s5_6)) (u4 rfl (u8 rfl s6_6)) up_h ?_; clear s1_6 s20_6 s3_6 s5_6 s6_6 s8_6 s9_6; intro e_8 s1_8 s3_8 s5_8 s6_8 s10_8
  refine then_n <| aw_seq <| at_ <| ar (ro_move s10_8) rfl <| ar (ro_neq up_h ev_c) rfl <| ae6 (u2 rfl s1_8) (u2 rfl s3_8) (u2 rfl s5_8) (u2 rfl s6_8) (u2 rfl s10_8) up_h ?_; clear s10_8 s1_8 s3_8 s5_8 s6_8; intro e_9 s1_9 s3_9 s5_9 s6_9 s10_9 s35_9
  refine then_n <| aw_case s35_9 (fun hq_10 => ?_) (fun hq_10 => ?_)
  ·replace hq_10 := bnt hq_10
   refine aw_seq <| at_ <| ar (ro_build evP_nil y61_bz26 y61_bu26 y61_bp26 rfl) rfl ?_
   refine ar (ro_move (up_m rfl s10_9)) rfl <| al_stm (st_store (u2 rfl s6_9) (up_m rfl up_h) rfl rfl mo2_3 y61_sz26 rfl (nle rfl)) trivial rfl (fun m_11 hm_11 => ?_)
   have mo2_11 := m_set hm_11 mo2_3
   simp only [pS, Value.cells, Nat.reduceAdd, jnE, set_jn4] at mo2_11
   have mo1_11 := m_set_o hm_11 mo1_3 (by decide)
   have mo0_11 := m_set_o hm_11 mo0_3 (by decide)
   have ml_11 := m_set_l hm_11 ml_3
   clear hm_11 mo2_3 mo1_3 mo0_3
   refine ar (ro_assign (up_n up_h)) rfl <| ae2 (up_m rfl (up_n (u2 rfl s6_9))) up_h ?_; clear s10_9 s1_9 s35_9 s3_9 s5_9 s6_9; intro e_12 s6_12 s7_12
   refine then_n <| aw_ret <| then_r <| ret2 (.inr rfl) (by kernel_rfl) (resV_cell s6_12 mo2_11 y61_ty26 (nle rfl) (by simp)) (resV_tmp s7_12) (vw_r (vw_agg (vwl_cons (.ro _ rfl) (vwl_cons (.nil 4) (vwl_cons (.nil 2) (vwl_cons (.nil 3) vwl_nil)))))) (.ro _ rfl) ?_
   clear s6_12 s7_12 mo2_11 mo1_11 mo0_11 ml_11
   (have hq : ¬ a ≤ b := fun hc => absurd (unl9.1.2 hc) (by assumption); have hz : surX l n.toNat a b = 9 := (by unfold surX; rw [if_neg hq]); rw [surA_n (by omega), hz, unl9.2 hq]; rfl)
  replace hq_10 := bnf hq_10
  refine aw_skip <| then_n <| aw_seq <| at_ <| ar (ro_eq (ro_ld_ptr y61_ty26 rfl mo0_3 s3_9 (nle rfl)) (by simp only [pS, Value.cells, Nat.reduceAdd, jnE, set_jn4] <;> rfl)) rfl ?_
  refine al_stm (st_callL ml_3 (evL_cons up_h evL_nil) rfl (copied_own l hl hr.ful) y61_hcf95) trivial rfl (fun m_13 hm_13 => ?_)
  have mo3_13 := m_push hm_13 ml_3
  have mo2_13 := m_push_o hm_13 mo2_3
  have mo1_13 := m_push_o hm_13 mo1_3
  have mo0_13 := m_push_o hm_13 mo0_3
  have ml_13 := m_push_l hm_13 ml_3
  have ml_13 : _ = 4 := ml_13
  clear hm_13 mo2_3 mo1_3 mo0_3
  refine al_stm (st_alloc y61_az26 rfl ml_13) trivial rfl (fun m_14 hm_14 => ?_)
  have mo4_14 := m_push hm_14 ml_13
  simp only [pS, Value.cells, Nat.reduceAdd, jnE, set_jn4] at mo4_14
  have mo3_14 := m_push_o hm_14 mo3_13
  have mo2_14 := m_push_o hm_14 mo2_13
  have mo1_14 := m_push_o hm_14 mo1_13
  have mo0_14 := m_push_o hm_14 mo0_13
  have ml_14 := m_push_l hm_14 ml_13
  have ml_14 : _ = 5 := ml_14
  clear hm_14 mo3_13 mo2_13 mo1_13 mo0_13
  refine al_stm (st_storeO up_h (up_m rfl up_h) rfl (oneL_c rfl (oneL_o mo3_14 (oneL_c rfl (oneL_c rfl oneL_nil)))) mo4_14 y61_sz26 rfl (nle rfl)) trivial rfl (fun m_15 hm_15 => ?_)
  have mo4_15 := m_set hm_15 mo4_14
  simp only [pS, Value.cells, Nat.reduceAdd, jnE, set_jn4] at mo4_15
  have mo3_15 := m_set_o hm_15 mo3_14 (by decide)
  have mo2_15 := m_set_o hm_15 mo2_14 (by decide)
  have mo1_15 := m_set_o hm_15 mo1_14 (by decide)
  have mo0_15 := m_set_o hm_15 mo0_14 (by decide)
  have ml_15 := m_set_l hm_15 ml_14
  clear hm_15 mo4_14 mo3_14 mo2_14 mo1_14 mo0_14
  refine ae4 (up_n (up_m rfl (u2 rfl s1_9))) (up_n (up_m rfl (u2 rfl s5_9))) (up_n (up_m rfl (u2 rfl s6_9))) (up_n up_h) ?_; clear s10_9 s1_9 s35_9 s3_9 s5_9 s6_9; intro e_16 s1_16 s5_16 s6_16 s11_16
  refine then_n <| aw_seq <| at_ <| ar (ro_fld_ptr y61_fl26_1 rfl s11_16) rfl <| ar (ro_eq (ro_ld_ptr y61_ty22 rfl mo4_15 up_h (nle rfl)) (by simp only [pS, Value.cells, Nat.reduceAdd, jnE, set_jn4] <;> rfl)) rfl ?_
  refine ar (ro_move (u2 rfl s1_16)) rfl <| ar (ro_ix_own y61_sl22 mo3_15 (up_m rfl up_h) up_h (by omega) (by simp only [lnS] <;> omega)) rfl ?_
  refine ar (ro_assign up_h) rfl <| ae4 (up_m rfl (u4 rfl s5_16)) (up_m rfl (u4 rfl s6_16)) (up_m rfl (u4 rfl s11_16)) up_h ?_; clear s11_16 s1_16 s5_16 s6_16; intro e_17 s5_17 s6_17 s11_17 s12_17
  refine then_n <| aw_seq <| aw_drawK 24 1 ml_15 (by kernel_rfl) (by kernel_rfl) (by kernel_rfl) (by kernel_rfl) (fun m_18 hm_18 => ?_)
  have mo4_18 := m_room_o hm_18 mo4_15
  have mo3_18 := m_room_o hm_18 mo3_15
  have mo2_18 := m_room_o hm_18 mo2_15
  have mo1_18 := m_room_o hm_18 mo1_15
  have mo0_18 := m_room_o hm_18 mo0_15
  have mo5_18 : m_18[5]? = _ := m_room_g hm_18 ml_15 0 rfl rfl
  have ml_18 : _ = 6 := m_room_l (K := 1) hm_18 ml_15
  clear hm_18 mo4_15 mo3_15 mo2_15 mo1_15 mo0_15 ml_15
  refine dh_ro (fun M_ hM_ => (ro_move s12_17)) trivial ?_
  refine dh_ro (fun M_ hM_ => (ro_nilP up_h)) trivial ?_
  refine dh_ro (fun M_ hM_ => (ro_fld_ptr y61_fl70_0 rfl up_h)) trivial ?_
  refine dh_ld (3) (fun M_ hM_ => (ro_eq (ro_ld_el y61_ty3 rfl (agr hM_ mo3_18 (by simp)) up_h (nle rfl) (by first | (refine idx_map ?_; first | omega | (simp only [lnS]; omega)) | (refine idx_mapI ?_; first | omega | (simp only [lnS]; omega)) | (refine idx_mapN ?_; first | omega | (simp only [lnS]; omega)) | rfl)) (by simp only [pS, Value.cells, Nat.reduceAdd, jnE, set_jn4] <;> rfl))) trivial trivial ?_
  refine dh_ro (fun M_ hM_ => (ro_move (u4 rfl s12_17))) trivial ?_
  refine dh_ro (fun M_ hM_ => (ro_nilP up_h)) trivial ?_
  refine dh_ro (fun M_ hM_ => (ro_fld_el (o := 0) y61_fl70_2 rfl up_h)) trivial ?_
  refine dh_ro (fun M_ hM_ => (ro_fld_elO y61_fl39_0 rfl up_h)) trivial ?_
  refine dh_ld (3) (fun M_ hM_ => (ro_eq (ro_ld_elO y61_ty3 rfl (agr hM_ mo3_18 (by simp)) up_h (nle rfl) (by first | (refine idx_map ?_; first | omega | (simp only [lnS]; omega)) | (refine idx_mapI ?_; first | omega | (simp only [lnS]; omega)) | (refine idx_mapN ?_; first | omega | (simp only [lnS]; omega)) | rfl)) (by simp only [pS, Value.cells, Nat.reduceAdd, jnE, set_jn4] <;> rfl))) trivial trivial ?_
  (refine dh_ro (fun M_ hM_ => (ro_add' (up_m rfl (u4 rfl up_h)) up_h ?_)) trivial ?_; · (unfold In64; omega))
  refine dh_ro (fun M_ hM_ => (ro_move (u2 rfl (u8 rfl s12_17)))) trivial ?_
  refine dh_ro (fun M_ hM_ => (ro_nilP up_h)) trivial ?_
  refine dh_ro (fun M_ hM_ => (ro_fld_ptr y61_fl70_0 rfl up_h)) trivial ?_
  refine dh_ld (3) (fun M_ hM_ => (ro_eq (ro_ld_el y61_ty3 rfl (agr hM_ mo3_18 (by simp)) up_h (nle rfl) (by first | (refine idx_map ?_; first | omega | (simp only [lnS]; omega)) | (refine idx_mapI ?_; first | omega | (simp only [lnS]; omega)) | (refine idx_mapN ?_; first | omega | (simp only [lnS]; omega)) | rfl)) (by simp only [pS, Value.cells, Nat.reduceAdd, jnE, set_jn4] <;> rfl))) trivial trivial ?_
  refine dh_ro (fun M_ hM_ => (ro_move (u2 rfl (u4 rfl (u8 rfl s12_17))))) trivial ?_
  refine dh_ro (fun M_ hM_ => (ro_nilP up_h)) trivial ?_
  refine dh_ro (fun M_ hM_ => (ro_fld_el (o := 0) y61_fl70_2 rfl up_h)) trivial ?_
  refine dh_ro (fun M_ hM_ => (ro_fld_elO y61_fl39_1 rfl up_h)) trivial ?_
  refine dh_ld (3) (fun M_ hM_ => (ro_eq (ro_ld_elO y61_ty3 rfl (agr hM_ mo3_18 (by simp)) up_h (nle rfl) (by first | (refine idx_map ?_; first | omega | (simp only [lnS]; omega)) | (refine idx_mapI ?_; first | omega | (simp only [lnS]; omega)) | (refine idx_mapN ?_; first | omega | (simp only [lnS]; omega)) | rfl)) (by simp only [pS, Value.cells, Nat.reduceAdd, jnE, set_jn4] <;> rfl))) trivial trivial ?_
  (refine dh_ro (fun M_ hM_ => (ro_add' (up_m rfl (u4 rfl up_h)) up_h ?_)) trivial ?_; · (unfold In64; omega))
  refine dh_ro (fun M_ hM_ => (ro_build (evP_cons (u2 rfl (u8 rfl up_h)) (evP_cons up_h evP_nil)) y61_bz39 y61_bu39 y61_bp39 rfl)) trivial ?_
  refine dh_ld (1) (fun M_ hM_ => (ro_eq (ro_ld_ptr y61_ty39 rfl (agr hM_ mo1_18 (by simp)) (up_m rfl (u4 rfl (u16 rfl s5_17))) (nle rfl)) (by simp only [pS, Value.cells, Nat.reduceAdd, jnE, set_jn4] <;> rfl))) trivial trivial ?_
  refine dh_ro (fun M_ hM_ => (ro_call (evL_cons (up_m rfl up_h) (evL_cons up_h evL_nil)) rfl (common_ok _ _ _ _) y61_hcf96)) trivial ?_
  refine dh_nw (5) (fun M_ hM_ => (nw_alloc y61_az39 rfl)) trivial mo5_18 rfl trivial ⟨.inl (by simp <;> omega), ⟨.inl (by simp <;> omega), ⟨.inl (by simp <;> omega), ⟨.inl (by simp <;> omega), ⟨.inl (by simp <;> omega), trivial⟩⟩⟩⟩⟩ (fun m_19 hm_19 => ?_)
  have mo5_19 := m_set hm_19 mo5_18
  simp only [pS, Value.cells, Nat.reduceAdd, jnE, set_jn4] at mo5_19
  have mo4_19 := m_set_o hm_19 mo4_18 (by decide)
  have mo3_19 := m_set_o hm_19 mo3_18 (by decide)
  have mo2_19 := m_set_o hm_19 mo2_18 (by decide)
  have mo1_19 := m_set_o hm_19 mo1_18 (by decide)
  have mo0_19 := m_set_o hm_19 mo0_18 (by decide)
  have ml_19 := m_set_l hm_19 ml_18
  clear hm_19 mo4_18 mo3_18 mo2_18 mo1_18 mo0_18 mo5_18
  refine dh_nil rfl ?_
  refine al_stm (st_store up_h (up_m rfl up_h) rfl rfl mo5_19 y61_sz39 rfl (nle rfl)) trivial rfl (fun m_20 hm_20 => ?_)
  have mo5_20 := m_set hm_20 mo5_19
  simp only [pS, Value.cells, Nat.reduceAdd, jnE, set_jn4] at mo5_20
  have mo4_20 := m_set_o hm_20 mo4_19 (by decide)
  have mo3_20 := m_set_o hm_20 mo3_19 (by decide)
  have mo2_20 := m_set_o hm_20 mo2_19 (by decide)
  have mo1_20 := m_set_o hm_20 mo1_19 (by decide)
  have mo0_20 := m_set_o hm_20 mo0_19 (by decide)
  have ml_20 := m_set_l hm_20 ml_19
  clear hm_20 mo5_19 mo4_19 mo3_19 mo2_19 mo1_19 mo0_19
  refine ae4 (up_n (u8 rfl (u16 rfl s6_17))) (up_n (u8 rfl (u16 rfl s11_17))) (up_n (u8 rfl (u16 rfl s12_17))) (up_n up_h) ?_; clear s11_17 s12_17 s5_17 s6_17; intro e_21 s6_21 s11_21 s12_21 s13_21
  refine then_n <| aw_seq <| aw_seq <| at_ <| ar (ro_fld_ptr y61_fl39_0 rfl s13_21) rfl <| ar (ro_eq (ro_ld_ptr y61_ty3 rfl mo5_20 up_h (nle rfl)) (by simp only [pS, Value.cells, Nat.reduceAdd, jnE, set_jn4] <;> rfl)) rfl ?_
  refine ar (ro_fld_ptr y61_fl39_1 rfl (u2 rfl s13_21)) rfl <| ar (ro_eq (ro_ld_ptr y61_ty3 rfl mo5_20 up_h (nle rfl)) (by simp only [pS, Value.cells, Nat.reduceAdd, jnE, set_jn4] <;> rfl)) rfl ?_
  refine ar (ro_gtr (u2 rfl up_h) up_h) rfl <| ae5 (up_m rfl (u4 rfl s6_21)) (up_m rfl (u4 rfl s11_21)) (up_m rfl (u4 rfl s12_21)) (up_m rfl (u4 rfl s13_21)) up_h ?_; clear s11_21 s12_21 s13_21 s6_21; intro e_22 s6_22 s11_22 s12_22 s13_22 s71_22
  refine then_n <| aw_case s71_22 (fun hq_23 => ?_) (fun hq_23 => ?_)
  ·replace hq_23 := bt hq_23
   refine aw_seq <| at_ <| ar (ro_build evP_nil y61_bz26 y61_bu26 y61_bp26 rfl) rfl ?_
   refine al_stm (st_store (up_m rfl s6_22) up_h rfl rfl mo2_20 y61_sz26 rfl (nle rfl)) trivial rfl (fun m_24 hm_24 => ?_)
   have mo2_24 := m_set hm_24 mo2_20
   simp only [pS, Value.cells, Nat.reduceAdd, jnE, set_jn4] at mo2_24
   have mo5_24 := m_set_o hm_24 mo5_20 (by decide)
   have mo4_24 := m_set_o hm_24 mo4_20 (by decide)
   have mo3_24 := m_set_o hm_24 mo3_20 (by decide)
   have mo1_24 := m_set_o hm_24 mo1_20 (by decide)
   have mo0_24 := m_set_o hm_24 mo0_20 (by decide)
   have ml_24 := m_set_l hm_24 ml_20
   clear hm_24 mo5_20 mo4_20 mo3_20 mo2_20 mo1_20 mo0_20
   refine ar (ro_assign ev_c) rfl <| ae2 (up_m rfl (up_n (up_m rfl s6_22))) up_h ?_; clear s11_22 s12_22 s13_22 s6_22 s71_22; intro e_25 s6_25 s7_25
   refine then_n <| aw_ret <| then_r <| ret2 (.inr rfl) (by kernel_rfl) (resV_cell s6_25 mo2_24 y61_ty26 (nle rfl) (by simp)) (resV_tmp s7_25) (vw_r (vw_agg (vwl_cons (.ro _ rfl) (vwl_cons (.nil 4) (vwl_cons (.nil 2) (vwl_cons (.nil 3) vwl_nil)))))) (.ro _ rfl) ?_
   clear s6_25 s7_25 mo2_24 mo5_24 mo4_24 mo3_24 mo1_24 mo0_24 ml_24
   (have hq : a ≤ b := unl9.1.1 (by assumption); have hz : surX l n.toNat a b = 13 := (by unfold surX; rw [if_pos hq, if_neg (by omega)]); rw [surA_n (by omega), hz]; rfl)
  replace hq_23 := bf hq_23
  refine aw_skip <| then_n <| aw_seq <| aw_draw 18 (by kernel_rfl) (by kernel_rfl) (by kernel_rfl) (by kernel_rfl) ?_
  refine dr (ro_move s12_22) rfl <| dr (ro_fld_ptr y61_fl39_0 rfl (up_m rfl s13_22)) rfl <| dr (ro_eq (ro_ld_ptr y61_ty3 rfl mo5_20 up_h (nle rfl)) (by simp only [pS, Value.cells, Nat.reduceAdd, jnE, set_jn4] <;> rfl)) rfl ?_
  refine dr (ro_move (up_m rfl (u2 rfl s12_22))) rfl <| dr (ro_nilP up_h) rfl <| dr (ro_fld_ptr y61_fl70_0 rfl up_h) rfl <| dr (ro_eq (ro_ld_el y61_ty3 rfl mo3_20 up_h (nle rfl) (by first | (refine idx_map ?_; first | omega | (simp only [lnS]; omega)) | (refine idx_mapI ?_; first | omega | (simp only [lnS]; omega)) | (refine idx_mapN ?_; first | omega | (simp only [lnS]; omega)) | rfl)) (by simp only [pS, Value.cells, Nat.reduceAdd, jnE, set_jn4] <;> rfl)) rfl ?_
  (refine dr (ro_sub' (u4 rfl up_h) up_h ?_) rfl ?_; · (unfold In64; omega))
  refine dr (ro_fld_ptr y61_fl39_1 rfl (u8 rfl s13_22)) rfl <| dr (ro_eq (ro_ld_ptr y61_ty3 rfl mo5_20 up_h (nle rfl)) (by simp only [pS, Value.cells, Nat.reduceAdd, jnE, set_jn4] <;> rfl)) rfl ?_
  refine dr (ro_move (u2 rfl (u8 rfl s12_22))) rfl <| dr (ro_nilP up_h) rfl <| dr (ro_fld_ptr y61_fl70_0 rfl up_h) rfl <| dr (ro_eq (ro_ld_el y61_ty3 rfl mo3_20 up_h (nle rfl) (by first | (refine idx_map ?_; first | omega | (simp only [lnS]; omega)) | (refine idx_mapI ?_; first | omega | (simp only [lnS]; omega)) | (refine idx_mapN ?_; first | omega | (simp only [lnS]; omega)) | rfl)) (by simp only [pS, Value.cells, Nat.reduceAdd, jnE, set_jn4] <;> rfl)) rfl ?_
  (refine dr (ro_sub' (u4 rfl up_h) up_h ?_) rfl ?_; · (unfold In64; omega))
  refine dr (ro_build (evP_cons (up_m rfl (u2 rfl (u4 rfl up_h))) (evP_cons up_h evP_nil)) y61_bz39 y61_bu39 y61_bp39 rfl) rfl ?_
  refine dr (ro_nilP (up_m rfl (u2 rfl (u4 rfl (u8 rfl up_h))))) rfl <| dr (ro_fld_el (o := 0) y61_fl70_2 rfl up_h) rfl <| ds_nil <| al_stm (st_store_el up_h (u2 rfl up_h) rfl rfl rfl mo3_20 rfl (by first | (refine idx_map ?_; first | omega | (simp only [lnS]; omega)) | (refine idx_mapI ?_; first | omega | (simp only [lnS]; omega)) | (refine idx_mapN ?_; first | omega | (simp only [lnS]; omega)) | rfl) y61_sz39 rfl (nle rfl)) trivial rfl (fun m_26 hm_26 => ?_)
  have mo3_26 := m_set hm_26 mo3_20
  simp only [pS, Value.cells, Nat.reduceAdd, jnE, set_jn4] at mo3_26
  have mo5_26 := m_set_o hm_26 mo5_20 (by decide)
  have mo4_26 := m_set_o hm_26 mo4_20 (by decide)
  have mo2_26 := m_set_o hm_26 mo2_20 (by decide)
  have mo1_26 := m_set_o hm_26 mo1_20 (by decide)
  have mo0_26 := m_set_o hm_26 mo0_20 (by decide)
  have ml_26 := m_set_l hm_26 ml_20
  clear hm_26 mo5_20 mo4_20 mo3_20 mo2_20 mo1_20 mo0_20
  refine ae2 (up_n (u2 rfl (u16 rfl s6_22))) (up_n (u2 rfl (u16 rfl s11_22))) ?_; clear s11_22 s12_22 s13_22 s6_22 s71_22; intro e_27 s6_27 s11_27
  refine then_n <| aw_seq <| at_ <| ar (ro_eq (ro_ld_ptr y61_ty26 rfl mo4_26 s11_27 (nle rfl)) (by simp only [pS, Value.cells, Nat.reduceAdd, jnE, set_jn4] <;> rfl)) rfl ?_
  refine al_stm (st_storeO (up_m rfl s6_27) up_h rfl (oneL_c rfl (oneL_o mo3_26 (oneL_c rfl (oneL_c rfl oneL_nil)))) mo2_26 y61_sz26 rfl (nle rfl)) trivial rfl (fun m_28 hm_28 => ?_)
  have mo2_28 := m_set hm_28 mo2_26
  simp only [pS, Value.cells, Nat.reduceAdd, jnE, set_jn4] at mo2_28
  have mo3_28 := m_set_o hm_28 mo3_26 (by decide)
  have mo5_28 := m_set_o hm_28 mo5_26 (by decide)
  have mo4_28 := m_set_o hm_28 mo4_26 (by decide)
  have mo1_28 := m_set_o hm_28 mo1_26 (by decide)
  have mo0_28 := m_set_o hm_28 mo0_26 (by decide)
  have ml_28 := m_set_l hm_28 ml_26
  clear hm_28 mo3_26 mo5_26 mo4_26 mo2_26 mo1_26 mo0_26
  refine ar (ro_assign ev_c) rfl <| ae2 (up_m rfl (up_n (up_m rfl s6_27))) up_h ?_; clear s11_27 s6_27; intro e_29 s6_29 s7_29
  refine then_n <| aw_ret <| ret2 (.inr rfl) (by kernel_rfl) (resV_cell s6_29 mo2_28 y61_ty26 (nle rfl) (by simp)) (resV_tmp s7_29) (vw_r (vw_agg (vwl_cons (.ro _ rfl) (vwl_cons (.own _ _ _ _ mo3_28) (vwl_cons (.ro _ rfl) (vwl_cons (.ro _ rfl) vwl_nil)))))) (.ro _ rfl) ?_
  clear s6_29 s7_29 mo2_28 mo3_28 mo5_28 mo4_28 mo1_28 mo0_28 ml_28
  (have hq : a ≤ b := unl9.1.1 (by assumption); have hz : surX l n.toNat a b = 0 := (by unfold surX; rw [if_pos hq, if_pos (by omega)]); rw [surA_0 hz]; rfl)
set_option maxRecDepth 100000 in
set_option maxHeartbeats 4000000 in
theorem rSurveyed_in (l : Lin) (hl : Sho l) (h : Rgt l) (n a b : Int) (hm2 : 0 ≤ n ∧ n ≤ l.js.length - 1) : FnOk Try.prog 37 [lnA l, mA n, .agg [mA a, mA b]] (fun q => q = surA l n.toNat a b) := by
  refine fnOk_of (fn := Try.f37) 70 (by kernel_rfl) rfl (by kernel_rfl) (Nat.le_of_ble_eq_true rfl) ?_
  intro e_0 m_0 hA hm_0
  have s0_0 : evA e_0 (.tmp 0) = _ := hA 0 _ rfl
  have s1_0 : evA e_0 (.tmp 1) = _ := hA 1 _ rfl
  have s2_0 : evA e_0 (.tmp 2) = _ := hA 2 _ rfl
  have ml_0 : m_0.length = 0 := by rw [hm_0]; rfl
  clear hA hm_0
  have hjs := h.js; have hn1 := h.n1; have hj := h.jnt n.toNat (by omega)
  refine aw_seq <| at_ <| al_stm (st_box s0_0 rfl ml_0) trivial rfl (fun m_1 hm_1 => ?_)
  have mo0_1 := m_push hm_1 ml_0
  have ml_1 := m_push_l hm_1 ml_0
  have ml_1 : _ = 1 := ml_1
  clear hm_1
  refine al_stm (st_box (up_m rfl s2_0) rfl ml_1) trivial rfl (fun m_2 hm_2 => ?_)
  have mo1_2 := m_push hm_2 ml_1
  have mo0_2 := m_push_o hm_2 mo0_1
  have ml_2 := m_push_l hm_2 ml_1
  have ml_2 : _ = 2 := ml_2
  clear hm_2 mo0_1
  refine al_stm (st_alloc y61_az26 rfl ml_2) trivial rfl (fun m_3 hm_3 => ?_)
  have mo2_3 := m_push hm_3 ml_2
  simp only [pS, Value.cells, Nat.reduceAdd, jnE, set_jn4] at mo2_3
  have mo1_3 := m_push_o hm_3 mo1_2
  have mo0_3 := m_push_o hm_3 mo0_2
  have ml_3 := m_push_l hm_3 ml_2
  have ml_3 : _ = 3 := ml_3
  clear hm_3 mo1_2 mo0_2
  refine ar (ro_assign ev_c) rfl <| ae4 (u4 rfl s1_0) (up_m rfl (u2 rfl up_h)) (u2 rfl up_h) (up_m rfl up_h) ?_; clear s0_0 s1_0 s2_0; intro e_4 s1_4 s3_4 s5_4 s6_4
  refine then_n <| aw_seq <| aw_seq <| at_ <| ar (ro_fld_ptr y61_fl39_0 rfl s5_4) rfl <| ar (ro_eq (ro_ld_ptr y61_ty3 rfl mo1_3 up_h (nle rfl)) (by simp only [pS, Value.cells, Nat.reduceAdd, jnE, set_jn4] <;> rfl)) rfl ?_
  refine ar (ro_fld_ptr y61_fl39_1 rfl (u2 rfl s5_4)) rfl <| ar (ro_eq (ro_ld_ptr y61_ty3 rfl mo1_3 up_h (nle rfl)) (by simp only [pS, Value.cells, Nat.reduceAdd, jnE, set_jn4] <;> rfl)) rfl ?_
  refine ar (ro_gtr (u2 rfl up_h) up_h) rfl <| ae5 (up_m rfl (u4 rfl s1_4)) (up_m rfl (u4 rfl s3_4)) (up_m rfl (u4 rfl s5_4)) (up_m rfl (u4 rfl s6_4)) up_h ?_; clear s1_4 s3_4 s5_4 s6_4; intro e_5 s1_5 s3_5 s5_5 s6_5 s15_5
  refine then_n <| aw_case s15_5 (fun hq_6 => ?_) (fun hq_6 => ?_)
  ·replace hq_6 := bt hq_6
   refine aw_seq <| at_ <| ar (ro_build evP_nil y61_bz26 y61_bu26 y61_bp26 rfl) rfl ?_
   refine al_stm (st_store (up_m rfl s6_5) up_h rfl rfl mo2_3 y61_sz26 rfl (nle rfl)) trivial rfl (fun m_7 hm_7 => ?_)
   have mo2_7 := m_set hm_7 mo2_3
   simp only [pS, Value.cells, Nat.reduceAdd, jnE, set_jn4] at mo2_7
   have mo1_7 := m_set_o hm_7 mo1_3 (by decide)
   have mo0_7 := m_set_o hm_7 mo0_3 (by decide)
   have ml_7 := m_set_l hm_7 ml_3
   clear hm_7 mo2_3 mo1_3 mo0_3
   refine ar (ro_assign ev_c) rfl <| ae2 (up_m rfl (up_n (up_m rfl s6_5))) up_h ?_; clear s15_5 s1_5 s3_5 s5_5 s6_5; intro e_8 s6_8 s7_8
   refine then_n <| aw_ret <| then_r <| ret2 (.inr rfl) (by kernel_rfl) (resV_cell s6_8 mo2_7 y61_ty26 (nle rfl) (by simp)) (resV_tmp s7_8) (vw_r (vw_agg (vwl_cons (.ro _ rfl) (vwl_cons (.nil 4) (vwl_cons (.nil 2) (vwl_cons (.nil 3) vwl_nil)))))) (.ro _ rfl) ?_
   clear s6_8 s7_8 mo2_7 mo1_7 mo0_7 ml_7
   (have hz : surX l n.toNat a b = 9 := (by unfold surX; rw [if_neg (by omega)]); rw [surA_n (by omega), hz]; rfl)
  replace hq_6 := bf hq_6
  refine aw_skip <| then_n <| aw_seq <| at_ <| ar (ro_eq (ro_ld_ptr y61_ty26 rfl mo0_3 s3_5 (nle rfl)) (by simp only [pS, Value.cells, Nat.reduceAdd, jnE, set_jn4] <;> rfl)) rfl ?_
  refine al_stm (st_callL ml_3 (evL_cons up_h evL_nil) rfl (copyOwn_ok l hl h.jn0) y61_hcf18) trivial rfl (fun m_9 hm_9 => ?_)
  have mo3_9 := m_push hm_9 ml_3
  have mo2_9 := m_push_o hm_9 mo2_3
  have mo1_9 := m_push_o hm_9 mo1_3
  have mo0_9 := m_push_o hm_9 mo0_3
  have ml_9 := m_push_l hm_9 ml_3
  have ml_9 : _ = 4 := ml_9
  clear hm_9 mo2_3 mo1_3 mo0_3
  refine al_stm (st_storeO (u2 rfl s3_5) up_h rfl (oneL_c rfl (oneL_o mo3_9 (oneL_c rfl (oneL_c rfl oneL_nil)))) mo0_9 y61_sz26 rfl (nle rfl)) trivial rfl (fun m_10 hm_10 => ?_)
  have mo0_10 := m_set hm_10 mo0_9
  simp only [pS, Value.cells, Nat.reduceAdd, jnE, set_jn4] at mo0_10
  have mo3_10 := m_set_o hm_10 mo3_9 (by decide)
  have mo2_10 := m_set_o hm_10 mo2_9 (by decide)
  have mo1_10 := m_set_o hm_10 mo1_9 (by decide)
  have ml_10 := m_set_l hm_10 ml_9
  clear hm_10 mo3_9 mo2_9 mo1_9 mo0_9
  refine ae4 (up_n (u2 rfl s1_5)) (up_n (u2 rfl s3_5)) (up_n (u2 rfl s5_5)) (up_n (u2 rfl s6_5)) ?_; clear s15_5 s1_5 s3_5 s5_5 s6_5; intro e_11 s1_11 s3_11 s5_11 s6_11
  refine then_n <| aw_seq <| at_ <| ar (ro_fld_ptr y61_fl26_1 rfl s3_11) rfl <| ar (ro_eq (ro_ld_ptr y61_ty22 rfl mo0_10 up_h (nle rfl)) (by simp only [pS, Value.cells, Nat.reduceAdd, jnE, set_jn4] <;> rfl)) rfl ?_
  refine ar (ro_move (u2 rfl s1_11)) rfl <| ar (ro_ix_own y61_sl22 mo3_10 (up_m rfl up_h) up_h (by omega) (by simp only [lnS] <;> omega)) rfl ?_
  refine ar (ro_assign up_h) rfl <| ae4 (up_m rfl (u4 rfl s3_11)) (up_m rfl (u4 rfl s5_11)) (up_m rfl (u4 rfl s6_11)) up_h ?_; clear s1_11 s3_11 s5_11 s6_11; intro e_12 s3_12 s5_12 s6_12 s8_12
  refine then_n <| aw_seq <| aw_draw 28 (by kernel_rfl) (by kernel_rfl) (by kernel_rfl) (by kernel_rfl) ?_
  refine dr (ro_move s8_12) rfl <| dr (ro_nilP up_h) rfl <| dr (ro_fld_ptr y61_fl70_0 rfl up_h) rfl <| dr (ro_eq (ro_ld_el y61_ty3 rfl mo3_10 up_h (nle rfl) (by first | (refine idx_map ?_; first | omega | (simp only [lnS]; omega)) | (refine idx_mapI ?_; first | omega | (simp only [lnS]; omega)) | (refine idx_mapN ?_; first | omega | (simp only [lnS]; omega)) | rfl)) (by simp only [pS, Value.cells, Nat.reduceAdd, jnE, set_jn4] <;> rfl)) rfl ?_
  refine dr (ro_move (u4 rfl s8_12)) rfl <| dr (ro_nilP up_h) rfl <| dr (ro_fld_el (o := 0) y61_fl70_2 rfl up_h) rfl <| dr (ro_fld_elO y61_fl39_0 rfl up_h) rfl <| dr (ro_eq (ro_ld_elO y61_ty3 rfl mo3_10 up_h (nle rfl) (by first | (refine idx_map ?_; first | omega | (simp only [lnS]; omega)) | (refine idx_mapI ?_; first | omega | (simp only [lnS]; omega)) | (refine idx_mapN ?_; first | omega | (simp only [lnS]; omega)) | rfl)) (by simp only [pS, Value.cells, Nat.reduceAdd, jnE, set_jn4] <;> rfl)) rfl ?_
  (refine dr (ro_add' (up_m rfl (u4 rfl up_h)) up_h ?_) rfl ?_; · (unfold In64; omega))
  refine dr (ro_fld_ptr y61_fl39_0 rfl (u2 rfl (u8 rfl s5_12))) rfl <| dr (ro_eq (ro_ld_ptr y61_ty3 rfl mo1_10 up_h (nle rfl)) (by simp only [pS, Value.cells, Nat.reduceAdd, jnE, set_jn4] <;> rfl)) rfl ?_
  refine dr (ro_max (u2 rfl up_h) up_h) rfl <| dr (ro_move (up_m rfl (u4 rfl (u8 rfl s8_12)))) rfl <| dr (ro_nilP up_h) rfl <| dr (ro_fld_ptr y61_fl70_0 rfl up_h) rfl <| dr (ro_eq (ro_ld_el y61_ty3 rfl mo3_10 up_h (nle rfl) (by first | (refine idx_map ?_; first | omega | (simp only [lnS]; omega)) | (refine idx_mapI ?_; first | omega | (simp only [lnS]; omega)) | (refine idx_mapN ?_; first | omega | (simp only [lnS]; omega)) | rfl)) (by simp only [pS, Value.cells, Nat.reduceAdd, jnE, set_jn4] <;> rfl)) rfl ?_
  refine dr (ro_move (up_m rfl (u16 rfl s8_12))) rfl <| dr (ro_nilP up_h) rfl <| dr (ro_fld_el (o := 0) y61_fl70_2 rfl up_h) rfl <| dr (ro_fld_elO y61_fl39_1 rfl up_h) rfl <| dr (ro_eq (ro_ld_elO y61_ty3 rfl mo3_10 up_h (nle rfl) (by first | (refine idx_map ?_; first | omega | (simp only [lnS]; omega)) | (refine idx_mapI ?_; first | omega | (simp only [lnS]; omega)) | (refine idx_mapN ?_; first | omega | (simp only [lnS]; omega)) | rfl)) (by simp only [pS, Value.cells, Nat.reduceAdd, jnE, set_jn4] <;> rfl)) rfl ?_
  (refine dr (ro_add' (up_m rfl (u4 rfl up_h)) up_h ?_) rfl ?_; · (unfold In64; omega))
  refine dr (ro_fld_ptr y61_fl39_1 rfl (up_m rfl (u2 rfl (u4 rfl (u16 rfl s5_12))))) rfl <| dr (ro_eq (ro_ld_ptr y61_ty3 rfl mo1_10 up_h (nle rfl)) (by simp only [pS, Value.cells, Nat.reduceAdd, jnE, set_jn4] <;> rfl)) rfl ?_
  refine dr (ro_min (u2 rfl up_h) up_h) rfl <| dr (ro_assign (up_m rfl (u4 rfl (u8 rfl up_h)))) rfl <| dr (ro_assign (up_m rfl up_h)) rfl <| ds_nil <| ae5 (u4 rfl (u8 rfl (u16 rfl s3_12))) (u4 rfl (u8 rfl (u16 rfl s6_12))) (u4 rfl (u8 rfl (u16 rfl s8_12))) (up_m rfl up_h) up_h ?_; clear s3_12 s5_12 s6_12 s8_12; intro e_13 s3_13 s6_13 s8_13 s9_13 s10_13
  refine then_n <| aw_seq <| aw_seq <| at_ <| ar (ro_move s9_13) rfl <| ar (ro_move (up_m rfl s10_13)) rfl <| ar (ro_gtr (up_m rfl up_h) up_h) rfl <| ae6 (up_m rfl (u2 rfl s3_13)) (up_m rfl (u2 rfl s6_13)) (up_m rfl (u2 rfl s8_13)) (up_m rfl (u2 rfl s9_13)) (up_m rfl (u2 rfl s10_13)) up_h ?_; clear s10_13 s3_13 s6_13 s8_13 s9_13; intro e_14 s3_14 s6_14 s8_14 s9_14 s10_14 s51_14
  refine then_n <| aw_case s51_14 (fun hq_15 => ?_) (fun hq_15 => ?_)
  ·replace hq_15 := bt hq_15
   refine aw_seq <| at_ <| ar (ro_build evP_nil y61_bz26 y61_bu26 y61_bp26 rfl) rfl ?_
   refine al_stm (st_store (up_m rfl s6_14) up_h rfl rfl mo2_10 y61_sz26 rfl (nle rfl)) trivial rfl (fun m_16 hm_16 => ?_)
   have mo2_16 := m_set hm_16 mo2_10
   simp only [pS, Value.cells, Nat.reduceAdd, jnE, set_jn4] at mo2_16
   have mo0_16 := m_set_o hm_16 mo0_10 (by decide)
   have mo3_16 := m_set_o hm_16 mo3_10 (by decide)
   have mo1_16 := m_set_o hm_16 mo1_10 (by decide)
   have ml_16 := m_set_l hm_16 ml_10
   clear hm_16 mo0_10 mo3_10 mo2_10 mo1_10
   refine ar (ro_assign ev_c) rfl <| ae2 (up_m rfl (up_n (up_m rfl s6_14))) up_h ?_; clear s10_14 s3_14 s51_14 s6_14 s8_14 s9_14; intro e_17 s6_17 s7_17
   refine then_n <| aw_ret <| then_r <| ret2 (.inr rfl) (by kernel_rfl) (resV_cell s6_17 mo2_16 y61_ty26 (nle rfl) (by simp)) (resV_tmp s7_17) (vw_r (vw_agg (vwl_cons (.ro _ rfl) (vwl_cons (.nil 4) (vwl_cons (.nil 2) (vwl_cons (.nil 3) vwl_nil)))))) (.ro _ rfl) ?_
   clear s6_17 s7_17 mo2_16 mo0_16 mo3_16 mo1_16 ml_16
   (have hz : surX l n.toNat a b = 13 := (by unfold surX; rw [if_pos (by omega), if_neg (by omega)]); rw [surA_n (by omega), hz]; rfl)
  replace hq_15 := bf hq_15
  refine aw_skip <| then_n <| aw_seq <| aw_draw 16 (by kernel_rfl) (by kernel_rfl) (by kernel_rfl) (by kernel_rfl) ?_
  refine dr (ro_move s8_14) rfl <| dr (ro_move (up_m rfl s9_14)) rfl <| dr (ro_move (u2 rfl s8_14)) rfl <| dr (ro_nilP up_h) rfl <| dr (ro_fld_ptr y61_fl70_0 rfl up_h) rfl <| dr (ro_eq (ro_ld_el y61_ty3 rfl mo3_10 up_h (nle rfl) (by first | (refine idx_map ?_; first | omega | (simp only [lnS]; omega)) | (refine idx_mapI ?_; first | omega | (simp only [lnS]; omega)) | (refine idx_mapN ?_; first | omega | (simp only [lnS]; omega)) | rfl)) (by simp only [pS, Value.cells, Nat.reduceAdd, jnE, set_jn4] <;> rfl)) rfl ?_
  (refine dr (ro_sub' (u4 rfl up_h) up_h ?_) rfl ?_; · (unfold In64; omega))
  refine dr (ro_move (up_m rfl (u2 rfl (u4 rfl s10_14)))) rfl <| dr (ro_move (u8 rfl s8_14)) rfl <| dr (ro_nilP up_h) rfl <| dr (ro_fld_ptr y61_fl70_0 rfl up_h) rfl <| dr (ro_eq (ro_ld_el y61_ty3 rfl mo3_10 up_h (nle rfl) (by first | (refine idx_map ?_; first | omega | (simp only [lnS]; omega)) | (refine idx_mapI ?_; first | omega | (simp only [lnS]; omega)) | (refine idx_mapN ?_; first | omega | (simp only [lnS]; omega)) | rfl)) (by simp only [pS, Value.cells, Nat.reduceAdd, jnE, set_jn4] <;> rfl)) rfl ?_
  (refine dr (ro_sub' (u4 rfl up_h) up_h ?_) rfl ?_; · (unfold In64; omega))
  refine dr (ro_build (evP_cons (u2 rfl (u4 rfl up_h)) (evP_cons up_h evP_nil)) y61_bz39 y61_bu39 y61_bp39 rfl) rfl ?_
  refine dr (ro_nilP (up_m rfl (u4 rfl (u8 rfl up_h)))) rfl <| dr (ro_fld_el (o := 0) y61_fl70_2 rfl up_h) rfl <| ds_nil <| al_stm (st_store_el up_h (u2 rfl up_h) rfl rfl rfl mo3_10 rfl (by first | (refine idx_map ?_; first | omega | (simp only [lnS]; omega)) | (refine idx_mapI ?_; first | omega | (simp only [lnS]; omega)) | (refine idx_mapN ?_; first | omega | (simp only [lnS]; omega)) | rfl) y61_sz39 rfl (nle rfl)) trivial rfl (fun m_18 hm_18 => ?_)
  have mo3_18 := m_set hm_18 mo3_10
  simp only [pS, Value.cells, Nat.reduceAdd, jnE, set_jn4] at mo3_18
  have mo0_18 := m_set_o hm_18 mo0_10 (by decide)
  have mo2_18 := m_set_o hm_18 mo2_10 (by decide)
  have mo1_18 := m_set_o hm_18 mo1_10 (by decide)
  have ml_18 := m_set_l hm_18 ml_10
  clear hm_18 mo0_10 mo3_10 mo2_10 mo1_10
  refine ae2 (up_n (u16 rfl s3_14)) (up_n (u16 rfl s6_14)) ?_; clear s10_14 s3_14 s51_14 s6_14 s8_14 s9_14; intro e_19 s3_19 s6_19
  refine then_n <| aw_seq <| at_ <| ar (ro_eq (ro_ld_ptr y61_ty26 rfl mo0_18 s3_19 (nle rfl)) (by simp only [pS, Value.cells, Nat.reduceAdd, jnE, set_jn4] <;> rfl)) rfl ?_
  refine al_stm (st_storeO (up_m rfl s6_19) up_h rfl (oneL_c rfl (oneL_o mo3_18 (oneL_c rfl (oneL_c rfl oneL_nil)))) mo2_18 y61_sz26 rfl (nle rfl)) trivial rfl (fun m_20 hm_20 => ?_)
  have mo2_20 := m_set hm_20 mo2_18
  simp only [pS, Value.cells, Nat.reduceAdd, jnE, set_jn4] at mo2_20
  have mo3_20 := m_set_o hm_20 mo3_18 (by decide)
  have mo0_20 := m_set_o hm_20 mo0_18 (by decide)
  have mo1_20 := m_set_o hm_20 mo1_18 (by decide)
  have ml_20 := m_set_l hm_20 ml_18
  clear hm_20 mo3_18 mo0_18 mo2_18 mo1_18
  refine ar (ro_assign ev_c) rfl <| ae2 (up_m rfl (up_n (up_m rfl s6_19))) up_h ?_; clear s3_19 s6_19; intro e_21 s6_21 s7_21
  refine then_n <| aw_ret <| ret2 (.inr rfl) (by kernel_rfl) (resV_cell s6_21 mo2_20 y61_ty26 (nle rfl) (by simp)) (resV_tmp s7_21) (vw_r (vw_agg (vwl_cons (.ro _ rfl) (vwl_cons (.own _ _ _ _ mo3_20) (vwl_cons (.ro _ rfl) (vwl_cons (.ro _ rfl) vwl_nil)))))) (.ro _ rfl) ?_
  clear s6_21 s7_21 mo2_20 mo3_20 mo0_20 mo1_20 ml_20
  (have hz : surX l n.toNat a b = 0 := (by unfold surX; rw [if_pos (by omega), if_pos (by omega)]); rw [surA_0 hz]; rfl)
set_option maxRecDepth 100000 in
set_option maxHeartbeats 4000000 in
theorem warmed_bad (l : Lin) (hl : Sho l) (hb : (linM l).2 ≠ 0) (y : Int) : FnOk Try.prog 33 [lnA l, mA y] (fun q => q = .tuple [lnA nonL, mA (linM l).2]) := by
  refine fnOk_of (fn := Try.f33) 56 (by kernel_rfl) rfl (by kernel_rfl) (Nat.le_of_ble_eq_true rfl) ?_
  intro e_0 m_0 hA hm_0
  have s0_0 : evA e_0 (.tmp 0) = _ := hA 0 _ rfl
  have s1_0 : evA e_0 (.tmp 1) = _ := hA 1 _ rfl
  have ml_0 : m_0.length = 0 := by rw [hm_0]; rfl
  clear hA hm_0
  refine aw_seq <| at_ <| al_stm (st_box s0_0 rfl ml_0) trivial rfl (fun m_1 hm_1 => ?_)
  have mo0_1 := m_push hm_1 ml_0
  have ml_1 := m_push_l hm_1 ml_0
  have ml_1 : _ = 1 := ml_1
  clear hm_1
  refine al_stm (st_alloc y61_az26 rfl ml_1) trivial rfl (fun m_2 hm_2 => ?_)
  have mo1_2 := m_push hm_2 ml_1
  simp only [pS, Value.cells, Nat.reduceAdd] at mo1_2
  have mo0_2 := m_push_o hm_2 mo0_1
  have ml_2 := m_push_l hm_2 ml_1
  have ml_2 : _ = 2 := ml_2
  clear hm_2 mo0_1
  refine ar (ro_assign ev_c) rfl <| ae3 (up_m rfl (u2 rfl s1_0)) (u2 rfl up_h) (up_m rfl up_h) ?_; clear s0_0 s1_0; intro e_3 s1_3 s2_3 s4_3
  refine then_n <| aw_seq <| aw_seq <| at_ <| ar (ro_eq (ro_ld_ptr y61_ty26 rfl mo0_2 s2_3 (nle rfl)) (by simp only [pS, Value.cells, Nat.reduceAdd] <;> rfl)) rfl ?_
  refine ar (ro_call (evL_cons up_h evL_nil) rfl (yOpen_bad l hl hb) y61_hcf76) rfl <| ar (ro_move up_h) rfl <| ar (ro_extract up_h rfl) rfl <| ar (ro_extract (up_m rfl up_h) rfl) rfl <| ar (ro_assign (up_m rfl up_h)) rfl <| ar (ro_assign (up_m rfl up_h)) rfl <| ae4 (up_m rfl (u2 rfl (u4 rfl s1_3))) (up_m rfl (u2 rfl (u4 rfl s2_3))) (up_m rfl (u2 rfl (u4 rfl s4_3))) up_h ?_; clear s1_3 s2_3 s4_3; intro e_4 s1_4 s2_4 s4_4 s7_4
  refine then_n <| aw_seq <| at_ <| ar (ro_move s7_4) rfl <| ar (ro_neq up_h ev_c) rfl <| ae5 (u2 rfl s1_4) (u2 rfl s2_4) (u2 rfl s4_4) (u2 rfl s7_4) up_h ?_; clear s1_4 s2_4 s4_4 s7_4; intro e_5 s1_5 s2_5 s4_5 s7_5 s17_5
  refine then_n <| aw_case s17_5 (fun hq_6 => ?_) (fun hq_6 => ?_)
  ·replace hq_6 := bnt hq_6
   refine aw_seq <| at_ <| ar (ro_build evP_nil y61_bz26 y61_bu26 y61_bp26 rfl) rfl ?_
   refine ar (ro_move (up_m rfl s7_5)) rfl <| al_stm (st_store (u2 rfl s4_5) (up_m rfl up_h) rfl rfl mo1_2 y61_sz26 rfl (nle rfl)) trivial rfl (fun m_7 hm_7 => ?_)
   have mo1_7 := m_set hm_7 mo1_2
   simp only [pS, Value.cells, Nat.reduceAdd] at mo1_7
   have mo0_7 := m_set_o hm_7 mo0_2 (by decide)
   have ml_7 := m_set_l hm_7 ml_2
   clear hm_7 mo1_2 mo0_2
   refine ar (ro_assign (up_n up_h)) rfl <| ae2 (up_m rfl (up_n (u2 rfl s4_5))) up_h ?_; clear s17_5 s1_5 s2_5 s4_5 s7_5; intro e_8 s4_8 s5_8
   refine then_n <| aw_ret <| then_r <| ret2 (.inr rfl) (by kernel_rfl) (resV_cell s4_8 mo1_7 y61_ty26 (nle rfl) (by simp)) (resV_tmp s5_8) (vw_r (vw_agg (vwl_cons (.ro _ rfl) (vwl_cons (.nil 4) (vwl_cons (.nil 2) (vwl_cons (.nil 3) vwl_nil)))))) (.ro _ rfl) ?_
   clear s4_8 s5_8 mo1_7 mo0_7 ml_7
   rfl
  · replace hq_6 := bnf hq_6; exfalso; omega
set_option maxRecDepth 100000 in
set_option maxHeartbeats 4000000 in
theorem warmed_far (l : Lin) (hl : Sho l) (hg : (linM l).2 = 0) (y : Int) (hy : withinB y 0 100 = false) : FnOk Try.prog 33 [lnA l, mA y] (fun q => q = .tuple [lnA nonL, mA 2]) := by
  refine fnOk_of (fn := Try.f33) 56 (by kernel_rfl) rfl (by kernel_rfl) (Nat.le_of_ble_eq_true rfl) ?_
  intro e_0 m_0 hA hm_0
  have s0_0 : evA e_0 (.tmp 0) = _ := hA 0 _ rfl
  have s1_0 : evA e_0 (.tmp 1) = _ := hA 1 _ rfl
  have ml_0 : m_0.length = 0 := by rw [hm_0]; rfl
  clear hA hm_0
  refine aw_seq <| at_ <| al_stm (st_box s0_0 rfl ml_0) trivial rfl (fun m_1 hm_1 => ?_)
  have mo0_1 := m_push hm_1 ml_0
  have ml_1 := m_push_l hm_1 ml_0
  have ml_1 : _ = 1 := ml_1
  clear hm_1
  refine al_stm (st_alloc y61_az26 rfl ml_1) trivial rfl (fun m_2 hm_2 => ?_)
  have mo1_2 := m_push hm_2 ml_1
  simp only [pS, Value.cells, Nat.reduceAdd] at mo1_2
  have mo0_2 := m_push_o hm_2 mo0_1
  have ml_2 := m_push_l hm_2 ml_1
  have ml_2 : _ = 2 := ml_2
  clear hm_2 mo0_1
  refine ar (ro_assign ev_c) rfl <| ae3 (up_m rfl (u2 rfl s1_0)) (u2 rfl up_h) (up_m rfl up_h) ?_; clear s0_0 s1_0; intro e_3 s1_3 s2_3 s4_3
  refine then_n <| aw_seq <| aw_seq <| at_ <| ar (ro_eq (ro_ld_ptr y61_ty26 rfl mo0_2 s2_3 (nle rfl)) (by simp only [pS, Value.cells, Nat.reduceAdd] <;> rfl)) rfl ?_
  refine ar (ro_call (evL_cons up_h evL_nil) rfl (yOpen_good l hl hg) y61_hcf76) rfl <| ar (ro_move up_h) rfl <| ar (ro_extract up_h rfl) rfl <| ar (ro_extract (up_m rfl up_h) rfl) rfl <| ar (ro_assign (up_m rfl up_h)) rfl <| ar (ro_assign (up_m rfl up_h)) rfl <| ae4 (up_m rfl (u2 rfl (u4 rfl s1_3))) (up_m rfl (u2 rfl (u4 rfl s2_3))) (up_m rfl (u2 rfl (u4 rfl s4_3))) up_h ?_; clear s1_3 s2_3 s4_3; intro e_4 s1_4 s2_4 s4_4 s7_4
  refine then_n <| aw_seq <| at_ <| ar (ro_move s7_4) rfl <| ar (ro_neq up_h ev_c) rfl <| ae5 (u2 rfl s1_4) (u2 rfl s2_4) (u2 rfl s4_4) (u2 rfl s7_4) up_h ?_; clear s1_4 s2_4 s4_4 s7_4; intro e_5 s1_5 s2_5 s4_5 s7_5 s17_5
  refine then_n <| aw_case s17_5 (fun hq_6 => ?_) (fun hq_6 => ?_)
  · cases hq_6
  replace hq_6 := bnf hq_6
  refine aw_skip <| then_n <| aw_seq <| aw_seq <| at_ <| ar (ro_move s1_5) rfl <| ar (ro_call (evL_cons up_h (evL_cons ev_c (evL_cons ev_c evL_nil))) rfl ((yWithin_ok _ _ _).mono (fun q h => show q = tbA false from h.trans (by rw [hy]))) y61_hcf97) rfl ?_
  refine ar (ro_not up_h) rfl <| ae4 (up_m rfl (u2 rfl s1_5)) (up_m rfl (u2 rfl s2_5)) (up_m rfl (u2 rfl s4_5)) up_h ?_; clear s17_5 s1_5 s2_5 s4_5 s7_5; intro e_7 s1_7 s2_7 s4_7 s22_7
  refine then_n <| aw_case s22_7 (fun hq_8 => ?_) (fun hq_8 => ?_)
  ·replace hq_8 := bt' hq_8
   refine aw_seq <| at_ <| ar (ro_build evP_nil y61_bz26 y61_bu26 y61_bp26 rfl) rfl ?_
   refine al_stm (st_store (up_m rfl s4_7) up_h rfl rfl mo1_2 y61_sz26 rfl (nle rfl)) trivial rfl (fun m_9 hm_9 => ?_)
   have mo1_9 := m_set hm_9 mo1_2
   simp only [pS, Value.cells, Nat.reduceAdd] at mo1_9
   have mo0_9 := m_set_o hm_9 mo0_2 (by decide)
   have ml_9 := m_set_l hm_9 ml_2
   clear hm_9 mo1_2 mo0_2
   refine ar (ro_assign ev_c) rfl <| ae2 (up_m rfl (up_n (up_m rfl s4_7))) up_h ?_; clear s1_7 s22_7 s2_7 s4_7; intro e_10 s4_10 s5_10
   refine then_n <| aw_ret <| then_r <| ret2 (.inr rfl) (by kernel_rfl) (resV_cell s4_10 mo1_9 y61_ty26 (nle rfl) (by simp)) (resV_tmp s5_10) (vw_r (vw_agg (vwl_cons (.ro _ rfl) (vwl_cons (.nil 4) (vwl_cons (.nil 2) (vwl_cons (.nil 3) vwl_nil)))))) (.ro _ rfl) ?_
   clear s4_10 s5_10 mo1_9 mo0_9 ml_9
   rfl
  · cases hq_8
set_option maxRecDepth 100000 in
set_option maxHeartbeats 4000000 in
theorem warmed_in (l : Lin) (hl : Sho l) (hg : (linM l).2 = 0) (y : Int) (hy : withinB y 0 100 = true) : FnOk Try.prog 33 [lnA l, mA y] (fun q => q = .tuple [lnA (warL l y), mA 0]) := by
  refine fnOk_of (fn := Try.f33) 56 (by kernel_rfl) rfl (by kernel_rfl) (Nat.le_of_ble_eq_true rfl) ?_
  intro e_0 m_0 hA hm_0
  have s0_0 : evA e_0 (.tmp 0) = _ := hA 0 _ rfl
  have s1_0 : evA e_0 (.tmp 1) = _ := hA 1 _ rfl
  have ml_0 : m_0.length = 0 := by rw [hm_0]; rfl
  clear hA hm_0
  have hr := rgt_of hg; have hjs := hr.js; have hn1 := hr.n1; have hy2 := withinB_iff.1 hy
  refine aw_seq <| at_ <| al_stm (st_box s0_0 rfl ml_0) trivial rfl (fun m_1 hm_1 => ?_)
  have mo0_1 := m_push hm_1 ml_0
  have ml_1 := m_push_l hm_1 ml_0
  have ml_1 : _ = 1 := ml_1
  clear hm_1
  refine al_stm (st_alloc y61_az26 rfl ml_1) trivial rfl (fun m_2 hm_2 => ?_)
  have mo1_2 := m_push hm_2 ml_1
  simp only [pS, Value.cells, Nat.reduceAdd, jnE, set_jn4] at mo1_2
  have mo0_2 := m_push_o hm_2 mo0_1
  have ml_2 := m_push_l hm_2 ml_1
  have ml_2 : _ = 2 := ml_2
  clear hm_2 mo0_1
  refine ar (ro_assign ev_c) rfl <| ae3 (up_m rfl (u2 rfl s1_0)) (u2 rfl up_h) (up_m rfl up_h) ?_; clear s0_0 s1_0; intro e_3 s1_3 s2_3 s4_3
  refine then_n <| aw_seq <| aw_seq <| at_ <| ar (ro_eq (ro_ld_ptr y61_ty26 rfl mo0_2 s2_3 (nle rfl)) (by simp only [pS, Value.cells, Nat.reduceAdd, jnE, set_jn4] <;> rfl)) rfl ?_
  refine ar (ro_call (evL_cons up_h evL_nil) rfl (yOpen_good l hl hg) y61_hcf76) rfl <| ar (ro_move up_h) rfl <| ar (ro_extract up_h rfl) rfl <| ar (ro_extract (up_m rfl up_h) rfl) rfl <| ar (ro_assign (up_m rfl up_h)) rfl <| ar (ro_assign (up_m rfl up_h)) rfl <| ae4 (up_m rfl (u2 rfl (u4 rfl s1_3))) (up_m rfl (u2 rfl (u4 rfl s2_3))) (up_m rfl (u2 rfl (u4 rfl s4_3))) up_h ?_; clear s1_3 s2_3 s4_3; intro e_4 s1_4 s2_4 s4_4 s7_4
  refine then_n <| aw_seq <| at_ <| ar (ro_move s7_4) rfl <| ar (ro_neq up_h ev_c) rfl <| ae5 (u2 rfl s1_4) (u2 rfl s2_4) (u2 rfl s4_4) (u2 rfl s7_4) up_h ?_; clear s1_4 s2_4 s4_4 s7_4; intro e_5 s1_5 s2_5 s4_5 s7_5 s17_5
  refine then_n <| aw_case s17_5 (fun hq_6 => ?_) (fun hq_6 => ?_)
  · cases hq_6
  replace hq_6 := bnf hq_6
  refine aw_skip <| then_n <| aw_seq <| aw_seq <| at_ <| ar (ro_move s1_5) rfl <| ar (ro_call (evL_cons up_h (evL_cons ev_c (evL_cons ev_c evL_nil))) rfl ((yWithin_ok _ _ _).mono (fun q h => show q = tbA true from h.trans (by rw [hy]))) y61_hcf97) rfl ?_
  refine ar (ro_not up_h) rfl <| ae4 (up_m rfl (u2 rfl s1_5)) (up_m rfl (u2 rfl s2_5)) (up_m rfl (u2 rfl s4_5)) up_h ?_; clear s17_5 s1_5 s2_5 s4_5 s7_5; intro e_7 s1_7 s2_7 s4_7 s22_7
  refine then_n <| aw_case s22_7 (fun hq_8 => ?_) (fun hq_8 => ?_)
  · cases hq_8
  replace hq_8 := bf' hq_8
  refine aw_skip <| then_n <| aw_seq <| at_ <| ar (ro_eq (ro_ld_ptr y61_ty26 rfl mo0_2 s2_7 (nle rfl)) (by simp only [pS, Value.cells, Nat.reduceAdd, jnE, set_jn4] <;> rfl)) rfl ?_
  refine al_stm (st_callL ml_2 (evL_cons up_h evL_nil) rfl (copied_own l hl hr.ful) y61_hcf95) trivial rfl (fun m_9 hm_9 => ?_)
  have mo2_9 := m_push hm_9 ml_2
  have mo1_9 := m_push_o hm_9 mo1_2
  have mo0_9 := m_push_o hm_9 mo0_2
  have ml_9 := m_push_l hm_9 ml_2
  have ml_9 : _ = 3 := ml_9
  clear hm_9 mo1_2 mo0_2
  refine al_stm (st_alloc y61_az26 rfl ml_9) trivial rfl (fun m_10 hm_10 => ?_)
  have mo3_10 := m_push hm_10 ml_9
  simp only [pS, Value.cells, Nat.reduceAdd, jnE, set_jn4] at mo3_10
  have mo2_10 := m_push_o hm_10 mo2_9
  have mo1_10 := m_push_o hm_10 mo1_9
  have mo0_10 := m_push_o hm_10 mo0_9
  have ml_10 := m_push_l hm_10 ml_9
  have ml_10 : _ = 4 := ml_10
  clear hm_10 mo2_9 mo1_9 mo0_9
  refine al_stm (st_storeO up_h (up_m rfl up_h) rfl (oneL_c rfl (oneL_o mo2_10 (oneL_c rfl (oneL_c rfl oneL_nil)))) mo3_10 y61_sz26 rfl (nle rfl)) trivial rfl (fun m_11 hm_11 => ?_)
  have mo3_11 := m_set hm_11 mo3_10
  simp only [pS, Value.cells, Nat.reduceAdd, jnE, set_jn4] at mo3_11
  have mo2_11 := m_set_o hm_11 mo2_10 (by decide)
  have mo1_11 := m_set_o hm_11 mo1_10 (by decide)
  have mo0_11 := m_set_o hm_11 mo0_10 (by decide)
  have ml_11 := m_set_l hm_11 ml_10
  clear hm_11 mo3_10 mo2_10 mo1_10 mo0_10
  refine ae3 (up_n (up_m rfl (u2 rfl s1_7))) (up_n (up_m rfl (u2 rfl s4_7))) (up_n up_h) ?_; clear s1_7 s22_7 s2_7 s4_7; intro e_12 s1_12 s4_12 s8_12
  refine then_n <| aw_seq <| aw_seq <| at_ <| ar (ro_fld_ptr y61_fl26_1 rfl s8_12) rfl <| ar (ro_eq (ro_ld_ptr y61_ty22 rfl mo3_11 up_h (nle rfl)) (by simp only [pS, Value.cells, Nat.reduceAdd, jnE, set_jn4] <;> rfl)) rfl ?_
  refine ar (ro_eq (ro_len_own up_h mo2_11 rfl y61_sl22.1) (by simp only [lnS] <;> rfl)) rfl ?_
  refine ar (ro_move ev_c) rfl <| ae5 (u4 rfl s1_12) (u4 rfl s4_12) (u4 rfl s8_12) (up_m rfl up_h) up_h ?_; clear s1_12 s4_12 s8_12; intro e_13 s1_13 s4_13 s8_13 s28_13 s29_13
  refine then_n <| aw_block <| aw_loop (S := (Int × List Jnt)) (fun s e mem => match s with | ⟨i, xs⟩ => (evA e (.tmp 29) = .v (.int .i64 i)) ∧ (evA e (.tmp 1) = evA e_13 (.tmp 1)) ∧ (evA e (.tmp 4) = evA e_13 (.tmp 4)) ∧ (evA e (.tmp 8) = evA e_13 (.tmp 8)) ∧ (evA e (.tmp 28) = evA e_13 (.tmp 28)) ∧ (mem[2]? = some (.row 70 4 (xs.map jnE))) ∧ (mem[3]? = m_11[3]?) ∧ (mem[1]? = m_11[1]?) ∧ (mem[0]? = m_11[0]?) ∧ (mem.length = 4) ∧ ((0 ≤ i ∧ i ≤ l.js.length ∧ xs = warN l.js y i.toNat))) (fun s => match s with | ⟨i, xs⟩ => (l.js.length - i).toNat) ⟨_, l.js⟩ ⟨s29_13, rfl, rfl, rfl, rfl, mo2_11, rfl, rfl, rfl, ml_11, ?_⟩ ?_
  · (exact ⟨by omega, by omega, rfl⟩)
  · rintro ⟨i, xs⟩ e_14 m_14 ⟨s29_14, k1_14, k4_14, k8_14, k28_14, mo2_14, mk3_14, mk1_14, mk0_14, ml_14, hinv⟩
    have s1_14 := k1_14.trans s1_13
    have s4_14 := k4_14.trans s4_13
    have s8_14 := k8_14.trans s8_13
    have s28_14 := k28_14.trans s28_13
    have mo3_14 := mk3_14.trans mo3_11
    have mo1_14 := mk1_14.trans mo1_11
    have mo0_14 := mk0_14.trans mo0_11
    (obtain ⟨p1, p2, p3⟩ := hinv; have hxl : xs.length = l.js.length := (by rw [p3, warN_len]); have hge : xs.getD i.toNat default = l.js.getD i.toNat default := (by rw [p3]; exact warN_ge _ _ (Nat.le_refl _)))
    refine aw_seq <| at_ <| ar (ro_lss s29_14 s28_14) rfl <| ae6 (up_m rfl s1_14) (up_m rfl s4_14) (up_m rfl s8_14) (up_m rfl s28_14) (up_m rfl s29_14) up_h ?_; clear s1_14 s28_14 s29_14 s4_14 s8_14; intro e_15 s1_15 s4_15 s8_15 s28_15 s29_15 s30_15
    refine then_n <| aw_seq <| aw_case s30_15 (fun hq_16 => ?_) (fun hq_16 => ?_)
    ·replace hq_16 := bt hq_16
     (have hj := hr.jnt i.toNat (by omega); rw [← hge] at hj)
     refine aw_skip <| then_n <| aw_seq <| aw_block <| aw_seq <| at_ <| ar (ro_move s29_15) rfl <| ar (ro_assign up_h) rfl <| ae6 (u2 rfl s1_15) (u2 rfl s4_15) (u2 rfl s8_15) up_h (u2 rfl s28_15) (u2 rfl s29_15) ?_; clear s1_15 s28_15 s29_15 s30_15 s4_15 s8_15; intro e_17 s1_17 s4_17 s8_17 s9_17 s28_17 s29_17
     refine then_n <| aw_seq <| at_ <| ar (ro_fld_ptr y61_fl26_1 rfl s8_17) rfl <| ar (ro_eq (ro_ld_ptr y61_ty22 rfl mo3_14 up_h (nle rfl)) (by simp only [pS, Value.cells, Nat.reduceAdd, jnE, set_jn4] <;> rfl)) rfl ?_
     refine ar (ro_move (u2 rfl s9_17)) rfl <| ar (ro_ix_own y61_sl22 mo2_14 (up_m rfl up_h) up_h (by omega) (by simp only [lnS] <;> omega)) rfl ?_
     refine ar (ro_fld_el (o := 0) y61_fl70_2 rfl up_h) rfl <| ar (ro_assign up_h) rfl <| ae6 (u2 rfl (u4 rfl s1_17)) (u2 rfl (u4 rfl s4_17)) (u2 rfl (u4 rfl s8_17)) up_h (u2 rfl (u4 rfl s28_17)) (u2 rfl (u4 rfl s29_17)) ?_; clear s1_17 s28_17 s29_17 s4_17 s8_17 s9_17; intro e_18 s1_18 s4_18 s8_18 s10_18 s28_18 s29_18
     refine then_n <| aw_draw 17 (by kernel_rfl) (by kernel_rfl) (by kernel_rfl) (by kernel_rfl) ?_
     refine dr (ro_move s10_18) rfl <| dr (ro_move (up_m rfl s10_18)) rfl <| dr (ro_nilP up_h) rfl <| dr (ro_fld_elO y61_fl39_0 rfl up_h) rfl <| dr (ro_eq (ro_ld_elO y61_ty3 rfl mo2_14 up_h (nle rfl) (by first | (refine idx_map ?_; first | omega | (simp only [lnS]; omega)) | (refine idx_mapI ?_; first | omega | (simp only [lnS]; omega)) | (refine idx_mapN ?_; first | omega | (simp only [lnS]; omega)) | rfl)) (by simp only [pS, Value.cells, Nat.reduceAdd, jnE, set_jn4] <;> rfl)) rfl ?_
     refine dr (ro_move (up_m rfl (u4 rfl s1_18))) rfl ?_
     (refine dr (ro_sub' (up_m rfl up_h) up_h ?_) rfl ?_; · (unfold In64; omega))
     refine dr (ro_max ev_c up_h) rfl <| dr (ro_move (u8 rfl s10_18)) rfl <| dr (ro_nilP up_h) rfl <| dr (ro_fld_elO y61_fl39_1 rfl up_h) rfl <| dr (ro_eq (ro_ld_elO y61_ty3 rfl mo2_14 up_h (nle rfl) (by first | (refine idx_map ?_; first | omega | (simp only [lnS]; omega)) | (refine idx_mapI ?_; first | omega | (simp only [lnS]; omega)) | (refine idx_mapN ?_; first | omega | (simp only [lnS]; omega)) | rfl)) (by simp only [pS, Value.cells, Nat.reduceAdd, jnE, set_jn4] <;> rfl)) rfl ?_
     refine dr (ro_move (u4 rfl (u8 rfl s1_18))) rfl ?_
     (refine dr (ro_add' (up_m rfl up_h) up_h ?_) rfl ?_; · (unfold In64; omega))
     refine dr (ro_min ev_c up_h) rfl <| dr (ro_build (evP_cons (up_m rfl (u2 rfl (u4 rfl up_h))) (evP_cons up_h evP_nil)) y61_bz39 y61_bu39 y61_bp39 rfl) rfl ?_
     refine dr (ro_nilP (up_m rfl (u2 rfl (u4 rfl (u8 rfl up_h))))) rfl <| ds_nil <| al_stm (st_store_el up_h (up_m rfl up_h) rfl rfl rfl mo2_14 rfl (by first | (refine idx_map ?_; first | omega | (simp only [lnS]; omega)) | (refine idx_mapI ?_; first | omega | (simp only [lnS]; omega)) | (refine idx_mapN ?_; first | omega | (simp only [lnS]; omega)) | rfl) y61_sz39 rfl (nle rfl)) trivial rfl (fun m_19 hm_19 => ?_)
     have mo2_19 := m_set hm_19 mo2_14
     simp only [pS, Value.cells, Nat.reduceAdd, jnE, set_jn4] at mo2_19
     have mo3_19 := m_set_o hm_19 mo3_14 (by decide)
     have mo1_19 := m_set_o hm_19 mo1_14 (by decide)
     have mo0_19 := m_set_o hm_19 mo0_14 (by decide)
     have ml_19 := m_set_l hm_19 ml_14
     clear hm_19 mo2_14 mo3_14 mo1_14 mo0_14
     refine ae5 (up_n (up_m rfl (u16 rfl s1_18))) (up_n (up_m rfl (u16 rfl s4_18))) (up_n (up_m rfl (u16 rfl s8_18))) (up_n (up_m rfl (u16 rfl s28_18))) (up_n (up_m rfl (u16 rfl s29_18))) ?_; clear s10_18 s1_18 s28_18 s29_18 s4_18 s8_18; intro e_20 s1_20 s4_20 s8_20 s28_20 s29_20
     refine block_n <| then_n <| at_ ?_
     (refine ar (ro_add' s29_20 ev_c ?_) rfl ?_; · (unfold In64; omega))
     refine ar (ro_move up_h) rfl <| ae5 (u2 rfl s1_20) (u2 rfl s4_20) (u2 rfl s8_20) (u2 rfl s28_20) up_h ?_; clear s1_20 s28_20 s29_20 s4_20 s8_20; intro e_21 s1_21 s4_21 s8_21 s28_21 s29_21
     refine then_n <| ⟨⟨_, _⟩, ⟨s29_21, (s1_21.trans s1_13.symm), (s4_21.trans s4_13.symm), (s8_21.trans s8_13.symm), (s28_21.trans s28_13.symm), mo2_19, (mo3_19.trans mo3_11.symm), (mo1_19.trans mo1_11.symm), (mo0_19.trans mo0_11.symm), ml_19, ?_⟩, ?_⟩
     · (refine ⟨by omega, by omega, ?_⟩; rw [show (i + 1).toNat = i.toNat + 1 by omega]; simp only [warN]; rw [← p3, ← hge]; rfl)
     · ((try dsimp only); omega)
    replace hq_16 := bf hq_16
    refine aw_exit <| then_x <| then_x <| block_hit <| then_n <| aw_seq <| at_ <| ar (ro_eq (ro_ld_ptr y61_ty26 rfl mo3_14 s8_15 (nle rfl)) (by simp only [pS, Value.cells, Nat.reduceAdd, jnE, set_jn4] <;> rfl)) rfl ?_
    refine al_stm (st_storeO (up_m rfl s4_15) up_h rfl (oneL_c rfl (oneL_o mo2_14 (oneL_c rfl (oneL_c rfl oneL_nil)))) mo1_14 y61_sz26 rfl (nle rfl)) trivial rfl (fun m_22 hm_22 => ?_)
    have mo1_22 := m_set hm_22 mo1_14
    simp only [pS, Value.cells, Nat.reduceAdd, jnE, set_jn4] at mo1_22
    have mo2_22 := m_set_o hm_22 mo2_14 (by decide)
    have mo3_22 := m_set_o hm_22 mo3_14 (by decide)
    have mo0_22 := m_set_o hm_22 mo0_14 (by decide)
    have ml_22 := m_set_l hm_22 ml_14
    clear hm_22 mo2_14 mo3_14 mo1_14 mo0_14
    refine ar (ro_assign ev_c) rfl <| ae2 (up_m rfl (up_n (up_m rfl s4_15))) up_h ?_; clear s1_15 s28_15 s29_15 s30_15 s4_15 s8_15; intro e_23 s4_23 s5_23
    refine then_n <| aw_ret <| ret2 (.inr rfl) (by kernel_rfl) (resV_cell s4_23 mo1_22 y61_ty26 (nle rfl) (by simp)) (resV_tmp s5_23) (vw_r (vw_agg (vwl_cons (.ro _ rfl) (vwl_cons (.own _ _ _ _ mo2_22) (vwl_cons (.ro _ rfl) (vwl_cons (.ro _ rfl) vwl_nil)))))) (.ro _ rfl) ?_
    clear s4_23 s5_23 mo1_22 mo2_22 mo3_22 mo0_22 ml_22
    (have hm : l.js.length = i.toNat := (by omega); unfold warL Lin.withJs; rw [hm, ← p3]; rfl)
set_option maxRecDepth 100000 in
set_option maxHeartbeats 4000000 in
theorem rWarmed_ok (l : Lin) (hl : Sho l) (h : Rgt l) (y : Int) (hy2 : 0 ≤ y ∧ y ≤ 100) : FnOk Try.prog 35 [lnA l, mA y] (fun q => q = lnA (warL l y)) := by
  refine fnOk_of (fn := Try.f35) 39 (by kernel_rfl) rfl (by kernel_rfl) (Nat.le_of_ble_eq_true rfl) ?_
  intro e_0 m_0 hA hm_0
  have s0_0 : evA e_0 (.tmp 0) = _ := hA 0 _ rfl
  have s1_0 : evA e_0 (.tmp 1) = _ := hA 1 _ rfl
  have ml_0 : m_0.length = 0 := by rw [hm_0]; rfl
  clear hA hm_0
  have hjs := h.js; have hn1 := h.n1
  refine aw_seq <| at_ <| al_stm (st_box s0_0 rfl ml_0) trivial rfl (fun m_1 hm_1 => ?_)
  have mo0_1 := m_push hm_1 ml_0
  have ml_1 := m_push_l hm_1 ml_0
  have ml_1 : _ = 1 := ml_1
  clear hm_1
  refine al_stm (st_alloc y61_az26 rfl ml_1) trivial rfl (fun m_2 hm_2 => ?_)
  have mo1_2 := m_push hm_2 ml_1
  simp only [pS, Value.cells, Nat.reduceAdd, jnE, set_jn4] at mo1_2
  have mo0_2 := m_push_o hm_2 mo0_1
  have ml_2 := m_push_l hm_2 ml_1
  have ml_2 : _ = 2 := ml_2
  clear hm_2 mo0_1
  refine ae3 (u2 rfl s1_0) (up_m rfl up_h) up_h ?_; clear s0_0 s1_0; intro e_3 s1_3 s2_3 s4_3
  refine then_n <| aw_seq <| at_ <| ar (ro_eq (ro_ld_ptr y61_ty26 rfl mo0_2 s2_3 (nle rfl)) (by simp only [pS, Value.cells, Nat.reduceAdd, jnE, set_jn4] <;> rfl)) rfl ?_
  refine al_stm (st_callL ml_2 (evL_cons up_h evL_nil) rfl (copyOwn_ok l hl h.jn0) y61_hcf18) trivial rfl (fun m_4 hm_4 => ?_)
  have mo2_4 := m_push hm_4 ml_2
  have mo1_4 := m_push_o hm_4 mo1_2
  have mo0_4 := m_push_o hm_4 mo0_2
  have ml_4 := m_push_l hm_4 ml_2
  have ml_4 : _ = 3 := ml_4
  clear hm_4 mo1_2 mo0_2
  refine al_stm (st_storeO (u2 rfl s2_3) up_h rfl (oneL_c rfl (oneL_o mo2_4 (oneL_c rfl (oneL_c rfl oneL_nil)))) mo0_4 y61_sz26 rfl (nle rfl)) trivial rfl (fun m_5 hm_5 => ?_)
  have mo0_5 := m_set hm_5 mo0_4
  simp only [pS, Value.cells, Nat.reduceAdd, jnE, set_jn4] at mo0_5
  have mo2_5 := m_set_o hm_5 mo2_4 (by decide)
  have mo1_5 := m_set_o hm_5 mo1_4 (by decide)
  have ml_5 := m_set_l hm_5 ml_4
  clear hm_5 mo2_4 mo1_4 mo0_4
  refine ae3 (up_n (u2 rfl s1_3)) (up_n (u2 rfl s2_3)) (up_n (u2 rfl s4_3)) ?_; clear s1_3 s2_3 s4_3; intro e_6 s1_6 s2_6 s4_6
  refine then_n <| aw_seq <| aw_seq <| at_ <| ar (ro_assign ev_c) rfl <| ae4 (up_m rfl s1_6) (up_m rfl s2_6) (up_m rfl s4_6) up_h ?_; clear s1_6 s2_6 s4_6; intro e_7 s1_7 s2_7 s4_7 s5_7
  refine then_n <| aw_block <| aw_loop (S := (Int × List Jnt)) (fun s e mem => match s with | ⟨i, xs⟩ => (evA e (.tmp 5) = .v (.int .i64 i)) ∧ (evA e (.tmp 1) = evA e_7 (.tmp 1)) ∧ (evA e (.tmp 2) = evA e_7 (.tmp 2)) ∧ (evA e (.tmp 4) = evA e_7 (.tmp 4)) ∧ (mem[2]? = some (.row 70 4 (xs.map jnE))) ∧ (mem[0]? = m_5[0]?) ∧ (mem[1]? = m_5[1]?) ∧ (∃ n, mem.length = n ∧ 3 ≤ n) ∧ ((0 ≤ i ∧ i ≤ l.js.length ∧ xs = warN l.js y i.toNat))) (fun s => match s with | ⟨i, xs⟩ => (l.js.length - i).toNat) ⟨_, l.js⟩ ⟨s5_7, rfl, rfl, rfl, mo2_5, rfl, rfl, ⟨_, ml_5, Nat.le_refl _⟩, ?_⟩ ?_
  · (exact ⟨by omega, by omega, rfl⟩)
  · rintro ⟨i, xs⟩ e_8 m_8 ⟨s5_8, k1_8, k2_8, k4_8, mo2_8, mk0_8, mk1_8, ⟨n_8, ml_8, hn_8⟩, hinv⟩
    have s1_8 := k1_8.trans s1_7
    have s2_8 := k2_8.trans s2_7
    have s4_8 := k4_8.trans s4_7
    have mo0_8 := mk0_8.trans mo0_5
    have mo1_8 := mk1_8.trans mo1_5
    (obtain ⟨p1, p2, p3⟩ := hinv; have hxl : xs.length = l.js.length := (by rw [p3, warN_len]); have hge : xs.getD i.toNat default = l.js.getD i.toNat default := (by rw [p3]; exact warN_ge _ _ (Nat.le_refl _)))
    refine aw_seq <| aw_seq <| at_ <| ar (ro_move s5_8) rfl <| ar (ro_fld_ptr y61_fl26_1 rfl (up_m rfl s2_8)) rfl <| ar (ro_eq (ro_ld_ptr y61_ty22 rfl mo0_8 up_h (nle rfl)) (by simp only [pS, Value.cells, Nat.reduceAdd, jnE, set_jn4] <;> rfl)) rfl ?_
    refine ar (ro_eq (ro_len_own up_h mo2_8 rfl y61_sl22.1) (by simp only [lnS] <;> rfl)) rfl ?_
    refine ar (ro_lss (up_m rfl (u2 rfl up_h)) up_h) rfl <| ae5 (up_m rfl (u4 rfl s1_8)) (up_m rfl (u4 rfl s2_8)) (up_m rfl (u4 rfl s4_8)) (up_m rfl (u4 rfl s5_8)) up_h ?_; clear s1_8 s2_8 s4_8 s5_8; intro e_9 s1_9 s2_9 s4_9 s5_9 s13_9
    refine then_n <| aw_case s13_9 (fun hq_10 => ?_) (fun hq_10 => ?_)
    ·replace hq_10 := bt hq_10
     (have hj := h.jnt i.toNat (by omega); rw [← hge] at hj)
     refine aw_skip <| then_n <| aw_seq <| aw_block <| aw_seq <| at_ <| ar (ro_fld_ptr y61_fl26_1 rfl s2_9) rfl <| ar (ro_eq (ro_ld_ptr y61_ty22 rfl mo0_8 up_h (nle rfl)) (by simp only [pS, Value.cells, Nat.reduceAdd, jnE, set_jn4] <;> rfl)) rfl ?_
     refine ar (ro_move (u2 rfl s5_9)) rfl <| ar (ro_ix_own y61_sl22 mo2_8 (up_m rfl up_h) up_h (by omega) (by simp only [lnS] <;> omega)) rfl ?_
     refine ar (ro_fld_el (o := 0) y61_fl70_2 rfl up_h) rfl <| ar (ro_eq (ro_ld_elO y61_ty39 rfl mo2_8 up_h (nle rfl) (by first | (refine idx_map ?_; first | omega | (simp only [lnS]; omega)) | (refine idx_mapI ?_; first | omega | (simp only [lnS]; omega)) | (refine idx_mapN ?_; first | omega | (simp only [lnS]; omega)) | rfl)) (by simp only [pS, Value.cells, Nat.reduceAdd, jnE, set_jn4] <;> rfl)) rfl ?_
     refine al_stm (st_alloc y61_az39 rfl ml_8) trivial rfl (fun m_11 hm_11 => ?_)
     have mon_8_11 := m_push hm_11 ml_8
     simp only [pS, Value.cells, Nat.reduceAdd, jnE, set_jn4] at mon_8_11
     have mo2_11 := m_push_o hm_11 mo2_8
     have mo0_11 := m_push_o hm_11 mo0_8
     have mo1_11 := m_push_o hm_11 mo1_8
     have ml_11 := m_push_l hm_11 ml_8
     clear hm_11 mo2_8 mo0_8 mo1_8
     refine al_stm (st_store up_h (up_m rfl up_h) rfl rfl mon_8_11 y61_sz39 rfl (nle rfl)) trivial rfl (fun m_12 hm_12 => ?_)
     have mon_8_12 := m_set hm_12 mon_8_11
     simp only [pS, Value.cells, Nat.reduceAdd, jnE, set_jn4] at mon_8_12
     have mo2_12 := m_set_o hm_12 mo2_11 (by omega)
     have mo0_12 := m_set_o hm_12 mo0_11 (by omega)
     have mo1_12 := m_set_o hm_12 mo1_11 (by omega)
     have ml_12 := m_set_l hm_12 ml_11
     clear hm_12 mon_8_11 mo2_11 mo0_11 mo1_11
     refine ae5 (up_n (up_m rfl (u2 rfl (u4 rfl s1_9)))) (up_n (up_m rfl (u2 rfl (u4 rfl s2_9)))) (up_n (up_m rfl (u2 rfl (u4 rfl s4_9)))) (up_n (up_m rfl (u2 rfl (u4 rfl s5_9)))) (up_n up_h) ?_; clear s13_9 s1_9 s2_9 s4_9 s5_9; intro e_13 s1_13 s2_13 s4_13 s5_13 s6_13
     refine then_n <| at_ <| ar (ro_fld_ptr y61_fl26_1 rfl s2_13) rfl <| ar (ro_eq (ro_ld_ptr y61_ty22 rfl mo0_12 up_h (nle rfl)) (by simp only [pS, Value.cells, Nat.reduceAdd, jnE, set_jn4] <;> rfl)) rfl ?_
     refine ar (ro_move (u2 rfl s5_13)) rfl <| ar (ro_fld_ptr y61_fl39_0 rfl (up_m rfl (u2 rfl s6_13))) rfl <| ar (ro_eq (ro_ld_ptr y61_ty3 rfl mon_8_12 up_h (nle rfl)) (by simp only [pS, Value.cells, Nat.reduceAdd, jnE, set_jn4] <;> rfl)) rfl ?_
     refine ar (ro_move (up_m rfl (u4 rfl s1_13))) rfl ?_
     (refine ar (ro_sub' (up_m rfl up_h) up_h ?_) rfl ?_; · (unfold In64; omega))
     refine ar (ro_max ev_c up_h) rfl <| ar (ro_fld_ptr y61_fl39_1 rfl (u8 rfl s6_13)) rfl <| ar (ro_eq (ro_ld_ptr y61_ty3 rfl mon_8_12 up_h (nle rfl)) (by simp only [pS, Value.cells, Nat.reduceAdd, jnE, set_jn4] <;> rfl)) rfl ?_
     refine ar (ro_move (u2 rfl (u8 rfl s1_13))) rfl ?_
     (refine ar (ro_add' (up_m rfl up_h) up_h ?_) rfl ?_; · (unfold In64; omega))
     refine ar (ro_min ev_c up_h) rfl <| ar (ro_build (evP_cons (up_m rfl (u4 rfl up_h)) (evP_cons up_h evP_nil)) y61_bz39 y61_bu39 y61_bp39 rfl) rfl ?_
     refine ar (ro_ix_own y61_sl22 mo2_12 (u4 rfl (u8 rfl up_h)) (up_m rfl (u2 rfl (u8 rfl up_h))) (by omega) (by simp only [lnS] <;> omega)) rfl ?_
     refine ar (ro_fld_el (o := 0) y61_fl70_2 rfl up_h) rfl <| al_stm (st_store_el up_h (u2 rfl up_h) rfl rfl rfl mo2_12 rfl (by first | (refine idx_map ?_; first | omega | (simp only [lnS]; omega)) | (refine idx_mapI ?_; first | omega | (simp only [lnS]; omega)) | (refine idx_mapN ?_; first | omega | (simp only [lnS]; omega)) | rfl) y61_sz39 rfl (nle rfl)) trivial rfl (fun m_14 hm_14 => ?_)
     have mo2_14 := m_set hm_14 mo2_12
     simp only [pS, Value.cells, Nat.reduceAdd, jnE, set_jn4] at mo2_14
     have mon_8_14 := m_set_o hm_14 mon_8_12 (by omega)
     have mo0_14 := m_set_o hm_14 mo0_12 (by decide)
     have mo1_14 := m_set_o hm_14 mo1_12 (by decide)
     have ml_14 := m_set_l hm_14 ml_12
     clear hm_14 mon_8_12 mo2_12 mo0_12 mo1_12
     refine ae4 (up_n (u16 rfl s1_13)) (up_n (u16 rfl s2_13)) (up_n (u16 rfl s4_13)) (up_n (u16 rfl s5_13)) ?_; clear s1_13 s2_13 s4_13 s5_13 s6_13; intro e_15 s1_15 s2_15 s4_15 s5_15
     refine block_n <| then_n <| at_ <| ar (ro_move s5_15) rfl ?_
     (refine ar (ro_add' up_h ev_c ?_) rfl ?_; · (unfold In64; omega))
     refine ar (ro_assign up_h) rfl <| ae4 (up_m rfl (u2 rfl s1_15)) (up_m rfl (u2 rfl s2_15)) (up_m rfl (u2 rfl s4_15)) up_h ?_; clear s1_15 s2_15 s4_15 s5_15; intro e_16 s1_16 s2_16 s4_16 s5_16
     refine then_n <| ⟨⟨_, _⟩, ⟨s5_16, (s1_16.trans s1_7.symm), (s2_16.trans s2_7.symm), (s4_16.trans s4_7.symm), mo2_14, (mo0_14.trans mo0_5.symm), (mo1_14.trans mo1_5.symm), ⟨_, ml_14, by omega⟩, ?_⟩, ?_⟩
     · (refine ⟨by omega, by omega, ?_⟩; rw [show (i + 1).toNat = i.toNat + 1 by omega]; simp only [warN]; rw [← p3, ← hge]; rfl)
     · ((try dsimp only); omega)
    replace hq_10 := bf hq_10
    refine aw_exit <| then_x <| then_x <| block_hit <| then_n <| aw_seq <| at_ <| ar (ro_eq (ro_ld_ptr y61_ty26 rfl mo0_8 s2_9 (nle rfl)) (by simp only [pS, Value.cells, Nat.reduceAdd, jnE, set_jn4] <;> rfl)) rfl ?_
    refine al_stm (st_storeO (up_m rfl s4_9) up_h rfl (oneL_c rfl (oneL_o mo2_8 (oneL_c rfl (oneL_c rfl oneL_nil)))) mo1_8 y61_sz26 rfl (nle rfl)) trivial rfl (fun m_17 hm_17 => ?_)
    have mo1_17 := m_set hm_17 mo1_8
    simp only [pS, Value.cells, Nat.reduceAdd, jnE, set_jn4] at mo1_17
    have mo2_17 := m_set_o hm_17 mo2_8 (by decide)
    have mo0_17 := m_set_o hm_17 mo0_8 (by decide)
    have ml_17 := m_set_l hm_17 ml_8
    clear hm_17 mo2_8 mo0_8 mo1_8
    refine ae1 (up_n (up_m rfl s4_9)) ?_; clear s13_9 s1_9 s2_9 s4_9 s5_9; intro e_18 s4_18
    refine then_n <| aw_ret <| ret1 (.inr rfl) (by kernel_rfl) (resV_cell s4_18 mo1_17 y61_ty26 (nle rfl) (by simp)) (vw_r (vw_agg (vwl_cons (.ro _ rfl) (vwl_cons (.own _ _ _ _ mo2_17) (vwl_cons (.ro _ rfl) (vwl_cons (.ro _ rfl) vwl_nil)))))) ?_
    clear s4_18 mo1_17 mo2_17 mo0_17 ml_17
    (have hm : l.js.length = i.toNat := (by omega); unfold warL Lin.withJs; rw [hm, ← p3]; rfl)
end Go.Proofs.Ytonjcljnpcmenaa

/- Contracts: how many bits a word has; a quotient of two words by one. No conditions on a program. -/
namespace Go.Proofs.Ytonjcljnpcmenaa
open Go Go.RowKit Go.Proofs
set_option linter.unusedSimpArgs false
set_option linter.unusedVariables false

/-- How many bits a number has. -/
def bitN (x : Nat) : Nat := if x = 0 then 0 else Nat.log2 x + 1
/-- A digit of a quotient: what one looks for, Y the divisor of two digits, u what is left, n the next digit. -/
structure Hal (y1 y0 u n : Int) : Prop where
  hy1 : 2147483648 ≤ y1 ∧ y1 < 4294967296
  hy0 : 0 ≤ y0 ∧ y0 < 4294967296
  hu0 : 0 ≤ u
  hu1 : u < y1 * 4294967296 + y0
  hn0 : 0 ≤ n ∧ n < 4294967296
def halQ (y1 y0 u n : Int) : Int := (u * 4294967296 + n) / (y1 * 4294967296 + y0)
theorem Hal.q {y1 y0 u n : Int} (h : Hal y1 y0 u n) : 0 ≤ halQ y1 y0 u n ∧ halQ y1 y0 u n < 4294967296 := by
  obtain ⟨a, b, c, d, e⟩ := h
  refine ⟨Int.ediv_nonneg (by omega) (by omega), ?_⟩
  unfold halQ
  rw [Int.ediv_lt_iff_lt_mul (by omega)]
  omega
theorem hal_mul (q y1 y0 : Int) : q * (y1 * 4294967296 + y0) = q * y1 * 4294967296 + q * y0 := by rw [Int.mul_add, ← Int.mul_assoc]
/-- The guess is not too small: a guess that is too great is made less by one. -/
theorem Hal.less {y1 y0 u n q r : Int} (h : Hal y1 y0 u n) (h1 : q * y1 + r = u) (hq : halQ y1 y0 u n ≤ q) (hc : 4294967296 ≤ q ∨ 4294967296 * r + n < q * y0) : halQ y1 y0 u n ≤ q - 1 := by
  have hb := h.q
  rcases hc with hc | hc
  · omega
  · obtain ⟨a, b, c, d, e⟩ := h
    have h2 : ¬ q ≤ halQ y1 y0 u n := by
      unfold halQ
      rw [Int.le_ediv_iff_mul_le (by omega), hal_mul]
      omega
    omega
theorem Hal.done {y1 y0 u n q r : Int} (h : Hal y1 y0 u n) (h1 : q * y1 + r = u) (hq : halQ y1 y0 u n ≤ q) (hc : q * y0 ≤ 4294967296 * r + n) : q = halQ y1 y0 u n := by
  obtain ⟨a, b, c, d, e⟩ := h
  have h2 : q ≤ halQ y1 y0 u n := by
    unfold halQ
    rw [Int.le_ediv_iff_mul_le (by omega), hal_mul]
    omega
  omega
theorem Hal.far {y1 y0 u n q r : Int} (h : Hal y1 y0 u n) (h1 : q * y1 + r = u) (hq : halQ y1 y0 u n ≤ q) (hq2 : q ≤ 4294967296) (hr : 4294967296 ≤ r) : q = halQ y1 y0 u n := by
  have hb := h.q
  refine h.done h1 hq ?_
  have h2 := h.hy0
  have h3 := h.hn0
  have h4 := Int.mul_le_mul hq2 (show y0 ≤ 4294967295 by omega) (by omega) (by omega)
  omega
theorem Hal.first {y1 y0 u n : Int} (h : Hal y1 y0 u n) : u / y1 * y1 + (u - u / y1 * y1) = u ∧ halQ y1 y0 u n ≤ u / y1 ∧ u / y1 ≤ 4294967297 ∧ 0 ≤ u - u / y1 * y1 ∧ u - u / y1 * y1 < y1 := by
  obtain ⟨a, b, c, d, e⟩ := h
  have hm := Int.mul_ediv_add_emod u y1
  have hm2 : u / y1 * y1 + u % y1 = u := by rw [Int.mul_comm]; exact hm
  have h1 := Int.emod_nonneg u (show y1 ≠ 0 by omega)
  have h2 := Int.emod_lt_of_pos u (show 0 < y1 by omega)
  refine ⟨by omega, ?_, ?_, by omega, by omega⟩
  · rw [Int.le_ediv_iff_mul_le (by omega)]
    have h3 : halQ y1 y0 u n * (y1 * 4294967296 + y0) ≤ u * 4294967296 + n := by
      unfold halQ; exact Int.ediv_mul_le _ (by omega)
    have h4 : 0 ≤ halQ y1 y0 u n := by unfold halQ; exact Int.ediv_nonneg (by omega) (by omega)
    have h5 := Int.mul_nonneg h4 b.1
    rw [hal_mul] at h3
    omega
  · have h3 : u / y1 < 4294967298 := by
      rw [Int.ediv_lt_iff_lt_mul (by omega)]
      omega
    omega
end Go.Proofs.Ytonjcljnpcmenaa

/- Contracts: how many bits a word has. No conditions on a program. -/
namespace Go.Proofs.Ytonjcljnpcmenaa
open Go Go.RowKit Go.Proofs
set_option linter.unusedSimpArgs false
set_option linter.unusedVariables false
end Go.Proofs.Ytonjcljnpcmenaa

/- Contracts: a quotient of two words by one. No conditions on a program. -/
namespace Go.Proofs.Ytonjcljnpcmenaa
open Go Go.RowKit Go.Proofs
set_option linter.unusedSimpArgs false
set_option linter.unusedVariables false

/-- Two words without a bit in common: all bits of the second one are below those of the first one. -/
def OrOk (m n : Int) : Prop := ∃ (a c : Nat), c ≤ 64 ∧ m = ((2 ^ c * a : Nat) : Int) ∧ 0 ≤ n ∧ n < ((2 ^ c : Nat) : Int) ∧ InU64 m ∧ InU64 (m + n)
/-- What a quotient of two words is made of. -/
structure Dv (hi lo y : Int) (s : Nat) (p q2 Y u v : Int) : Prop where
  lo0 : InU64 lo
  hh : 1 ≤ hi ∧ hi < y
  sb : (64 : Int) - (bitN y.toNat : Nat) = s
  s0 : 2 ≤ s ∧ s ≤ 63
  hp : ((2 ^ s : Nat) : Int) = p
  hq2 : ((2 ^ (64 - s) : Nat) : Int) = q2
  hY : y * p = Y
  Yb : 9223372036854775808 ≤ Y ∧ Y < 18446744073709551616
  hu : hi * p + lo / q2 = u
  ub : 0 ≤ u ∧ u < Y
  hv : lo * p % 18446744073709551616 = v
  hip : InU64 (hi * p)
  ok : OrOk (hi * p) (lo / q2)
/-- Both digits of the quotient, and what is left. -/
def dq1 (Y u v : Int) : Int := halQ (Y / 4294967296) (Y % 4294967296) u (v / 4294967296)
def dU (Y u v : Int) : Int := u * 4294967296 + v / 4294967296 - dq1 Y u v * Y
def dq0 (Y u v : Int) : Int := halQ (Y / 4294967296) (Y % 4294967296) (dU Y u v) (v % 4294967296)
def dR (Y u v : Int) : Int := dU Y u v * 4294967296 + v % 4294967296 - dq0 Y u v * Y
theorem Y_two (Y : Int) : Y / 4294967296 * 4294967296 + Y % 4294967296 = Y := by omega
theorem Dv.R {hi lo y : Int} {s : Nat} {p q2 Y u v : Int} (h : Dv hi lo y s p q2 Y u v) : 0 ≤ dR Y u v ∧ dR Y u v < Y := by
  have h1 := h.Yb
  have : dR Y u v = (dU Y u v * 4294967296 + v % 4294967296) % Y := by
    unfold dR dq0 halQ
    rw [Y_two, Int.emod_def _ Y, Int.mul_comm Y]
  rw [this]
  exact ⟨Int.emod_nonneg _ (by omega), Int.emod_lt_of_pos _ (by omega)⟩
theorem Dv.all {hi lo y : Int} {s : Nat} {p q2 Y u v : Int} (h : Dv hi lo y s p q2 Y u v) : dq1 Y u v * 4294967296 + dq0 Y u v = (hi * 18446744073709551616 + lo) / y ∧ dR Y u v / p = (hi * 18446744073709551616 + lo) % y ∧ 0 ≤ p := by
  have hR := h.R
  have hYb := h.Yb
  have hp0 : 0 < p := by
    rw [← h.hp]; exact_mod_cast Nat.pow_pos (by decide)
  have hq0 : 0 < q2 := by
    rw [← h.hq2]; exact_mod_cast Nat.pow_pos (by decide)
  have hpq : q2 * p = 18446744073709551616 := by
    rw [← h.hp, ← h.hq2, ← Int.natCast_mul, ← Nat.pow_add, show 64 - s + s = 64 by have := h.s0; omega]; rfl
  have hlo := h.lo0
  unfold InU64 at hlo
  -- the low word, moved
  have hl1 : lo * p = lo / q2 * 18446744073709551616 + lo % q2 * p := by
    have := Int.mul_ediv_add_emod lo q2
    calc lo * p = (q2 * (lo / q2) + lo % q2) * p := by rw [this]
      _ = lo / q2 * (q2 * p) + lo % q2 * p := by rw [Int.add_mul, Int.mul_comm q2, Int.mul_assoc]
      _ = _ := by rw [hpq]
  have hl2 : 0 ≤ lo % q2 * p := Int.mul_nonneg (Int.emod_nonneg _ (by omega)) (by omega)
  have hl3 : lo % q2 * p < 18446744073709551616 := by
    rw [← hpq]; exact Int.mul_lt_mul_of_pos_right (Int.emod_lt_of_pos _ hq0) hp0
  have hv := h.hv
  have hu := h.hu
  have hD : (hi * 18446744073709551616 + lo) * p = u * 18446744073709551616 + v := by
    rw [Int.add_mul, Int.mul_assoc, Int.mul_comm 18446744073709551616 p, ← Int.mul_assoc]
    omega
  have e1 : (hi * 18446744073709551616 + lo) * p = (dq1 Y u v * 4294967296 + dq0 Y u v) * Y + dR Y u v := by
    rw [hD, Int.add_mul, Int.mul_assoc, Int.mul_comm 4294967296 Y, ← Int.mul_assoc]
    unfold dR dU
    omega
  have e2 : (hi * 18446744073709551616 + lo) / y = dq1 Y u v * 4294967296 + dq0 Y u v := by
    have : (hi * 18446744073709551616 + lo) * p / (y * p) = (hi * 18446744073709551616 + lo) / y := Int.mul_ediv_mul_of_pos_left _ _ hp0
    rw [← this, h.hY, e1, Int.add_comm, Int.add_mul_ediv_right _ _ (by omega), Int.ediv_eq_zero_of_lt hR.1 hR.2, Int.zero_add]
  refine ⟨e2.symm, ?_, by omega⟩
  have e3 : dR Y u v = (hi * 18446744073709551616 + lo) % y * p := by
    have : (hi * 18446744073709551616 + lo) * p % (y * p) = (hi * 18446744073709551616 + lo) % y * p := by
      rw [Int.mul_comm _ p, Int.mul_comm y p, Int.mul_emod_mul_of_pos _ _ hp0, Int.mul_comm]
    rw [← this, h.hY, e1, Int.add_comm, Int.add_mul_emod_self_right, Int.emod_eq_of_lt hR.1 hR.2]
  rw [e3, Int.mul_ediv_cancel _ (by omega)]
end Go.Proofs.Ytonjcljnpcmenaa

/- Contracts: a quotient of two words by one, walked. No conditions on a program. -/
namespace Go.Proofs.Ytonjcljnpcmenaa
open Go Go.RowKit Go.Proofs
set_option linter.unusedSimpArgs false
set_option linter.unusedVariables false
end Go.Proofs.Ytonjcljnpcmenaa

/- Contracts of chapter 1: whether the program is awake. No conditions on a program. -/
namespace Go.Proofs.Ytonjcljnpcmenaa
open Go Go.RowKit Go.Proofs
set_option linter.unusedSimpArgs false
set_option linter.unusedVariables false
theorem y27_az26 : (Try.prog.info? 26).bind (·.zero) = some (.agg #[.string ByteArray.empty, .slice none 0 0, .slice none 0 0, .slice none 0 0]) := by kernel_rfl
theorem y27_az39 : (Try.prog.info? 39).bind (·.zero) = some (.agg #[.int .i64 0, .int .i64 0]) := by kernel_rfl
theorem y27_bz85 : (Try.prog.info? 85).bind (·.zero) = some (.agg #[.int .i64 0, .int .i64 0]) := by kernel_rfl
theorem y27_bu85 : Try.prog.underlying 85 = some (.array 2 3) := by kernel_rfl
theorem y27_bp85 : (Try.prog.info? 3).map (·.size) = some 1 := by kernel_rfl
theorem y27_bz26 : (Try.prog.info? 26).bind (·.zero) = some (.agg #[.string ByteArray.empty, .slice none 0 0, .slice none 0 0, .slice none 0 0]) := by kernel_rfl
theorem y27_bu26 : Try.prog.underlying 26 = some (.struct (fsOf Try.prog 26)) := by kernel_rfl
theorem y27_bp26 : ∀ w, ((fsOf Try.prog 26).mapM fun f => Prod.mk f.offset <$> sizeOf f.type : Sem (Array (Nat × Nat))).run Try.prog w = .ok (#[(0, 1), (1, 1), (2, 1), (3, 1)]) w := fun _ => by kernel_rfl
theorem y27_bz28 : (Try.prog.info? 28).bind (·.zero) = some (.agg #[.int .i64 0, .int .i64 0, .int .i64 0]) := by kernel_rfl
theorem y27_bu28 : Try.prog.underlying 28 = some (.struct (fsOf Try.prog 28)) := by kernel_rfl
theorem y27_bp28 : ∀ w, ((fsOf Try.prog 28).mapM fun f => Prod.mk f.offset <$> sizeOf f.type : Sem (Array (Nat × Nat))).run Try.prog w = .ok (#[(0, 1), (1, 1), (2, 1)]) w := fun _ => by kernel_rfl
theorem y27_bz39 : (Try.prog.info? 39).bind (·.zero) = some (.agg #[.int .i64 0, .int .i64 0]) := by kernel_rfl
theorem y27_bu39 : Try.prog.underlying 39 = some (.struct (fsOf Try.prog 39)) := by kernel_rfl
theorem y27_bp39 : ∀ w, ((fsOf Try.prog 39).mapM fun f => Prod.mk f.offset <$> sizeOf f.type : Sem (Array (Nat × Nat))).run Try.prog w = .ok (#[(0, 1), (1, 1)]) w := fun _ => by kernel_rfl
theorem y27_bz70 : (Try.prog.info? 70).bind (·.zero) = some (.agg #[.int .i64 0, .int .i64 0, .int .i64 0, .int .i64 0]) := by kernel_rfl
theorem y27_bu70 : Try.prog.underlying 70 = some (.struct (fsOf Try.prog 70)) := by kernel_rfl
theorem y27_bp70 : ∀ w, ((fsOf Try.prog 70).mapM fun f => Prod.mk f.offset <$> sizeOf f.type : Sem (Array (Nat × Nat))).run Try.prog w = .ok (#[(0, 1), (1, 1), (2, 2)]) w := fun _ => by kernel_rfl
theorem y27_bz87 : (Try.prog.info? 87).bind (·.zero) = some (.agg #[.int .i64 0, .int .i64 0]) := by kernel_rfl
theorem y27_bu87 : Try.prog.underlying 87 = some (.struct (fsOf Try.prog 87)) := by kernel_rfl
theorem y27_bp87 : ∀ w, ((fsOf Try.prog 87).mapM fun f => Prod.mk f.offset <$> sizeOf f.type : Sem (Array (Nat × Nat))).run Try.prog w = .ok (#[(0, 1), (1, 1)]) w := fun _ => by kernel_rfl
theorem y27_hcf23 : ∀ args w, (callFunc 23 args).run Try.prog w = .ok (.enter 23 args) w := fun _ _ => by kernel_rfl
theorem y27_hcf41 : ∀ args w, (callFunc 41 args).run Try.prog w = .ok (.enter 41 args) w := fun _ _ => by kernel_rfl
theorem y27_hcf67 : ∀ args w, (callFunc 67 args).run Try.prog w = .ok (.enter 67 args) w := fun _ _ => by kernel_rfl
theorem y27_hcf68 : ∀ args w, (callFunc 68 args).run Try.prog w = .ok (.enter 68 args) w := fun _ _ => by kernel_rfl
theorem y27_sl22 : SlIs Try.prog 22 70 4 32 (.agg #[.int .i64 0, .int .i64 0, .int .i64 0, .int .i64 0]) := ⟨by kernel_rfl, by kernel_rfl, by kernel_rfl⟩
theorem y27_sl23 : SlIs Try.prog 23 87 2 16 (.agg #[.int .i64 0, .int .i64 0]) := ⟨by kernel_rfl, by kernel_rfl, by kernel_rfl⟩
theorem y27_sz26 : (Try.prog.info? 26).map (·.size) = some 4 := by kernel_rfl
theorem y27_sz39 : (Try.prog.info? 39).map (·.size) = some 2 := by kernel_rfl
theorem y27_ty26 : TyIs Try.prog 26 true 4 := ⟨by kernel_rfl, by kernel_rfl⟩
theorem y27_ty39 : TyIs Try.prog 39 true 2 := ⟨by kernel_rfl, by kernel_rfl⟩

def lin0 : Lin := ⟨⟨#[115, 104, 111, 114, 116]⟩, [⟨0, 0, 0, 0⟩, ⟨0, 100, 0, 0⟩, ⟨200, 100, 0, 0⟩], [⟨10000, 0⟩, ⟨10000, 100⟩], []⟩
set_option maxRecDepth 100000 in
set_option maxHeartbeats 1000000 in
theorem lin0_ok : FnOk Try.prog 67 [] (fun q => q = lnA lin0) := by
  refine fnOk_of (fn := Try.f67) 9 (by kernel_rfl) rfl (by kernel_rfl) (Nat.le_of_ble_eq_true rfl) ?_
  intro e_0 m_0 hA hm_0
  have ml_0 : m_0.length = 0 := by rw [hm_0]; rfl
  clear hA hm_0
  refine aw_seq <| at_ <| al_stm (st_alloc y27_az26 rfl ml_0) trivial rfl (fun m_1 hm_1 => ?_)
  have mo0_1 := m_push hm_1 ml_0
  simp only [pS, Value.cells, Nat.reduceAdd] at mo0_1
  have ml_1 := m_push_l hm_1 ml_0
  have ml_1 : _ = 1 := ml_1
  clear hm_1
  refine ae1 up_h ?_; intro e_2 s0_2
  refine then_n <| aw_seq <| at_ <| ar (ro_build evP_nil y27_bz70 y27_bu70 y27_bp70 rfl) rfl ?_
  refine ar (ro_build (evP_cons ev_c evP_nil) y27_bz70 y27_bu70 y27_bp70 rfl) rfl ?_
  refine ar (ro_build (evP_cons ev_c (evP_cons ev_c evP_nil)) y27_bz70 y27_bu70 y27_bp70 rfl) rfl ?_
  refine ar (ro_lit y27_sl22 (evP_cons (u2 rfl up_h) (evP_cons (up_m rfl up_h) (evP_cons up_h evP_nil))) rfl rfl rfl rfl) rfl <| ar (ro_build (evP_cons ev_c evP_nil) y27_bz87 y27_bu87 y27_bp87 rfl) rfl ?_
  refine ar (ro_build (evP_cons ev_c (evP_cons ev_c evP_nil)) y27_bz87 y27_bu87 y27_bp87 rfl) rfl ?_
  refine ar (ro_lit y27_sl23 (evP_cons (up_m rfl up_h) (evP_cons up_h evP_nil)) rfl rfl rfl rfl) rfl <| ar (ro_build (evP_cons ev_c (evP_cons (up_m rfl (u2 rfl up_h)) (evP_cons up_h evP_nil))) y27_bz26 y27_bu26 y27_bp26 rfl) rfl ?_
  refine al_stm (st_store (u8 rfl s0_2) up_h rfl rfl mo0_1 y27_sz26 rfl (nle rfl)) trivial rfl (fun m_3 hm_3 => ?_)
  have mo0_3 := m_set hm_3 mo0_1
  simp only [pS, Value.cells, Nat.reduceAdd] at mo0_3
  have ml_3 := m_set_l hm_3 ml_1
  clear hm_3 mo0_1
  refine ae1 (up_n (u8 rfl s0_2)) ?_; clear s0_2; intro e_4 s0_4
  refine then_n <| aw_ret <| ret1 (.inr rfl) (by kernel_rfl) (resV_cell s0_4 mo0_3 y27_ty26 (nle rfl) (by simp)) (vw_r (vw_agg (vwl_cons (.ro _ rfl) (vwl_cons (.ro _ rfl) (vwl_cons (.ro _ rfl) (vwl_cons (.nil 3) vwl_nil)))))) ?_
  clear s0_4 mo0_3 ml_3
  rfl
theorem lin0_sho : Sho lin0 := ⟨by decide, by decide, by decide, by decide, by intro s hs; cases hs⟩
theorem lin0_good : (linM lin0).2 = 0 := by kernel_rfl
theorem len0_ok : FnOk Try.prog 41 [lnA lin0] (fun q => q = .tuple [mA 20000, mA 0]) :=
  (lengthOf_good lin0 lin0_sho lin0_good).mono fun q h => h.trans (by kernel_rfl)
theorem lim0_ok : FnOk Try.prog 23 [lnA lin0, mA 1000, mA 1] (fun q => q = .tuple [mA 745250000, mA 0]) :=
  (limitAt_good lin0 lin0_sho lin0_good 1000 1 (fun hs n hn => by
    obtain rfl : n = 1 := by have : lin0.js.length = 3 := rfl
                             omega
    exact limit_low lin0 (rgt_of lin0_good) 1000 (by decide) 1 (by decide) (by decide))).mono fun q h => h.trans (by kernel_rfl)
theorem dev0_ok : FnOk Try.prog 68 [lnA lin0, vehA 10000 60 2500, .agg [mA 2500, mA 1]] (fun q => q = .tuple [.agg [mA (-38), mA (-37)], mA 0]) :=
  (deviationAt_good lin0 lin0_sho lin0_good 10000 60 2500 2500 1 (by decide) (by decide)).mono fun q h => h.trans (by kernel_rfl)
set_option maxRecDepth 100000 in
set_option maxHeartbeats 4000000 in
theorem awake_ok : FnOk Try.prog 12 [] (fun q => q = tbA true) := by
  refine fnOk_of (fn := Try.f12) 47 (by kernel_rfl) rfl (by kernel_rfl) (Nat.le_of_ble_eq_true rfl) ?_
  intro e_0 m_0 hA hm_0
  have ml_0 : m_0.length = 0 := by rw [hm_0]; rfl
  clear hA hm_0
  refine aw_seq <| at_ <| ar (ro_assign ev_c) rfl <| ae0 ?_; intro e_1
  refine then_n <| aw_seq <| at_ <| ar (ro_call evL_nil rfl (lin0_ok) y27_hcf67) rfl <| ar (ro_call (evL_cons up_h evL_nil) rfl (len0_ok) y27_hcf41) rfl <| ar (ro_move up_h) rfl <| ar (ro_extract up_h rfl) rfl <| ar (ro_extract (up_m rfl up_h) rfl) rfl <| ar (ro_assign (up_m rfl up_h)) rfl <| ar (ro_assign (up_m rfl up_h)) rfl <| ae2 (up_m rfl up_h) up_h ?_; intro e_2 s1_2 s2_2
  refine then_n <| aw_seq <| at_ <| ar (ro_call evL_nil rfl (lin0_ok) y27_hcf67) rfl <| ar (ro_call (evL_cons up_h (evL_cons ev_c (evL_cons ev_c evL_nil))) rfl (lim0_ok) y27_hcf23) rfl <| ar (ro_move up_h) rfl <| ar (ro_extract up_h rfl) rfl <| ar (ro_extract (up_m rfl up_h) rfl) rfl <| ar (ro_assign (up_m rfl up_h)) rfl <| ar (ro_assign (up_m rfl up_h)) rfl <| ae4 (up_m rfl (u2 rfl (u4 rfl s1_2))) (up_m rfl (u2 rfl (u4 rfl s2_2))) (up_m rfl up_h) up_h ?_; clear s1_2 s2_2; intro e_3 s1_3 s2_3 s3_3 s4_3
  refine then_n <| aw_seq <| at_ <| ar (ro_call evL_nil rfl (lin0_ok) y27_hcf67) rfl <| ar (ro_build (evP_cons ev_c (evP_cons ev_c (evP_cons ev_c evP_nil))) y27_bz28 y27_bu28 y27_bp28 rfl) rfl ?_
  refine ar (ro_buildA (evP_cons ev_c (evP_cons ev_c evP_nil)) y27_bz85 y27_bu85 y27_bp85 rfl) rfl ?_
  refine ar (ro_call (evL_cons (u2 rfl up_h) (evL_cons (up_m rfl up_h) (evL_cons up_h evL_nil))) rfl (dev0_ok) y27_hcf68) rfl <| ar (ro_move up_h) rfl <| ar (ro_extract up_h rfl) rfl <| ar (ro_extract (up_m rfl up_h) rfl) rfl <| al_stm (st_alloc y27_az39 rfl ml_0) trivial rfl (fun m_4 hm_4 => ?_)
  have mo0_4 := m_push hm_4 ml_0
  simp only [pS, Value.cells, Nat.reduceAdd] at mo0_4
  have ml_4 := m_push_l hm_4 ml_0
  have ml_4 : _ = 1 := ml_4
  clear hm_4
  refine al_stm (st_store up_h (u2 rfl up_h) rfl rfl mo0_4 y27_sz39 rfl (nle rfl)) trivial rfl (fun m_5 hm_5 => ?_)
  have mo0_5 := m_set hm_5 mo0_4
  simp only [pS, Value.cells, Nat.reduceAdd] at mo0_5
  have ml_5 := m_set_l hm_5 ml_4
  clear hm_5 mo0_4
  refine ar (ro_assign (up_n (up_m rfl up_h))) rfl <| ae6 (up_m rfl (up_n (u8 rfl s1_3))) (up_m rfl (up_n (u8 rfl s2_3))) (up_m rfl (up_n (u8 rfl s3_3))) (up_m rfl (up_n (u8 rfl s4_3))) (up_m rfl (up_n up_h)) up_h ?_; clear s1_3 s2_3 s3_3 s4_3; intro e_6 s1_6 s2_6 s3_6 s4_6 s5_6 s6_6
  refine then_n <| aw_seq <| at_ <| ar (ro_move s2_6) rfl <| ar (ro_eql up_h ev_c) rfl ?_
  refine ar (ro_move up_h) rfl <| al_case up_h (fun hb_7 hq_7 => ?_) (fun hb_7 hq_7 => ?_)
  ·replace hq_7 := bt hq_7
   refine al_ro' (ro_move (up_m rfl (u2 rfl s1_6))) ⟨_, rfl, hb_7⟩ rfl ?_
   refine al_ro' (ro_eql up_h ev_c) ⟨_, rfl, (up_m rfl hb_7)⟩ rfl ?_
   refine ar (ro_pickT (u2 rfl hb_7) up_h) rfl <| ar (ro_move up_h) rfl <| al_case up_h (fun hb_8 hq_8 => ?_) (fun hb_8 hq_8 => ?_)
   ·replace hq_8 := bt hq_8
    refine al_ro' (ro_move (up_m rfl (u2 rfl (u4 rfl s4_6)))) ⟨_, rfl, hb_8⟩ rfl ?_
    refine al_ro' (ro_eql up_h ev_c) ⟨_, rfl, (up_m rfl hb_8)⟩ rfl ?_
    refine ar (ro_pickT (u2 rfl hb_8) up_h) rfl <| ar (ro_move up_h) rfl <| al_case up_h (fun hb_9 hq_9 => ?_) (fun hb_9 hq_9 => ?_)
    ·replace hq_9 := bt hq_9
     refine al_ro' (ro_move (up_m rfl (u2 rfl (u8 rfl s3_6)))) ⟨_, rfl, hb_9⟩ rfl ?_
     refine al_ro' (ro_eql up_h ev_c) ⟨_, rfl, (up_m rfl hb_9)⟩ rfl ?_
     refine ar (ro_pickT (u2 rfl hb_9) up_h) rfl <| ar (ro_move up_h) rfl <| al_case up_h (fun hb_10 hq_10 => ?_) (fun hb_10 hq_10 => ?_)
     ·replace hq_10 := bt hq_10
      refine al_ro' (ro_move (up_m rfl (u2 rfl (u4 rfl (u8 rfl s6_6))))) ⟨_, rfl, hb_10⟩ rfl ?_
      refine al_ro' (ro_eql up_h ev_c) ⟨_, rfl, (up_m rfl hb_10)⟩ rfl ?_
      refine ar (ro_pickT (u2 rfl hb_10) up_h) rfl <| ar (ro_move up_h) rfl <| al_case up_h (fun hb_11 hq_11 => ?_) (fun hb_11 hq_11 => ?_)
      ·replace hq_11 := bt hq_11
       refine al_ro' (ro_eq (ro_ld_ptr y27_ty39 rfl mo0_5 (up_m rfl (u2 rfl (u16 rfl s5_6))) (nle rfl)) (by simp only [pS, Value.cells, Nat.reduceAdd] <;> rfl)) ⟨_, rfl, hb_11⟩ rfl ?_
       refine al_ro' (ro_build (evP_cons ev_c (evP_cons ev_c evP_nil)) y27_bz39 y27_bu39 y27_bp39 rfl) ⟨_, rfl, (up_m rfl hb_11)⟩ rfl ?_
       refine al_ro' (ro_aeql (up_m rfl up_h) up_h (xs := [.int .i64 (-38), .int .i64 (-37)]) (ys := [.int .i64 (-38), .int .i64 (-37)]) (b := true) ⟨rfl, by kernel_rfl, fun _ => by kernel_rfl⟩) ⟨_, rfl, (u2 rfl hb_11)⟩ rfl ?_
       refine ar (ro_pickT (up_m rfl (u2 rfl hb_11)) up_h) rfl <| ar (ro_assign up_h) rfl <| ae1 up_h ?_; clear hb_10 hb_11 hb_7 hb_8 hb_9 s1_6 s2_6 s3_6 s4_6 s5_6 s6_6; intro e_12 s0_12
       refine then_n <| aw_ret <| ret1 (.inr rfl) (by kernel_rfl) (resV_tmp s0_12) (.ro _ rfl) ?_
       clear s0_12 mo0_5 ml_5
       rfl
      · replace hq_11 := bf hq_11; exfalso; omega
     · replace hq_10 := bf hq_10; exfalso; omega
    · replace hq_9 := bf hq_9; exfalso; omega
   · replace hq_8 := bf hq_8; exfalso; omega
  · replace hq_7 := bf hq_7; exfalso; omega
end Go.Proofs.Ytonjcljnpcmenaa

/- Contracts of chapter 1: the limit at a joint, all limits. No conditions on a program. -/
namespace Go.Proofs.Ytonjcljnpcmenaa
open Go Go.RowKit Go.Proofs
set_option linter.unusedSimpArgs false
set_option linter.unusedVariables false
end Go.Proofs.Ytonjcljnpcmenaa

/- Plain: numbers as digits to the base 10^9. No program in sight. -/
namespace Go.Proofs.Ytonjcljnpcmenaa
open Go Go.RowKit Go.Proofs
set_option linter.unusedSimpArgs false
set_option linter.unusedVariables false

def valD : List Int → Int
  | [] => 0
  | d :: ds => d + 1000000000 * valD ds
def GD (ds : List Int) : Prop := ∀ d ∈ ds, 0 ≤ d ∧ d < 1000000000
def digN (n : Nat) : List Int := if h : n = 0 then [] else ((n % 1000000000 : Nat) : Int) :: digN (n / 1000000000)
termination_by n
decreasing_by omega
theorem digN_0 : digN 0 = [] := by rw [digN]; simp
theorem digN_s {n : Nat} (h : n ≠ 0) : digN n = ((n % 1000000000 : Nat) : Int) :: digN (n / 1000000000) := by rw [digN]; simp [h]
theorem digN_val : ∀ n : Nat, valD (digN n) = n := by
  intro n
  induction n using Nat.strongRecOn with
  | ind n ih =>
    by_cases h : n = 0
    · subst h; rw [digN_0]; rfl
    · rw [digN_s h, valD, ih _ (by omega)]; omega
theorem digN_gd : ∀ n : Nat, GD (digN n) := by
  intro n
  induction n using Nat.strongRecOn with
  | ind n ih =>
    by_cases h : n = 0
    · subst h; rw [digN_0]; intro d hd; cases hd
    · rw [digN_s h]
      intro d hd
      rcases List.mem_cons.1 hd with rfl | hd
      · omega
      · exact ih _ (by omega) d hd
theorem GD.tail {d : Int} {ds : List Int} (h : GD (d :: ds)) : GD ds := fun x hx => h x (List.mem_cons_of_mem _ hx)
theorem valD_nn : ∀ {ds : List Int}, GD ds → 0 ≤ valD ds
  | [], _ => by decide
  | d :: ds, h => by have := valD_nn h.tail; have := h d (List.mem_cons_self ..); rw [valD]; omega
theorem valD_app : ∀ (a b : List Int), valD (a ++ b) = valD a + 1000000000 ^ a.length * valD b
  | [], b => by simp [valD]
  | d :: a, b => by
    rw [List.cons_append, valD, valD, valD_app a b, List.length_cons, Int.pow_succ, Int.mul_add, ← Int.mul_assoc, Int.mul_comm (1000000000 ^ a.length) 1000000000]
    omega
theorem valD_zero : ∀ {ds : List Int}, (∀ d ∈ ds, d = 0) → valD ds = 0
  | [], _ => rfl
  | d :: ds, h => by rw [valD, h d (List.mem_cons_self ..), valD_zero fun x hx => h x (List.mem_cons_of_mem _ hx)]; rfl
theorem GD.at {ds : List Int} (h : GD ds) (i : Nat) : 0 ≤ ds.getD i default ∧ ds.getD i default < 1000000000 := by
  rw [List.getD_eq_getElem?_getD]
  by_cases hi : i < ds.length
  · rw [List.getElem?_eq_getElem hi]; exact h _ (List.getElem_mem hi)
  · rw [List.getElem?_eq_none (by omega)]; exact ⟨by decide, by decide⟩
theorem GD.take {ds : List Int} (h : GD ds) (n : Nat) : GD (ds.take n) := fun d hd => h d (List.mem_of_mem_take hd)
theorem GD.set {ds : List Int} (h : GD ds) (n : Nat) {v : Int} (hv : 0 ≤ v ∧ v < 1000000000) : GD (ds.set n v) := fun d hd => by
  rcases List.mem_or_eq_of_mem_set hd with hd | rfl
  · exact h d hd
  · exact hv
theorem GD.app {a b : List Int} (h : GD a) (k : GD b) : GD (a ++ b) := fun d hd => (List.mem_append.1 hd).elim (h d) (k d)
theorem GD.one {v : Int} (hv : 0 ≤ v ∧ v < 1000000000) : GD [v] := fun d hd => by rw [List.mem_singleton.1 hd]; exact hv
theorem GD.nil : GD [] := fun d hd => by cases hd
theorem GD.rep (n : Nat) : GD (List.replicate n 0) := fun d hd => by rw [(List.mem_replicate.1 hd).2]; exact ⟨by decide, by decide⟩
theorem valD_set : ∀ {ds : List Int} {k : Nat} (v : Int), k < ds.length → valD (ds.set k v) = valD ds + (v - ds.getD k default) * 1000000000 ^ k
  | d :: ds, 0, v, _ => by simp [valD]; omega
  | d :: ds, k + 1, v, h => by
    have := valD_set (ds := ds) (k := k) v (by simpa using h)
    rw [List.set_cons_succ, valD, valD, this, List.getD_cons_succ, Int.pow_succ, ← Int.mul_assoc, Int.mul_add, Int.mul_comm _ 1000000000]
    omega
theorem valD_take {ds : List Int} {k : Nat} (h : k < ds.length) : valD (ds.take (k + 1)) = valD (ds.take k) + ds.getD k default * 1000000000 ^ k := by
  rw [List.take_add_one, List.getElem?_eq_getElem h, Option.toList_some, valD_app, List.length_take, Nat.min_eq_left (by omega), valD, valD, Int.mul_zero, Int.add_zero, List.getD_eq_getElem?_getD, List.getElem?_eq_getElem h, Int.mul_comm]; rfl
theorem valD_rep (n : Nat) : valD (List.replicate n 0) = 0 := valD_zero fun d hd => (List.mem_replicate.1 hd).2
theorem valD_lt : ∀ {ds : List Int}, GD ds → valD ds < 1000000000 ^ ds.length
  | [], _ => by decide
  | d :: ds, h => by
    have h1 := valD_lt h.tail
    have h2 := h d (List.mem_cons_self ..)
    rw [valD, List.length_cons, Int.pow_succ]
    omega
/-- How long a number is. -/
theorem digN_len {n : Nat} : ∀ {k : Nat}, n < 1000000000 ^ k → (digN n).length ≤ k := by
  induction n using Nat.strongRecOn with
  | ind n ih =>
    intro k h
    by_cases h0 : n = 0
    · subst h0; rw [digN_0]; simp
    · match k, h with
      | 0, h => simp at h; omega
      | k + 1, h =>
        rw [digN_s h0, List.length_cons]
        have := ih (n / 1000000000) (by omega) (k := k) (by rw [Nat.pow_succ] at h; omega)
        omega
/-- A product, digit by digit: what is so far, at digit k of the second one for digit i of the first one, with a carry. -/
structure WM (a b xs : List Int) (i k : Nat) (c : Int) : Prop where
  len : xs.length = a.length + b.length + 1
  gd : GD xs
  z : ∀ q : Nat, i + b.length ≤ q → xs.getD q default = 0
  cb : 0 ≤ c ∧ c < 1000000000
  v : valD xs + c * 1000000000 ^ (i + k) = valD (a.take i) * valD b + a.getD i default * valD (b.take k) * 1000000000 ^ i
theorem getD_set_ne {ds : List Int} {i j : Nat} (h : i ≠ j) (v : Int) : (ds.set i v).getD j default = ds.getD j default := by
  rw [List.getD_eq_getElem?_getD, List.getElem?_set_ne h, ← List.getD_eq_getElem?_getD]
theorem WM.first {a b : List Int} : WM a b (List.replicate (a.length + b.length + 1) 0) 0 0 0 := by
  refine ⟨by simp, GD.rep _, fun q _ => ?_, ⟨by decide, by decide⟩, ?_⟩
  · rw [List.getD_eq_getElem?_getD, List.getElem?_replicate]; split <;> rfl
  · rw [valD_rep]; simp [valD]
theorem WM.bd {a b xs : List Int} {i k : Nat} {c : Int} (h : WM a b xs i k c) (ha : GD a) (hb : GD b) : 0 ≤ a.getD i default * b.getD k default ∧ 0 ≤ xs.getD (i + k) default + a.getD i default * b.getD k default + c ∧ xs.getD (i + k) default + a.getD i default * b.getD k default + c ≤ 999999999999999999 := by
  have h1 := ha.at i
  have h2 := hb.at k
  have h3 := h.gd.at (i + k)
  have h4 := h.cb
  have m1 := Int.mul_nonneg h1.1 h2.1
  have m2 := Int.mul_le_mul (show a.getD i default ≤ 999999999 by omega) (show b.getD k default ≤ 999999999 by omega) h2.1 (by omega)
  omega
theorem WM.step {a b xs : List Int} {i k : Nat} {c s : Int} (h : WM a b xs i k c) (ha : GD a) (hb : GD b) (hi : i < a.length) (hk : k < b.length) (hs : s = xs.getD (i + k) default + a.getD i default * b.getD k default + c) : WM a b (xs.set (i + k) (s % 1000000000)) i (k + 1) (s / 1000000000) := by
  have hbd := h.bd ha hb
  rw [← hs] at hbd
  refine ⟨by rw [List.length_set]; exact h.len, h.gd.set _ (by omega), fun q hq => ?_, by omega, ?_⟩
  · rw [getD_set_ne (by omega)]; exact h.z q hq
  · rw [valD_set _ (by rw [h.len]; omega), valD_take hk, Int.mul_add, Int.add_mul, ← Int.add_assoc, ← h.v, ← Nat.add_assoc, Int.pow_succ]
    have e1 : a.getD i default * (b.getD k default * 1000000000 ^ k) * 1000000000 ^ i = a.getD i default * b.getD k default * 1000000000 ^ (i + k) := by
      rw [Int.pow_add, Int.mul_assoc, Int.mul_assoc, Int.mul_assoc, Int.mul_comm (1000000000 ^ i)]
    rw [e1]
    generalize (1000000000 : Int) ^ (i + k) = P
    have e2 : s / 1000000000 * (P * 1000000000) = (s - s % 1000000000) * P := by
      rw [Int.mul_comm P, ← Int.mul_assoc, show s / 1000000000 * 1000000000 = s - s % 1000000000 by omega]
    rw [e2, hs, Int.sub_mul, Int.sub_mul, Int.add_mul, Int.add_mul]
    omega
theorem WM.next {a b xs : List Int} {i : Nat} {c : Int} (h : WM a b xs i b.length c) (hi : i < a.length) : WM a b (xs.set (i + b.length) (xs.getD (i + b.length) default + c)) (i + 1) 0 0 := by
  have hz := h.z (i + b.length) (Nat.le_refl _)
  refine ⟨by rw [List.length_set]; exact h.len, h.gd.set _ (by rw [hz, Int.zero_add]; exact h.cb), fun q hq => ?_, ⟨by decide, by decide⟩, ?_⟩
  · rw [getD_set_ne (by omega)]; exact h.z q (by omega)
  · have hv := h.v
    rw [List.take_length] at hv
    rw [valD_set _ (by rw [h.len]; omega), hz, valD_take hi, Int.add_mul, show (0 : Int) + c - 0 = c by omega, hv]
    simp only [List.take_zero, valD, Int.mul_zero, Int.zero_mul, Int.add_zero]
    rw [Int.mul_assoc, Int.mul_assoc, Int.mul_comm (1000000000 ^ i)]
theorem WM.done {a b xs : List Int} (h : WM a b xs a.length 0 0) : valD xs = valD a * valD b := by
  have hv := h.v
  simp only [List.take_zero, valD, Int.mul_zero, Int.zero_mul, Int.add_zero, List.take_length] at hv
  exact hv
end Go.Proofs.Ytonjcljnpcmenaa

