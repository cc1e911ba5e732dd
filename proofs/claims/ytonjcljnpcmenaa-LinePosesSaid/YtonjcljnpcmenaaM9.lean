/- Texts of this claim, one behind the other: lemmas for the statement. -/
import Derived.Test.YtonjcljnpcmenaaM8
import Derived.Test.YtonjcljnpcmenaaA28
/- The first pose that is not clear for sure: the program's and the document's. No conditions on a program. -/
namespace Go.Proofs.Ytonjcljnpcmenaa
open Go Go.RowKit Go.Proofs
set_option linter.unusedSimpArgs false
set_option linter.unusedVariables false
theorem y58_az124 : (Try.prog.info? 124).bind (·.zero) = some (.pointer none) := by kernel_rfl
theorem y58_az3 : (Try.prog.info? 3).bind (·.zero) = some (.int .i64 0) := by kernel_rfl
theorem y58_az34 : (Try.prog.info? 34).bind (·.zero) = some (.int .i64 0) := by kernel_rfl
theorem y58_az39 : (Try.prog.info? 39).bind (·.zero) = some (.agg #[.int .i64 0, .int .i64 0]) := by kernel_rfl
theorem y58_az41 : (Try.prog.info? 41).bind (·.zero) = some (.agg #[.int .i64 0, .int .i64 0, .int .i64 0, .int .i64 0]) := by kernel_rfl
theorem y58_bz41 : (Try.prog.info? 41).bind (·.zero) = some (.agg #[.int .i64 0, .int .i64 0, .int .i64 0, .int .i64 0]) := by kernel_rfl
theorem y58_bu41 : Try.prog.underlying 41 = some (.struct (fsOf Try.prog 41)) := by kernel_rfl
theorem y58_bp41 : ∀ w, ((fsOf Try.prog 41).mapM fun f => Prod.mk f.offset <$> sizeOf f.type : Sem (Array (Nat × Nat))).run Try.prog w = .ok (#[(0, 1), (1, 1), (2, 2)]) w := fun _ => by kernel_rfl
theorem y58_hcf130 : ∀ args w, (callFunc 130 args).run Try.prog w = .ok (.enter 130 args) w := fun _ _ => by kernel_rfl
theorem y58_hcf134 : ∀ args w, (callFunc 134 args).run Try.prog w = .ok (.enter 134 args) w := fun _ _ => by kernel_rfl
theorem y58_hcf72 : ∀ args w, (callFunc 72 args).run Try.prog w = .ok (.enter 72 args) w := fun _ _ => by kernel_rfl
theorem y58_hcf73 : ∀ args w, (callFunc 73 args).run Try.prog w = .ok (.enter 73 args) w := fun _ _ => by kernel_rfl
theorem y58_hcf74 : ∀ args w, (callFunc 74 args).run Try.prog w = .ok (.enter 74 args) w := fun _ _ => by kernel_rfl
theorem y58_hcf76 : ∀ args w, (callFunc 76 args).run Try.prog w = .ok (.enter 76 args) w := fun _ _ => by kernel_rfl
theorem y58_hcf77 : ∀ args w, (callFunc 77 args).run Try.prog w = .ok (.enter 77 args) w := fun _ _ => by kernel_rfl
theorem y58_hcf78 : ∀ args w, (callFunc 78 args).run Try.prog w = .ok (.enter 78 args) w := fun _ _ => by kernel_rfl
theorem y58_hcf79 : ∀ args w, (callFunc 79 args).run Try.prog w = .ok (.enter 79 args) w := fun _ _ => by kernel_rfl
theorem y58_sl185 : SlIs Try.prog 185 34 1 8 (.int .i64 0) := ⟨by kernel_rfl, by kernel_rfl, by kernel_rfl⟩
theorem y58_sz124 : (Try.prog.info? 124).map (·.size) = some 1 := by kernel_rfl
theorem y58_sz3 : (Try.prog.info? 3).map (·.size) = some 1 := by kernel_rfl
theorem y58_sz34 : (Try.prog.info? 34).map (·.size) = some 1 := by kernel_rfl
theorem y58_sz39 : (Try.prog.info? 39).map (·.size) = some 2 := by kernel_rfl
theorem y58_sz41 : (Try.prog.info? 41).map (·.size) = some 4 := by kernel_rfl
theorem y58_ty124 : TyIs Try.prog 124 false 1 := ⟨by kernel_rfl, by kernel_rfl⟩
theorem y58_ty26 : TyIs Try.prog 26 true 4 := ⟨by kernel_rfl, by kernel_rfl⟩
theorem y58_ty28 : TyIs Try.prog 28 true 3 := ⟨by kernel_rfl, by kernel_rfl⟩
theorem y58_ty3 : TyIs Try.prog 3 false 1 := ⟨by kernel_rfl, by kernel_rfl⟩
theorem y58_ty34 : TyIs Try.prog 34 false 1 := ⟨by kernel_rfl, by kernel_rfl⟩
theorem y58_ty39 : TyIs Try.prog 39 true 2 := ⟨by kernel_rfl, by kernel_rfl⟩
theorem y58_ty41 : TyIs Try.prog 41 true 4 := ⟨by kernel_rfl, by kernel_rfl⟩

/-- A joint beneath a pose that is not clear for sure. -/
def unB (l : Lin) (L c p : Int) (n : Nat) : Bool := decide (ansV c (devLo l L p n) (devHi l L p n) ≠ 2)
/-- The first such joint of the first i beneath a pose; the first such pose and joint of the first k poses. -/
def fuI (l : Lin) (L c p : Int) (i : Nat) : Option Nat := ((benL l L p).take i).find? (unB l L c p)
def fuK (l : Lin) (L c u : Int) : Nat → Option (Int × Nat)
  | 0 => none
  | k + 1 => match fuK l L c u k with
    | some r => some r
    | none => (fuI l L c ((k : Int) * u) (benL l L ((k : Int) * u)).length).map fun n => ((k : Int) * u, n)
theorem fuK_mono {l : Lin} {L c u : Int} {k : Nat} {r : Int × Nat} (h : fuK l L c u k = some r) : ∀ m, k ≤ m → fuK l L c u m = some r := by
  intro m
  induction m with
  | zero => intro hk; have : k = 0 := by omega
            subst this; exact h
  | succ m ih =>
    intro hk
    by_cases hm : k = m + 1
    · subst hm; exact h
    · unfold fuK; rw [ih (by omega)]
theorem fuI_take {l : Lin} {L c p : Int} {i n : Nat} (hn : (benL l L p)[i]? = some n) : fuI l L c p (i + 1) = (fuI l L c p i).or (if unB l L c p n = true then some n else none) := by
  unfold fuI
  rw [List.take_add_one, hn, List.find?_append]
  congr 1
  simp only [Option.toList, List.find?]
  cases unB l L c p n <;> rfl
theorem fuI_next {l : Lin} {L c p : Int} {i n : Nat} (hn : (benL l L p)[i]? = some n) (h : fuI l L c p i = none) (hb : unB l L c p n = false) : fuI l L c p (i + 1) = none := by
  rw [fuI_take hn, h, hb]; rfl
theorem fuI_hit {l : Lin} {L c p : Int} {i n : Nat} (hn : (benL l L p)[i]? = some n) (h : fuI l L c p i = none) (hb : unB l L c p n = true) : fuI l L c p (benL l L p).length = some n := by
  have h1 : fuI l L c p (i + 1) = some n := by rw [fuI_take hn, h, hb]; rfl
  unfold fuI at h1 ⊢
  rw [List.take_length, ← List.take_append_drop (i + 1) (benL l L p), List.find?_append, h1]
  rfl
theorem fuK_next {l : Lin} {L c u : Int} {k : Nat} (h : fuK l L c u k = none) (hi : fuI l L c ((k : Int) * u) (benL l L ((k : Int) * u)).length = none) : fuK l L c u (k + 1) = none := by
  unfold fuK; rw [h, hi]; rfl
theorem fuK_hit {l : Lin} {L c u : Int} {k n m : Nat} (h : fuK l L c u k = none) (hi : fuI l L c ((k : Int) * u) (benL l L ((k : Int) * u)).length = some n) (hk : k < m) : fuK l L c u m = some ((k : Int) * u, n) := by
  refine fuK_mono (k := k + 1) ?_ m hk
  unfold fuK; rw [h, hi]; rfl
/-- What the program and the document answer. -/
def fcA (l : Lin) (L c u : Int) : Option (Int × Nat) := fuK l L c u (posN l L u)
def unA (l : Lin) (L : Int) : Option (Int × Nat) → AV
  | some (p, n) => .agg [mA p, mA n, mA (devLo l L p n), mA (devHi l L p n)]
  | none => .agg [mA 0, mA 0, mA 0, mA 0]
def unE : Option (Int × Nat) → Int
  | some _ => 0
  | none => 12
theorem unB_ans {l : Lin} {L c p : Int} {n : Nat} : unB l L c p n = true ↔ ansV c (devLo l L p n) (devHi l L p n) ≠ 2 := by unfold unB; simp
theorem unB_no {l : Lin} {L c p : Int} {n : Nat} (h : ansV c (devLo l L p n) (devHi l L p n) = 2) : unB l L c p n = false := by unfold unB; simp [h]
set_option maxRecDepth 100000 in
set_option maxHeartbeats 4000000 in
theorem firstUnclear_good (l : Lin) (hl : Sho l) (hg : (linM l).2 = 0) (L c u : Int) (hv : vehE L c u = 0) : FnOk Try.prog 19 [lnA l, vehA L c u] (fun q => q = .tuple [unA l L (fcA l L c u), mA (unE (fcA l L c u))]) := by
  refine fnOk_of (fn := Try.f19) 48 (by kernel_rfl) rfl (by kernel_rfl) (Nat.le_of_ble_eq_true rfl) ?_
  intro e_0 m_0 hA hm_0
  have s0_0 : evA e_0 (.tmp 0) = _ := hA 0 _ rfl
  have s1_0 : evA e_0 (.tmp 1) = _ := hA 1 _ rfl
  have ml_0 : m_0.length = 0 := by rw [hm_0]; rfl
  clear hA hm_0
  have h := rgt_of hg; have hv2 := vehE_z.1 hv; have hpb := h.pla (n := l.bs.length) (Nat.le_refl _)
  refine aw_seq <| at_ <| al_stm (st_box s0_0 rfl ml_0) trivial rfl (fun m_1 hm_1 => ?_)
  have mo0_1 := m_push hm_1 ml_0
  have ml_1 := m_push_l hm_1 ml_0
  have ml_1 : _ = 1 := ml_1
  clear hm_1
  refine al_stm (st_box (up_m rfl s1_0) rfl ml_1) trivial rfl (fun m_2 hm_2 => ?_)
  have mo1_2 := m_push hm_2 ml_1
  have mo0_2 := m_push_o hm_2 mo0_1
  have ml_2 := m_push_l hm_2 ml_1
  have ml_2 : _ = 2 := ml_2
  clear hm_2 mo0_1
  refine al_stm (st_alloc y58_az41 rfl ml_2) trivial rfl (fun m_3 hm_3 => ?_)
  have mo2_3 := m_push hm_3 ml_2
  simp only [pS, Value.cells, Nat.reduceAdd] at mo2_3
  have mo1_3 := m_push_o hm_3 mo1_2
  have mo0_3 := m_push_o hm_3 mo0_2
  have ml_3 := m_push_l hm_3 ml_2
  have ml_3 : _ = 3 := ml_3
  clear hm_3 mo1_2 mo0_2
  refine al_stm (st_alloc y58_az34 rfl ml_3) trivial rfl (fun m_4 hm_4 => ?_)
  have mo3_4 := m_push hm_4 ml_3
  simp only [pS, Value.cells, Nat.reduceAdd] at mo3_4
  have mo2_4 := m_push_o hm_4 mo2_3
  have mo1_4 := m_push_o hm_4 mo1_3
  have mo0_4 := m_push_o hm_4 mo0_3
  have ml_4 := m_push_l hm_4 ml_3
  have ml_4 : _ = 4 := ml_4
  clear hm_4 mo2_3 mo1_3 mo0_3
  refine ae4 (up_m rfl (u2 rfl up_h)) (u2 rfl up_h) (up_m rfl up_h) up_h ?_; clear s0_0 s1_0; intro e_5 s2_5 s3_5 s4_5 s5_5
  refine then_n <| aw_seq <| at_ <| ar (ro_eq (ro_ld_ptr y58_ty26 rfl mo0_4 s2_5 (nle rfl)) (by simp only [pS, Value.cells, Nat.reduceAdd] <;> rfl)) rfl ?_
  refine ar (ro_call (evL_cons up_h evL_nil) rfl (yOpen_good l hl hg) y58_hcf76) rfl <| ar (ro_move up_h) rfl <| ar (ro_extract up_h rfl) rfl <| ar (ro_extract (up_m rfl up_h) rfl) rfl <| al_stm (st_alloc y58_az124 rfl ml_4) trivial rfl (fun m_6 hm_6 => ?_)
  have mo4_6 := m_push hm_6 ml_4
  simp only [pS, Value.cells, Nat.reduceAdd] at mo4_6
  have mo3_6 := m_push_o hm_6 mo3_4
  have mo2_6 := m_push_o hm_6 mo2_4
  have mo1_6 := m_push_o hm_6 mo1_4
  have mo0_6 := m_push_o hm_6 mo0_4
  have ml_6 := m_push_l hm_6 ml_4
  have ml_6 : _ = 5 := ml_6
  clear hm_6 mo3_4 mo2_4 mo1_4 mo0_4
  refine al_stm (st_store up_h (u2 rfl up_h) rfl rfl mo4_6 y58_sz124 rfl (nle rfl)) trivial rfl (fun m_7 hm_7 => ?_)
  have mo4_7 := m_set hm_7 mo4_6
  simp only [pS, Value.cells, Nat.reduceAdd] at mo4_7
  have mo3_7 := m_set_o hm_7 mo3_6 (by decide)
  have mo2_7 := m_set_o hm_7 mo2_6 (by decide)
  have mo1_7 := m_set_o hm_7 mo1_6 (by decide)
  have mo0_7 := m_set_o hm_7 mo0_6 (by decide)
  have ml_7 := m_set_l hm_7 ml_6
  clear hm_7 mo4_6 mo3_6 mo2_6 mo1_6 mo0_6
  refine ar (ro_assign (up_n (up_m rfl up_h))) rfl <| ae5 (up_m rfl (up_n (u2 rfl (u4 rfl s3_5)))) (up_m rfl (up_n (u2 rfl (u4 rfl s4_5)))) (up_m rfl (up_n (u2 rfl (u4 rfl s5_5)))) (up_m rfl (up_n up_h)) up_h ?_; clear s2_5 s3_5 s4_5 s5_5; intro e_8 s3_8 s4_8 s5_8 s6_8 s7_8
  refine then_n <| aw_seq <| aw_seq <| at_ <| ar (ro_move s7_8) rfl <| ar (ro_eq (ro_ld_ptr y58_ty28 rfl mo1_7 (up_m rfl s3_8) (nle rfl)) (by simp only [pS, Value.cells, Nat.reduceAdd] <;> rfl)) rfl ?_
  refine ar (ro_call (evL_cons up_h evL_nil) rfl (checkVehicle_ok L c u) y58_hcf78) rfl <| ar (ro_lit y58_sl185 (evP_cons (u2 rfl up_h) (evP_cons up_h evP_nil)) rfl rfl rfl rfl) rfl <| ar (ro_call (evL_cons up_h evL_nil) rfl ((yFirst_ok [_, _] (by simp)).mono (fun q h => h.trans (show mA (firstE [0, vehE L c u]) = mA 0 by rw [firstE_0, hv]))) y58_hcf77) rfl ?_
  refine ar (ro_assign up_h) rfl <| ae5 (u2 rfl (u4 rfl s3_8)) (u2 rfl (u4 rfl s4_8)) (u2 rfl (u4 rfl s5_8)) (u2 rfl (u4 rfl s6_8)) up_h ?_; clear s3_8 s4_8 s5_8 s6_8 s7_8; intro e_9 s3_9 s4_9 s5_9 s6_9 s7_9
  refine then_n <| aw_seq <| at_ <| ar (ro_move s7_9) rfl <| ar (ro_neq up_h ev_c) rfl <| ae6 (u2 rfl s3_9) (u2 rfl s4_9) (u2 rfl s5_9) (u2 rfl s6_9) (u2 rfl s7_9) up_h ?_; clear s3_9 s4_9 s5_9 s6_9 s7_9; intro e_10 s3_10 s4_10 s5_10 s6_10 s7_10 s22_10
  refine then_n <| aw_case s22_10 (fun hq_11 => ?_) (fun hq_11 => ?_)
  · replace hq_11 := bnt hq_11; exfalso; omega
  replace hq_11 := bnf hq_11
  refine aw_skip <| then_n <| aw_seq <| aw_seq <| at_ <| ar (ro_eq (ro_ld_ptr y58_ty124 rfl mo4_7 s6_10 (nle rfl)) (by simp only [pS, Value.cells, Nat.reduceAdd] <;> rfl)) rfl ?_
  refine ar (ro_eq (ro_ld_ptr y58_ty28 rfl mo1_7 (up_m rfl s3_10) (nle rfl)) (by simp only [pS, Value.cells, Nat.reduceAdd] <;> rfl)) rfl ?_
  refine ar (ro_call (evL_cons (up_m rfl up_h) (evL_cons up_h evL_nil)) rfl (poses_ok l L c u) y58_hcf79) rfl <| ae5 (up_m rfl (u2 rfl s3_10)) (up_m rfl (u2 rfl s4_10)) (up_m rfl (u2 rfl s5_10)) (up_m rfl (u2 rfl s6_10)) up_h ?_; clear s22_10 s3_10 s4_10 s5_10 s6_10 s7_10; intro e_12 s3_12 s4_12 s5_12 s6_12 s27_12
  refine then_n <| aw_block <| aw_rangeN1 s27_12 (poses1_gen l h L c u hv2.1 (by omega)) y58_hcf134 (by exact posY_one) (Nat.le_of_ble_eq_true rfl) (fun i mem => (mem[4]? = m_7[4]?) ∧ (mem[3]? = m_7[3]?) ∧ (mem[2]? = m_7[2]?) ∧ (mem[1]? = m_7[1]?) ∧ (mem[0]? = m_7[0]?) ∧ (∃ n, mem.length = n ∧ 5 ≤ n) ∧ ((fuK l L c u i = none))) ⟨rfl, rfl, rfl, rfl, rfl, ⟨_, ml_7, by omega⟩, ?_⟩ ?_ ?_
  · rfl
  · rintro k y0_13 m_13 hy_13 ⟨mk4_13, mk3_13, mk2_13, mk1_13, mk0_13, ⟨n_13, ml_13, hn_13⟩, hinv⟩
    (obtain ⟨hk, rfl⟩ := posY_of hy_13; have hk1 := hinv; have hkp := (pos_lt (by omega) _).1 hk; have hk0 : 0 ≤ (k : Int) * u := Int.mul_nonneg (by omega) (by omega))
    have mo4_13 := mk4_13.trans mo4_7
    have mo3_13 := mk3_13.trans mo3_7
    have mo2_13 := mk2_13.trans mo2_7
    have mo1_13 := mk1_13.trans mo1_7
    have mo0_13 := mk0_13.trans mo0_7
    refine aw_env (fun e_13 he_13 => ?_)
    have s3_13 := ef 3 he_13 (up_m rfl s3_12)
    have s4_13 := ef 4 he_13 (up_m rfl s4_12)
    have s5_13 := ef 5 he_13 (up_m rfl s5_12)
    have s6_13 := ef 6 he_13 (up_m rfl s6_12)
    have s27_13 := ef 27 he_13 (up_m rfl s27_12)
    have s28_13 := ef 28 he_13 up_h
    clear he_13
    refine at_ <| al_stm (st_alloc y58_az3 rfl ml_13) trivial rfl (fun m_14 hm_14 => ?_)
    have mon_13_14 := m_push hm_14 ml_13
    simp only [pS, Value.cells, Nat.reduceAdd] at mon_13_14
    have mo4_14 := m_push_o hm_14 mo4_13
    have mo3_14 := m_push_o hm_14 mo3_13
    have mo2_14 := m_push_o hm_14 mo2_13
    have mo1_14 := m_push_o hm_14 mo1_13
    have mo0_14 := m_push_o hm_14 mo0_13
    have ml_14 := m_push_l hm_14 ml_13
    clear hm_14 mo4_13 mo3_13 mo2_13 mo1_13 mo0_13
    refine al_stm (st_store up_h (up_m rfl s28_13) rfl rfl mon_13_14 y58_sz3 rfl (nle rfl)) trivial rfl (fun m_15 hm_15 => ?_)
    have mon_13_15 := m_set hm_15 mon_13_14
    simp only [pS, Value.cells, Nat.reduceAdd] at mon_13_15
    have mo4_15 := m_set_o hm_15 mo4_14 (by omega)
    have mo3_15 := m_set_o hm_15 mo3_14 (by omega)
    have mo2_15 := m_set_o hm_15 mo2_14 (by omega)
    have mo1_15 := m_set_o hm_15 mo1_14 (by omega)
    have mo0_15 := m_set_o hm_15 mo0_14 (by omega)
    have ml_15 := m_set_l hm_15 ml_14
    clear hm_15 mon_13_14 mo4_14 mo3_14 mo2_14 mo1_14 mo0_14
    refine ae5 (up_n (up_m rfl s3_13)) (up_n (up_m rfl s4_13)) (up_n (up_m rfl s5_13)) (up_n (up_m rfl s6_13)) (up_n up_h) ?_; clear s27_13 s28_13 s3_13 s4_13 s5_13 s6_13; intro e_16 s3_16 s4_16 s5_16 s6_16 s8_16
    refine fallb_n ?_
    refine awr_block ?_
    refine awr_seq ?_
    refine awr_of ?_
    refine at_ <| ar (ro_eq (ro_ld_ptr y58_ty124 rfl mo4_15 s6_16 (nle rfl)) (by simp only [pS, Value.cells, Nat.reduceAdd] <;> rfl)) rfl ?_
    refine ar (ro_eq (ro_ld_ptr y58_ty28 rfl mo1_15 (up_m rfl s3_16) (nle rfl)) (by simp only [pS, Value.cells, Nat.reduceAdd] <;> rfl)) rfl ?_
    refine ar (ro_eq (ro_ld_ptr y58_ty3 rfl mon_13_15 (u2 rfl s8_16) (nle rfl)) (by simp only [pS, Value.cells, Nat.reduceAdd] <;> rfl)) rfl ?_
    refine ar (ro_call (evL_cons (u2 rfl up_h) (evL_cons (up_m rfl up_h) (evL_cons up_h evL_nil))) rfl (beneath_ok l L c u _) y58_hcf72) rfl <| ae6 (u4 rfl s3_16) (u4 rfl s4_16) (u4 rfl s5_16) (u4 rfl s6_16) (u4 rfl s8_16) up_h ?_; clear s3_16 s4_16 s5_16 s6_16 s8_16; intro e_17 s3_17 s4_17 s5_17 s6_17 s8_17 s32_17
    refine then_n <| awr_block ?_
    refine awr_range1 s32_17 (beneath1_gen l h L c u _ hv2.1 (by omega)) y58_hcf130 (by exact benY_one) (Nat.le_of_ble_eq_true rfl) (fun i mem => (mem[n_13]? = m_15[n_13]?) ∧ (mem[4]? = m_15[4]?) ∧ (mem[3]? = m_15[3]?) ∧ (mem[2]? = m_15[2]?) ∧ (mem[1]? = m_15[1]?) ∧ (mem[0]? = m_15[0]?) ∧ (∃ n, mem.length = n ∧ n_13 + 1 ≤ n) ∧ ((fuI l L c ((k : Int) * u) i = none))) ⟨rfl, rfl, rfl, rfl, rfl, rfl, ⟨_, ml_15, by omega⟩, ?_⟩ ?_ ?_
    · rfl
    · rintro i_18 y0_18 m_18 hy_18 ⟨mkn_13_18, mk4_18, mk3_18, mk2_18, mk1_18, mk0_18, ⟨n_18, ml_18, hn_18⟩, hinv⟩
      (obtain ⟨n, hn, rfl, n1, n2, n3⟩ := benY_of hy_18; have hq : Pos l L _ n := ben_pos hv2.1 (by omega) n1 n2 n3)
      have mon_13_18 := mkn_13_18.trans mon_13_15
      have mo4_18 := mk4_18.trans mo4_15
      have mo3_18 := mk3_18.trans mo3_15
      have mo2_18 := mk2_18.trans mo2_15
      have mo1_18 := mk1_18.trans mo1_15
      have mo0_18 := mk0_18.trans mo0_15
      refine aw_env (fun e_18 he_18 => ?_)
      have s3_18 := ef 3 he_18 (up_m rfl s3_17)
      have s4_18 := ef 4 he_18 (up_m rfl s4_17)
      have s5_18 := ef 5 he_18 (up_m rfl s5_17)
      have s6_18 := ef 6 he_18 (up_m rfl s6_17)
      have s8_18 := ef 8 he_18 (up_m rfl s8_17)
      have s32_18 := ef 32 he_18 (up_m rfl s32_17)
      have s33_18 := ef 33 he_18 up_h
      clear he_18
      refine at_ <| ar (ro_assign s33_18) rfl <| ae6 (up_m rfl s3_18) (up_m rfl s4_18) (up_m rfl s5_18) (up_m rfl s6_18) (up_m rfl s8_18) up_h ?_; clear s32_18 s33_18 s3_18 s4_18 s5_18 s6_18 s8_18; intro e_19 s3_19 s4_19 s5_19 s6_19 s8_19 s9_19
      refine fallb_n ?_
      refine awr_of ?_
      refine aw_block <| aw_seq <| at_ <| ar (ro_eq (ro_ld_ptr y58_ty124 rfl mo4_18 s6_19 (nle rfl)) (by simp only [pS, Value.cells, Nat.reduceAdd] <;> rfl)) rfl ?_
      refine ar (ro_eq (ro_ld_ptr y58_ty28 rfl mo1_18 (up_m rfl s3_19) (nle rfl)) (by simp only [pS, Value.cells, Nat.reduceAdd] <;> rfl)) rfl ?_
      refine ar (ro_eq (ro_ld_ptr y58_ty3 rfl mon_13_18 (u2 rfl s8_19) (nle rfl)) (by simp only [pS, Value.cells, Nat.reduceAdd] <;> rfl)) rfl ?_
      refine ar (ro_move (up_m rfl (u2 rfl s9_19))) rfl <| ar (ro_call (evL_cons (up_m rfl (u2 rfl up_h)) (evL_cons (u2 rfl up_h) (evL_cons (up_m rfl up_h) (evL_cons up_h evL_nil)))) rfl (deviation_ok l h L c u _ n hq) y58_hcf74) rfl <| al_stm (st_alloc y58_az39 rfl ml_18) trivial rfl (fun m_20 hm_20 => ?_)
      have mon_18_20 := m_push hm_20 ml_18
      simp only [pS, Value.cells, Nat.reduceAdd] at mon_18_20
      have mon_13_20 := m_push_o hm_20 mon_13_18
      have mo4_20 := m_push_o hm_20 mo4_18
      have mo3_20 := m_push_o hm_20 mo3_18
      have mo2_20 := m_push_o hm_20 mo2_18
      have mo1_20 := m_push_o hm_20 mo1_18
      have mo0_20 := m_push_o hm_20 mo0_18
      have ml_20 := m_push_l hm_20 ml_18
      clear hm_20 mon_13_18 mo4_18 mo3_18 mo2_18 mo1_18 mo0_18
      refine al_stm (st_store up_h (up_m rfl up_h) rfl rfl mon_18_20 y58_sz39 rfl (nle rfl)) trivial rfl (fun m_21 hm_21 => ?_)
      have mon_18_21 := m_set hm_21 mon_18_20
      simp only [pS, Value.cells, Nat.reduceAdd] at mon_18_21
      have mon_13_21 := m_set_o hm_21 mon_13_20 (by omega)
      have mo4_21 := m_set_o hm_21 mo4_20 (by omega)
      have mo3_21 := m_set_o hm_21 mo3_20 (by omega)
      have mo2_21 := m_set_o hm_21 mo2_20 (by omega)
      have mo1_21 := m_set_o hm_21 mo1_20 (by omega)
      have mo0_21 := m_set_o hm_21 mo0_20 (by omega)
      have ml_21 := m_set_l hm_21 ml_20
      clear hm_21 mon_18_20 mon_13_20 mo4_20 mo3_20 mo2_20 mo1_20 mo0_20
      refine ae6 (up_n (u2 rfl (u4 rfl s3_19))) (up_n (u2 rfl (u4 rfl s4_19))) (up_n (u2 rfl (u4 rfl s5_19))) (up_n (u2 rfl (u4 rfl s8_19))) (up_n (u2 rfl (u4 rfl s9_19))) (up_n up_h) ?_; clear s3_19 s4_19 s5_19 s6_19 s8_19 s9_19; intro e_22 s3_22 s4_22 s5_22 s8_22 s9_22 s10_22
      refine then_n <| aw_seq <| at_ <| ar (ro_eq (ro_ld_ptr y58_ty28 rfl mo1_21 s3_22 (nle rfl)) (by simp only [pS, Value.cells, Nat.reduceAdd] <;> rfl)) rfl ?_
      refine ar (ro_eq (ro_ld_ptr y58_ty39 rfl mon_18_21 (up_m rfl s10_22) (nle rfl)) (by simp only [pS, Value.cells, Nat.reduceAdd] <;> rfl)) rfl ?_
      refine ar (ro_call (evL_cons (up_m rfl up_h) (evL_cons up_h evL_nil)) rfl (answer_ok L c u _ _ hv2.2.1) y58_hcf73) rfl <| ar (ro_neq up_h ev_c) rfl <| ae6 (u4 rfl s4_22) (u4 rfl s5_22) (u4 rfl s8_22) (u4 rfl s9_22) (u4 rfl s10_22) up_h ?_; clear s10_22 s3_22 s4_22 s5_22 s8_22 s9_22; intro e_23 s4_23 s5_23 s8_23 s9_23 s10_23 s42_23
      refine then_n <| aw_case s42_23 (fun hq_24 => ?_) (fun hq_24 => ?_)
      ·replace hq_24 := bnt hq_24
       refine aw_seq <| at_ <| ar (ro_eq (ro_ld_ptr y58_ty3 rfl mon_13_21 s8_23 (nle rfl)) (by simp only [pS, Value.cells, Nat.reduceAdd] <;> rfl)) rfl ?_
       refine ar (ro_move (up_m rfl s9_23)) rfl <| ar (ro_eq (ro_ld_ptr y58_ty39 rfl mon_18_21 (u2 rfl s10_23) (nle rfl)) (by simp only [pS, Value.cells, Nat.reduceAdd] <;> rfl)) rfl ?_
       refine ar (ro_build (evP_cons (u2 rfl up_h) (evP_cons (up_m rfl up_h) (evP_cons up_h evP_nil))) y58_bz41 y58_bu41 y58_bp41 rfl) rfl ?_
       refine al_stm (st_store (u4 rfl s4_23) up_h rfl rfl mo2_21 y58_sz41 rfl (nle rfl)) trivial rfl (fun m_25 hm_25 => ?_)
       have mo2_25 := m_set hm_25 mo2_21
       simp only [pS, Value.cells, Nat.reduceAdd] at mo2_25
       have mon_18_25 := m_set_o hm_25 mon_18_21 (by omega)
       have mon_13_25 := m_set_o hm_25 mon_13_21 (by omega)
       have mo4_25 := m_set_o hm_25 mo4_21 (by decide)
       have mo3_25 := m_set_o hm_25 mo3_21 (by decide)
       have mo1_25 := m_set_o hm_25 mo1_21 (by decide)
       have mo0_25 := m_set_o hm_25 mo0_21 (by decide)
       have ml_25 := m_set_l hm_25 ml_21
       clear hm_25 mon_18_21 mon_13_21 mo4_21 mo3_21 mo2_21 mo1_21 mo0_21
       refine al_stm (st_store (up_n (u4 rfl s5_23)) ev_c rfl rfl mo3_25 y58_sz34 rfl (nle rfl)) trivial rfl (fun m_26 hm_26 => ?_)
       have mo3_26 := m_set hm_26 mo3_25
       simp only [pS, Value.cells, Nat.reduceAdd] at mo3_26
       have mo2_26 := m_set_o hm_26 mo2_25 (by decide)
       have mon_18_26 := m_set_o hm_26 mon_18_25 (by omega)
       have mon_13_26 := m_set_o hm_26 mon_13_25 (by omega)
       have mo4_26 := m_set_o hm_26 mo4_25 (by decide)
       have mo1_26 := m_set_o hm_26 mo1_25 (by decide)
       have mo0_26 := m_set_o hm_26 mo0_25 (by decide)
       have ml_26 := m_set_l hm_26 ml_25
       clear hm_26 mo2_25 mon_18_25 mon_13_25 mo4_25 mo3_25 mo1_25 mo0_25
       refine ae2 (up_n (up_n (u4 rfl s4_23))) (up_n (up_n (u4 rfl s5_23))) ?_; clear s10_23 s42_23 s4_23 s5_23 s8_23 s9_23; intro e_27 s4_27 s5_27
       refine then_n <| aw_ret <| block_r <| rnd_r <| block_r <| block_r <| rnd_r <| block_r <| then_r <| ret2 (.inr rfl) (by kernel_rfl) (resV_cell s4_12 mo2_26 y58_ty41 (nle rfl) (by simp)) (resV_cell s5_12 mo3_26 y58_ty34 (nle rfl) (by simp)) (vw_r (.ro _ rfl)) (vw_c (.ro _ rfl)) ?_
       clear s27_12 s3_12 s4_12 s5_12 s6_12 mo3_26 mo2_26 mon_18_26 mon_13_26 mo4_26 mo1_26 mo0_26 ml_26
       (have hA := fuK_hit hk1 (fuI_hit hn hinv (unB_ans.2 (by assumption))) hk; rw [show fcA l L c u = _ from hA]; rfl)
      replace hq_24 := bnf hq_24
      refine aw_skip <| block_n <| rnd_n ⟨(mon_13_21.trans mon_13_15.symm), (mo4_21.trans mo4_15.symm), (mo3_21.trans mo3_15.symm), (mo2_21.trans mo2_15.symm), (mo1_21.trans mo1_15.symm), (mo0_21.trans mo0_15.symm), ⟨_, ml_21, by omega⟩, ?_⟩
      (exact fuI_next hn hinv (unB_no (by assumption)))
    · rintro m_18 ⟨mkn_13_18, mk4_18, mk3_18, mk2_18, mk1_18, mk0_18, ⟨n_18, ml_18, hn_18⟩, hinv⟩
      have mon_13_18 := mkn_13_18.trans mon_13_15
      have mo4_18 := mk4_18.trans mo4_15
      have mo3_18 := mk3_18.trans mo3_15
      have mo2_18 := mk2_18.trans mo2_15
      have mo1_18 := mk1_18.trans mo1_15
      have mo0_18 := mk0_18.trans mo0_15
      refine block_n <| block_n <| rnd_n ⟨(mo4_18.trans mo4_7.symm), (mo3_18.trans mo3_7.symm), (mo2_18.trans mo2_7.symm), (mo1_18.trans mo1_7.symm), (mo0_18.trans mo0_7.symm), ⟨_, ml_18, by omega⟩, ?_⟩
      (exact fuK_next hk1 (by rw [← benY_len]; exact hinv))
  · rintro m_13 ⟨mk4_13, mk3_13, mk2_13, mk1_13, mk0_13, ⟨n_13, ml_13, hn_13⟩, hinv⟩
    have mo4_13 := mk4_13.trans mo4_7
    have mo3_13 := mk3_13.trans mo3_7
    have mo2_13 := mk2_13.trans mo2_7
    have mo1_13 := mk1_13.trans mo1_7
    have mo0_13 := mk0_13.trans mo0_7
    refine block_n <| then_n <| aw_seq <| at_ <| ar (ro_build evP_nil y58_bz41 y58_bu41 y58_bp41 rfl) rfl ?_
    refine al_stm (st_store (up_m rfl s4_12) up_h rfl rfl mo2_13 y58_sz41 rfl (nle rfl)) trivial rfl (fun m_28 hm_28 => ?_)
    have mo2_28 := m_set hm_28 mo2_13
    simp only [pS, Value.cells, Nat.reduceAdd] at mo2_28
    have mo4_28 := m_set_o hm_28 mo4_13 (by decide)
    have mo3_28 := m_set_o hm_28 mo3_13 (by decide)
    have mo1_28 := m_set_o hm_28 mo1_13 (by decide)
    have mo0_28 := m_set_o hm_28 mo0_13 (by decide)
    have ml_28 := m_set_l hm_28 ml_13
    clear hm_28 mo4_13 mo3_13 mo2_13 mo1_13 mo0_13
    refine al_stm (st_store (up_n (up_m rfl s5_12)) ev_c rfl rfl mo3_28 y58_sz34 rfl (nle rfl)) trivial rfl (fun m_29 hm_29 => ?_)
    have mo3_29 := m_set hm_29 mo3_28
    simp only [pS, Value.cells, Nat.reduceAdd] at mo3_29
    have mo2_29 := m_set_o hm_29 mo2_28 (by decide)
    have mo4_29 := m_set_o hm_29 mo4_28 (by decide)
    have mo1_29 := m_set_o hm_29 mo1_28 (by decide)
    have mo0_29 := m_set_o hm_29 mo0_28 (by decide)
    have ml_29 := m_set_l hm_29 ml_28
    clear hm_29 mo2_28 mo4_28 mo3_28 mo1_28 mo0_28
    refine ae2 (up_n (up_n (up_m rfl s4_12))) (up_n (up_n (up_m rfl s5_12))) ?_; clear s27_12 s3_12 s4_12 s5_12 s6_12; intro e_30 s4_30 s5_30
    refine then_n <| aw_ret <| ret2 (.inr rfl) (by kernel_rfl) (resV_cell s4_30 mo2_29 y58_ty41 (nle rfl) (by simp)) (resV_cell s5_30 mo3_29 y58_ty34 (nle rfl) (by simp)) (vw_r (.ro _ rfl)) (vw_c (.ro _ rfl)) ?_
    clear s4_30 s5_30 mo3_29 mo2_29 mo4_29 mo1_29 mo0_29 ml_29
    (rw [show fcA l L c u = none by rw [posY_len] at hinv; exact hinv]; rfl)
end Go.Proofs.Ytonjcljnpcmenaa

/- The document's answers on poses: whether a pose is clear, the first one that is not for sure. No conditions on a program. -/
namespace Go.Proofs.Ytonjcljnpcmenaa
open Go Go.RowKit Go.Proofs
set_option linter.unusedSimpArgs false
set_option linter.unusedVariables false
theorem y59_az39 : (Try.prog.info? 39).bind (·.zero) = some (.agg #[.int .i64 0, .int .i64 0]) := by kernel_rfl
theorem y59_az41 : (Try.prog.info? 41).bind (·.zero) = some (.agg #[.int .i64 0, .int .i64 0, .int .i64 0, .int .i64 0]) := by kernel_rfl
theorem y59_bz41 : (Try.prog.info? 41).bind (·.zero) = some (.agg #[.int .i64 0, .int .i64 0, .int .i64 0, .int .i64 0]) := by kernel_rfl
theorem y59_bu41 : Try.prog.underlying 41 = some (.struct (fsOf Try.prog 41)) := by kernel_rfl
theorem y59_bp41 : ∀ w, ((fsOf Try.prog 41).mapM fun f => Prod.mk f.offset <$> sizeOf f.type : Sem (Array (Nat × Nat))).run Try.prog w = .ok (#[(0, 1), (1, 1), (2, 2)]) w := fun _ => by kernel_rfl
theorem y59_fl28_0 : FldIs Try.prog 28 0 0 false 1 := by unfold FldIs; kernel_rfl
theorem y59_fl28_1 : FldIs Try.prog 28 1 1 false 1 := by unfold FldIs; kernel_rfl
theorem y59_fl28_2 : FldIs Try.prog 28 2 2 false 1 := by unfold FldIs; kernel_rfl
theorem y59_fl39_0 : FldIs Try.prog 39 0 0 false 1 := by unfold FldIs; kernel_rfl
theorem y59_fl39_1 : FldIs Try.prog 39 1 1 false 1 := by unfold FldIs; kernel_rfl
theorem y59_hcf42 : ∀ args w, (callFunc 42 args).run Try.prog w = .ok (.enter 42 args) w := fun _ _ => by kernel_rfl
theorem y59_hcf80 : ∀ args w, (callFunc 80 args).run Try.prog w = .ok (.enter 80 args) w := fun _ _ => by kernel_rfl
theorem y59_hcf81 : ∀ args w, (callFunc 81 args).run Try.prog w = .ok (.enter 81 args) w := fun _ _ => by kernel_rfl
theorem y59_hcf82 : ∀ args w, (callFunc 82 args).run Try.prog w = .ok (.enter 82 args) w := fun _ _ => by kernel_rfl
theorem y59_sl49 : SlIs Try.prog 49 3 1 8 (.int .i64 0) := ⟨by kernel_rfl, by kernel_rfl, by kernel_rfl⟩
theorem y59_sz39 : (Try.prog.info? 39).map (·.size) = some 2 := by kernel_rfl
theorem y59_sz41 : (Try.prog.info? 41).map (·.size) = some 4 := by kernel_rfl
theorem y59_ty26 : TyIs Try.prog 26 true 4 := ⟨by kernel_rfl, by kernel_rfl⟩
theorem y59_ty28 : TyIs Try.prog 28 true 3 := ⟨by kernel_rfl, by kernel_rfl⟩
theorem y59_ty3 : TyIs Try.prog 3 false 1 := ⟨by kernel_rfl, by kernel_rfl⟩
theorem y59_ty39 : TyIs Try.prog 39 true 2 := ⟨by kernel_rfl, by kernel_rfl⟩
theorem y59_ty41 : TyIs Try.prog 41 true 4 := ⟨by kernel_rfl, by kernel_rfl⟩

theorem worL_zero {l : Lin} {L c p : Int} {i n : Nat} (hn : (benL l L p)[i]? = some n) (h : ansV c (devLo l L p n) (devHi l L p n) = 0) : worL l L c p (benL l L p) = 0 := by
  have h0 : ∀ (js : List Nat) (w : Int), 0 ≤ w → 0 ≤ List.foldl (fun w n => min w (ansV c (devLo l L p n) (devHi l L p n))) w js ∧ List.foldl (fun w n => min w (ansV c (devLo l L p n) (devHi l L p n))) w js ≤ w := by
    intro js
    induction js with
    | nil => intro w hw; exact ⟨hw, Int.le_refl _⟩
    | cons j js ih =>
      intro w hw
      have b := ans_bd c (devLo l L p j) (devHi l L p j)
      have := ih (min w (ansV c (devLo l L p j) (devHi l L p j))) (by omega)
      simp only [List.foldl_cons]
      omega
  have hm : n ∈ benL l L p := List.mem_of_getElem? hn
  obtain ⟨a, b, e⟩ := List.append_of_mem hm
  unfold worL
  rw [e, List.foldl_append, List.foldl_cons]
  have h1 := h0 a 2 (by omega)
  have h2 := h0 b (min (List.foldl (fun w n => min w (ansV c (devLo l L p n) (devHi l L p n))) 2 a) (ansV c (devLo l L p n) (devHi l L p n))) (by omega)
  omega
/-- The next answer, of one that is not no. -/
theorem worL_may {l : Lin} {L c p : Int} {i n : Nat} (hc : 0 ≤ c) (hn : (benL l L p)[i]? = some n) (hd : devLo l L p n ≤ devHi l L p n) (h : 1 ≤ worL l L c p ((benL l L p).take i)) (h1 : ¬ devHi l L p n < -c) (h2 : ¬ c < devLo l L p n) : worL l L c p ((benL l L p).take (i + 1)) = if -c ≤ devLo l L p n ∧ devHi l L p n ≤ c then worL l L c p ((benL l L p).take i) else 1 := by
  have b := ans_bd c (devLo l L p n) (devHi l L p n)
  have z := ans_0 hc hd
  have y := ans_2 (c := c) (lo := devLo l L p n) (hi := devHi l L p n)
  have hw : worL l L c p ((benL l L p).take i) ≤ 2 := by
    have h0 : ∀ (js : List Nat) (w : Int), List.foldl (fun w n => min w (ansV c (devLo l L p n) (devHi l L p n))) w js ≤ w := by
      intro js
      induction js with
      | nil => intro w; exact Int.le_refl _
      | cons j js ih =>
        intro w
        have := ih (min w (ansV c (devLo l L p j) (devHi l L p j)))
        simp only [List.foldl_cons]
        omega
    exact h0 _ 2
  rw [worL_next hn]
  generalize ansV c (devLo l L p n) (devHi l L p n) = A at *
  by_cases hy : -c ≤ devLo l L p n ∧ devHi l L p n ≤ c
  · rw [if_pos hy]; have := y.2 hy; omega
  · rw [if_neg hy]
    have a0 : A ≠ 0 := fun q => by have := z.1 q; omega
    have a2 : A ≠ 2 := fun q => hy (y.1 q)
    omega
theorem fcA_none {l : Lin} {L c u : Int} {k : Nat} (hu : 1 ≤ u) (h : fuK l L c u k = none) (hk : ¬ (k : Int) * u + L ≤ plaP l.bs l.bs.length) : fcA l L c u = none := by
  unfold fcA
  cases hr : fuK l L c u (posN l L u) with
  | none => rfl
  | some r =>
    have h1 : posN l L u ≤ k := by
      have := (pos_lt (l := l) (L := L) hu k).1
      omega
    rw [fuK_mono hr k h1] at h; cases h
theorem pos_suc (k : Nat) (u : Int) : ((k + 1 : Nat) : Int) * u = (k : Int) * u + u := by
  rw [Int.natCast_add, Int.add_mul]; simp
set_option maxRecDepth 100000 in
set_option maxHeartbeats 4000000 in
theorem rClearAt_ok (l : Lin) (h : Rgt l) (L c u p : Int) (hv : vehE L c u = 0) (hp : posE l L u p = 0) : FnOk Try.prog 22 [lnA l, vehA L c u, mA p] (fun q => q = mA (worL l L c p (benL l L p))) := by
  refine fnOk_of (fn := Try.f22) 47 (by kernel_rfl) rfl (by kernel_rfl) (Nat.le_of_ble_eq_true rfl) ?_
  intro e_0 m_0 hA hm_0
  have s0_0 : evA e_0 (.tmp 0) = _ := hA 0 _ rfl
  have s1_0 : evA e_0 (.tmp 1) = _ := hA 1 _ rfl
  have s2_0 : evA e_0 (.tmp 2) = _ := hA 2 _ rfl
  have ml_0 : m_0.length = 0 := by rw [hm_0]; rfl
  clear hA hm_0
  have hv2 := vehE_z.1 hv; have hp2 := posE_z.1 hp; have hpb := h.pla (n := l.bs.length) (Nat.le_refl _); have hjs := h.js; have hn1 := h.n1; have bl := benP_len (l := l) (L := L) (p := p) (n := l.js.length); have bl2 := benP_len2 (l := l) (L := L) (p := p)
  refine aw_seq <| at_ <| al_stm (st_box s0_0 rfl ml_0) trivial rfl (fun m_1 hm_1 => ?_)
  have mo0_1 := m_push hm_1 ml_0
  have ml_1 := m_push_l hm_1 ml_0
  have ml_1 : _ = 1 := ml_1
  clear hm_1
  refine al_stm (st_box (up_m rfl s1_0) rfl ml_1) trivial rfl (fun m_2 hm_2 => ?_)
  have mo1_2 := m_push hm_2 ml_1
  have mo0_2 := m_push_o hm_2 mo0_1
  have ml_2 := m_push_l hm_2 ml_1
  have ml_2 : _ = 2 := ml_2
  clear hm_2 mo0_1
  refine ar (ro_assign ev_c) rfl <| ae3 (up_m rfl (u2 rfl s2_0)) (u2 rfl up_h) (up_m rfl up_h) ?_; clear s0_0 s1_0 s2_0; intro e_3 s2_3 s3_3 s4_3
  refine then_n <| aw_seq <| at_ <| ar (ro_assign ev_c) rfl <| ae4 (up_m rfl s2_3) (up_m rfl s3_3) (up_m rfl s4_3) up_h ?_; clear s2_3 s3_3 s4_3; intro e_4 s2_4 s3_4 s4_4 s7_4
  refine then_n <| aw_seq <| at_ <| ar (ro_eq (ro_ld_ptr y59_ty26 rfl mo0_2 s3_4 (nle rfl)) (by simp only [pS, Value.cells, Nat.reduceAdd, iE] <;> rfl)) rfl ?_
  refine ar (ro_eq (ro_ld_ptr y59_ty28 rfl mo1_2 (up_m rfl s4_4) (nle rfl)) (by simp only [pS, Value.cells, Nat.reduceAdd, iE] <;> rfl)) rfl ?_
  refine ar (ro_move (u2 rfl s2_4)) rfl <| ar (ro_call (evL_cons (u2 rfl up_h) (evL_cons (up_m rfl up_h) (evL_cons up_h evL_nil))) rfl (rBeneath_ok l h L c u p (by omega) (by omega)) y59_hcf80) rfl ?_
  refine ar (ro_assign up_h) rfl <| ae5 (up_m rfl (u4 rfl s2_4)) (up_m rfl (u4 rfl s3_4)) (up_m rfl (u4 rfl s4_4)) (up_m rfl (u4 rfl s7_4)) up_h ?_; clear s2_4 s3_4 s4_4 s7_4; intro e_5 s2_5 s3_5 s4_5 s7_5 s8_5
  refine then_n <| aw_seq <| aw_seq <| at_ <| ar (ro_assign ev_c) rfl <| ae6 (up_m rfl s2_5) (up_m rfl s3_5) (up_m rfl s4_5) (up_m rfl s7_5) (up_m rfl s8_5) up_h ?_; clear s2_5 s3_5 s4_5 s7_5 s8_5; intro e_6 s2_6 s3_6 s4_6 s7_6 s8_6 s9_6
  refine then_n <| aw_block <| aw_loop (S := (Int × Int)) (fun s e mem => match s with | ⟨i, w⟩ => (evA e (.tmp 9) = .v (.int .i64 i)) ∧ (evA e (.tmp 7) = .v (.int .i64 w)) ∧ (evA e (.tmp 2) = evA e_6 (.tmp 2)) ∧ (evA e (.tmp 3) = evA e_6 (.tmp 3)) ∧ (evA e (.tmp 4) = evA e_6 (.tmp 4)) ∧ (evA e (.tmp 8) = evA e_6 (.tmp 8)) ∧ (mem[1]? = m_2[1]?) ∧ (mem[0]? = m_2[0]?) ∧ (∃ n, mem.length = n ∧ 2 ≤ n) ∧ ((0 ≤ i ∧ i ≤ (benP l L p l.js.length).length ∧ 1 ≤ w ∧ w = worL l L c p ((benL l L p).take i.toNat)))) (fun s => match s with | ⟨i, w⟩ => ((benP l L p l.js.length).length - i).toNat) ⟨_, _⟩ ⟨s9_6, s7_6, rfl, rfl, rfl, rfl, rfl, rfl, ⟨_, ml_2, Nat.le_refl _⟩, ?_⟩ ?_
  · (exact ⟨by omega, by omega, by omega, rfl⟩)
  · rintro ⟨i, w⟩ e_7 m_7 ⟨s9_7, s7_7, k2_7, k3_7, k4_7, k8_7, mk1_7, mk0_7, ⟨n_7, ml_7, hn_7⟩, hinv⟩
    have s2_7 := k2_7.trans s2_6
    have s3_7 := k3_7.trans s3_6
    have s4_7 := k4_7.trans s4_6
    have s8_7 := k8_7.trans s8_6
    have mo1_7 := mk1_7.trans mo1_2
    have mo0_7 := mk0_7.trans mo0_2
    (obtain ⟨i1, i2, i3, i4⟩ := hinv)
    refine aw_seq <| aw_seq <| at_ <| ar (ro_move s9_7) rfl <| ar (ro_move (up_m rfl s8_7)) rfl <| ar (ro_eq (ro_len_row up_h rfl y59_sl49.1) (by simp only [lnS] <;> rfl)) rfl ?_
    refine ar (ro_lss (u2 rfl up_h) up_h) rfl <| ae7 (u4 rfl s2_7) (u4 rfl s3_7) (u4 rfl s4_7) (u4 rfl s7_7) (u4 rfl s8_7) (u4 rfl s9_7) up_h ?_; clear s2_7 s3_7 s4_7 s7_7 s8_7 s9_7; intro e_8 s2_8 s3_8 s4_8 s7_8 s8_8 s9_8 s18_8
    refine then_n <| aw_case s18_8 (fun hq_9 => ?_) (fun hq_9 => ?_)
    ·replace hq_9 := bt hq_9
     (obtain ⟨n0, b0, b1, b2, b3, b4⟩ := benP_at (l := l) (L := L) (p := p) (i := i.toNat) (by omega); have q0 := ben_pos hv2.1 (by omega) b2 b3 b4; obtain ⟨d1, d2, d3⟩ := (NarL.refl h).dev h q0)
     refine aw_skip <| then_n <| aw_seq <| aw_block <| aw_seq <| aw_drawK 9 1 ml_7 (by kernel_rfl) (by kernel_rfl) (by kernel_rfl) (by kernel_rfl) (fun m_10 hm_10 => ?_)
     have mo1_10 := m_room_o hm_10 mo1_7
     have mo0_10 := m_room_o hm_10 mo0_7
     have mon_7_10 : m_10[n_7]? = _ := m_room_g hm_10 ml_7 0 rfl rfl
     have ml_10 : _ = n_7 + 1 := m_room_l (K := 1) hm_10 ml_7
     clear hm_10 mo1_7 mo0_7 ml_7
     refine dh_ld (0) (fun M_ hM_ => (ro_eq (ro_ld_ptr y59_ty26 rfl (agr hM_ mo0_10 (by simp)) s3_8 (nle rfl)) (by simp only [pS, Value.cells, Nat.reduceAdd, iE] <;> rfl))) trivial trivial ?_
     refine dh_ld (1) (fun M_ hM_ => (ro_eq (ro_ld_ptr y59_ty28 rfl (agr hM_ mo1_10 (by simp)) (up_m rfl s4_8) (nle rfl)) (by simp only [pS, Value.cells, Nat.reduceAdd, iE] <;> rfl))) trivial trivial ?_
     refine dh_ro (fun M_ hM_ => (ro_move (u2 rfl s2_8))) trivial ?_
     refine dh_ro (fun M_ hM_ => (ro_move (up_m rfl (u2 rfl s8_8)))) trivial ?_
     refine dh_ro (fun M_ hM_ => (ro_move (u4 rfl s9_8))) trivial ?_
     refine dh_ro (fun M_ hM_ => (ro_eq (ro_ix y59_sl49 (up_m rfl up_h) up_h (by omega) (by first | (refine idx_map ?_; first | omega | (simp only [lnS]; omega)) | (refine idx_mapI ?_; first | omega | (simp only [lnS]; omega)) | (refine idx_mapN ?_; first | omega | (simp only [lnS]; omega)) | rfl)) (by simp only [pS, Value.cells, Nat.reduceAdd, iE] <;> rfl))) trivial ?_
     refine dh_ro (fun M_ hM_ => (ro_eq (ro_ld_ref y59_ty3 rfl up_h (nle rfl)) (by simp only [pS, Value.cells, Nat.reduceAdd, iE] <;> rfl))) trivial ?_
     refine dh_ro (fun M_ hM_ => (ro_call (evL_cons (u2 rfl (u4 rfl up_h)) (evL_cons (up_m rfl (u4 rfl up_h)) (evL_cons (u4 rfl up_h) (evL_cons up_h evL_nil)))) rfl ((by have := rDeviationAt_ok l h L c u p n0 q0; rw [b0]; exact this)) y59_hcf81)) trivial ?_
     refine dh_nw (n_7) (fun M_ hM_ => (nw_alloc y59_az39 rfl)) trivial mon_7_10 rfl trivial ⟨.inl (by simp <;> omega), ⟨.inl (by simp <;> omega), trivial⟩⟩ (fun m_11 hm_11 => ?_)
     have mon_7_11 := m_set hm_11 mon_7_10
     simp only [pS, Value.cells, Nat.reduceAdd, iE] at mon_7_11
     have mo1_11 := m_set_o hm_11 mo1_10 (by omega)
     have mo0_11 := m_set_o hm_11 mo0_10 (by omega)
     have ml_11 := m_set_l hm_11 ml_10
     clear hm_11 mo1_10 mo0_10 mon_7_10
     refine dh_nil rfl ?_
     refine al_stm (st_store up_h (up_m rfl up_h) rfl rfl mon_7_11 y59_sz39 rfl (nle rfl)) trivial rfl (fun m_12 hm_12 => ?_)
     have mon_7_12 := m_set hm_12 mon_7_11
     simp only [pS, Value.cells, Nat.reduceAdd, iE] at mon_7_12
     have mo1_12 := m_set_o hm_12 mo1_11 (by omega)
     have mo0_12 := m_set_o hm_12 mo0_11 (by omega)
     have ml_12 := m_set_l hm_12 ml_11
     clear hm_12 mon_7_11 mo1_11 mo0_11
     refine ae7 (up_n (up_m rfl (u8 rfl s2_8))) (up_n (up_m rfl (u8 rfl s3_8))) (up_n (up_m rfl (u8 rfl s4_8))) (up_n (up_m rfl (u8 rfl s7_8))) (up_n (up_m rfl (u8 rfl s8_8))) (up_n (up_m rfl (u8 rfl s9_8))) (up_n up_h) ?_; clear s18_8 s2_8 s3_8 s4_8 s7_8 s8_8 s9_8; intro e_13 s2_13 s3_13 s4_13 s7_13 s8_13 s9_13 s10_13
     refine then_n <| aw_seq <| aw_seq <| at_ <| ar (ro_fld_ptr y59_fl39_1 rfl s10_13) rfl <| ar (ro_eq (ro_ld_ptr y59_ty3 rfl mon_7_12 up_h (nle rfl)) (by simp only [pS, Value.cells, Nat.reduceAdd, iE] <;> rfl)) rfl ?_
     refine ar (ro_fld_ptr y59_fl28_1 rfl (u2 rfl s4_13)) rfl <| ar (ro_eq (ro_ld_ptr y59_ty3 rfl mo1_12 up_h (nle rfl)) (by simp only [pS, Value.cells, Nat.reduceAdd, iE] <;> rfl)) rfl ?_
     (refine ar (ro_neg' up_h ?_) rfl ?_; · (unfold In64; omega))
     refine ar (ro_lss (up_m rfl (u2 rfl up_h)) up_h) rfl <| ar (ro_move up_h) rfl <| al_case up_h (fun hb_14 hq_14 => ?_) (fun hb_14 hq_14 => ?_)
     ·replace hq_14 := bt hq_14
      refine al_skip' ⟨_, rfl, .inl hb_14⟩ rfl ?_
      refine al_skip' ⟨_, rfl, .inl (up_m rfl hb_14)⟩ rfl ?_
      refine al_skip' ⟨_, rfl, .inl (u2 rfl hb_14)⟩ rfl ?_
      refine al_skip' ⟨_, rfl, .inl (up_m rfl (u2 rfl hb_14))⟩ rfl ?_
      refine al_skip' ⟨_, rfl, .inl (u4 rfl hb_14)⟩ rfl ?_
      refine ar (ro_pickT (up_m rfl (u4 rfl hb_14)) ev_c) rfl <| ae8 (up_m rfl (u4 rfl (u8 rfl s2_13))) (up_m rfl (u4 rfl (u8 rfl s3_13))) (up_m rfl (u4 rfl (u8 rfl s4_13))) (up_m rfl (u4 rfl (u8 rfl s7_13))) (up_m rfl (u4 rfl (u8 rfl s8_13))) (up_m rfl (u4 rfl (u8 rfl s9_13))) (up_m rfl (u4 rfl (u8 rfl s10_13))) up_h ?_; clear hb_14 s10_13 s2_13 s3_13 s4_13 s7_13 s8_13 s9_13; intro e_15 s2_15 s3_15 s4_15 s7_15 s8_15 s9_15 s10_15 s41_15
      refine then_n <| aw_true s41_15 <| aw_seq <| at_ <| ar (ro_assign ev_c) rfl <| ae1 up_h ?_; clear s10_15 s2_15 s3_15 s41_15 s4_15 s7_15 s8_15 s9_15; intro e_17 s6_17
      refine then_n <| aw_ret <| then_r <| block_r <| then_r <| then_r <| block_r <| then_r <| ret1 (.inr rfl) (by kernel_rfl) (resV_tmp s6_17) (.ro _ rfl) ?_
      clear s6_17 mon_7_12 mo1_12 mo0_12 ml_12
      (have hz := worL_zero (c := c) b1 ((ans_0 (by omega) d2).2 (by omega)); exact congrArg mA hz.symm)
     replace hq_14 := bf hq_14
     refine al_ro' (ro_fld_ptr y59_fl39_0 rfl (up_m rfl (u2 rfl (u4 rfl s10_13)))) ⟨_, rfl, hb_14⟩ rfl ?_
     refine al_ro' (ro_eq (ro_ld_ptr y59_ty3 rfl mon_7_12 up_h (nle rfl)) (by simp only [pS, Value.cells, Nat.reduceAdd, iE] <;> rfl)) ⟨_, rfl, (up_m rfl hb_14)⟩ rfl ?_
     refine al_ro' (ro_fld_ptr y59_fl28_1 rfl (up_m rfl (u8 rfl s4_13))) ⟨_, rfl, (u2 rfl hb_14)⟩ rfl ?_
     refine al_ro' (ro_eq (ro_ld_ptr y59_ty3 rfl mo1_12 up_h (nle rfl)) (by simp only [pS, Value.cells, Nat.reduceAdd, iE] <;> rfl)) ⟨_, rfl, (up_m rfl (u2 rfl hb_14))⟩ rfl ?_
     refine al_ro' (ro_gtr (u2 rfl up_h) up_h) ⟨_, rfl, (u4 rfl hb_14)⟩ rfl ?_
     refine ar (ro_pickF (up_m rfl (u4 rfl hb_14)) up_h) rfl <| ae8 (up_m rfl (u4 rfl (u8 rfl s2_13))) (up_m rfl (u4 rfl (u8 rfl s3_13))) (up_m rfl (u4 rfl (u8 rfl s4_13))) (up_m rfl (u4 rfl (u8 rfl s7_13))) (up_m rfl (u4 rfl (u8 rfl s8_13))) (up_m rfl (u4 rfl (u8 rfl s9_13))) (up_m rfl (u4 rfl (u8 rfl s10_13))) up_h ?_; clear hb_14 s10_13 s2_13 s3_13 s4_13 s7_13 s8_13 s9_13; intro e_18 s2_18 s3_18 s4_18 s7_18 s8_18 s9_18 s10_18 s41_18
     refine then_n <| aw_case s41_18 (fun hq_19 => ?_) (fun hq_19 => ?_)
     ·replace hq_19 := bt hq_19
      refine aw_seq <| at_ <| ar (ro_assign ev_c) rfl <| ae1 up_h ?_; clear s10_18 s2_18 s3_18 s41_18 s4_18 s7_18 s8_18 s9_18; intro e_20 s6_20
      refine then_n <| aw_ret <| then_r <| block_r <| then_r <| then_r <| block_r <| then_r <| ret1 (.inr rfl) (by kernel_rfl) (resV_tmp s6_20) (.ro _ rfl) ?_
      clear s6_20 mon_7_12 mo1_12 mo0_12 ml_12
      (have hz := worL_zero (c := c) b1 ((ans_0 (by omega) d2).2 (by omega)); exact congrArg mA hz.symm)
     replace hq_19 := bf hq_19
     refine aw_skip <| then_n <| aw_seq <| at_ <| ar (ro_eq (ro_ld_ptr y59_ty28 rfl mo1_12 s4_18 (nle rfl)) (by simp only [pS, Value.cells, Nat.reduceAdd, iE] <;> rfl)) rfl ?_
     refine ar (ro_eq (ro_ld_ptr y59_ty39 rfl mon_7_12 (up_m rfl s10_18) (nle rfl)) (by simp only [pS, Value.cells, Nat.reduceAdd, iE] <;> rfl)) rfl ?_
     refine ar (ro_call (evL_cons (up_m rfl up_h) (evL_cons up_h evL_nil)) rfl (inside0_ok L c u _ _ hv2.2.1) y59_hcf82) rfl <| ar (ro_not up_h) rfl <| ae7 (u4 rfl s2_18) (u4 rfl s3_18) (u4 rfl s4_18) (u4 rfl s7_18) (u4 rfl s8_18) (u4 rfl s9_18) up_h ?_; clear s10_18 s2_18 s3_18 s41_18 s4_18 s7_18 s8_18 s9_18; intro e_21 s2_21 s3_21 s4_21 s7_21 s8_21 s9_21 s45_21
     refine then_n <| aw_case s45_21 (fun hq_22 => ?_) (fun hq_22 => ?_)
     ·replace hq_22 := bnt hq_22
      refine at_ <| ar (ro_assign ev_c) rfl <| ae6 (up_m rfl s2_21) (up_m rfl s3_21) (up_m rfl s4_21) up_h (up_m rfl s8_21) (up_m rfl s9_21) ?_; clear s2_21 s3_21 s45_21 s4_21 s7_21 s8_21 s9_21; intro e_23 s2_23 s3_23 s4_23 s7_23 s8_23 s9_23
      refine block_n <| then_n <| at_ <| ar (ro_move s9_23) rfl ?_
      (refine ar (ro_add' up_h ev_c ?_) rfl ?_; · (unfold In64; omega))
      refine ar (ro_assign up_h) rfl <| ae6 (up_m rfl (u2 rfl s2_23)) (up_m rfl (u2 rfl s3_23)) (up_m rfl (u2 rfl s4_23)) (up_m rfl (u2 rfl s7_23)) (up_m rfl (u2 rfl s8_23)) up_h ?_; clear s2_23 s3_23 s4_23 s7_23 s8_23 s9_23; intro e_24 s2_24 s3_24 s4_24 s7_24 s8_24 s9_24
      refine then_n <| ⟨⟨_, _⟩, ⟨s9_24, s7_24, (s2_24.trans s2_6.symm), (s3_24.trans s3_6.symm), (s4_24.trans s4_6.symm), (s8_24.trans s8_6.symm), (mo1_12.trans mo1_2.symm), (mo0_12.trans mo0_2.symm), ⟨_, ml_12, by omega⟩, ?_⟩, ?_⟩
      · (have wm := worL_may (c := c) (by omega) b1 d2 (by omega) (by omega) (by omega); refine ⟨by omega, by omega, by omega, ?_⟩; rw [show (i + 1).toNat = i.toNat + 1 by omega, wm]; first | (rw [if_pos (by assumption)]; exact i4) | (rw [if_neg (by assumption)]))
      · ((try dsimp only); omega)
     replace hq_22 := bnf hq_22
     refine aw_skip <| block_n <| then_n <| at_ <| ar (ro_move s9_21) rfl ?_
     (refine ar (ro_add' up_h ev_c ?_) rfl ?_; · (unfold In64; omega))
     refine ar (ro_assign up_h) rfl <| ae6 (up_m rfl (u2 rfl s2_21)) (up_m rfl (u2 rfl s3_21)) (up_m rfl (u2 rfl s4_21)) (up_m rfl (u2 rfl s7_21)) (up_m rfl (u2 rfl s8_21)) up_h ?_; clear s2_21 s3_21 s45_21 s4_21 s7_21 s8_21 s9_21; intro e_25 s2_25 s3_25 s4_25 s7_25 s8_25 s9_25
     refine then_n <| ⟨⟨_, _⟩, ⟨s9_25, s7_25, (s2_25.trans s2_6.symm), (s3_25.trans s3_6.symm), (s4_25.trans s4_6.symm), (s8_25.trans s8_6.symm), (mo1_12.trans mo1_2.symm), (mo0_12.trans mo0_2.symm), ⟨_, ml_12, by omega⟩, ?_⟩, ?_⟩
     · (have wm := worL_may (c := c) (by omega) b1 d2 (by omega) (by omega) (by omega); refine ⟨by omega, by omega, by omega, ?_⟩; rw [show (i + 1).toNat = i.toNat + 1 by omega, wm]; first | (rw [if_pos (by assumption)]; exact i4) | (rw [if_neg (by assumption)]))
     · ((try dsimp only); omega)
    replace hq_9 := bf hq_9
    refine aw_exit <| then_x <| then_x <| block_hit <| then_n <| aw_seq <| at_ <| ar (ro_move s7_8) rfl <| ar (ro_assign up_h) rfl <| ae1 up_h ?_; clear s18_8 s2_8 s3_8 s4_8 s7_8 s8_8 s9_8; intro e_26 s6_26
    refine then_n <| aw_ret <| ret1 (.inr rfl) (by kernel_rfl) (resV_tmp s6_26) (.ro _ rfl) ?_
    clear s6_26 mo1_7 mo0_7 ml_7
    (rw [i4, show i.toNat = (benL l L p).length by omega, List.take_length])
set_option maxRecDepth 100000 in
set_option maxHeartbeats 4000000 in
theorem rFirstUnclear_ok (l : Lin) (h : Rgt l) (L c u : Int) (hv : vehE L c u = 0) : FnOk Try.prog 20 [lnA l, vehA L c u] (fun q => q = .tuple [unA l L (fcA l L c u), tbA (fcA l L c u).isSome]) := by
  refine fnOk_of (fn := Try.f20) 51 (by kernel_rfl) rfl (by kernel_rfl) (Nat.le_of_ble_eq_true rfl) ?_
  intro e_0 m_0 hA hm_0
  have s0_0 : evA e_0 (.tmp 0) = _ := hA 0 _ rfl
  have s1_0 : evA e_0 (.tmp 1) = _ := hA 1 _ rfl
  have ml_0 : m_0.length = 0 := by rw [hm_0]; rfl
  clear hA hm_0
  have hv2 := vehE_z.1 hv; have hpb := h.pla (n := l.bs.length) (Nat.le_refl _); have hjs := h.js; have hn1 := h.n1; have hn0 := h.n0
  refine aw_seq <| at_ <| al_stm (st_box s0_0 rfl ml_0) trivial rfl (fun m_1 hm_1 => ?_)
  have mo0_1 := m_push hm_1 ml_0
  have ml_1 := m_push_l hm_1 ml_0
  have ml_1 : _ = 1 := ml_1
  clear hm_1
  refine al_stm (st_box (up_m rfl s1_0) rfl ml_1) trivial rfl (fun m_2 hm_2 => ?_)
  have mo1_2 := m_push hm_2 ml_1
  have mo0_2 := m_push_o hm_2 mo0_1
  have ml_2 := m_push_l hm_2 ml_1
  have ml_2 : _ = 2 := ml_2
  clear hm_2 mo0_1
  refine al_stm (st_alloc y59_az41 rfl ml_2) trivial rfl (fun m_3 hm_3 => ?_)
  have mo2_3 := m_push hm_3 ml_2
  simp only [pS, Value.cells, Nat.reduceAdd, iE] at mo2_3
  have mo1_3 := m_push_o hm_3 mo1_2
  have mo0_3 := m_push_o hm_3 mo0_2
  have ml_3 := m_push_l hm_3 ml_2
  have ml_3 : _ = 3 := ml_3
  clear hm_3 mo1_2 mo0_2
  refine ar (ro_assign ev_c) rfl <| ae3 (up_m rfl (u2 rfl up_h)) (u2 rfl up_h) (up_m rfl up_h) ?_; clear s0_0 s1_0; intro e_4 s2_4 s3_4 s4_4
  refine then_n <| aw_seq <| aw_seq <| at_ <| ar (ro_assign ev_c) rfl <| ae4 (up_m rfl s2_4) (up_m rfl s3_4) (up_m rfl s4_4) up_h ?_; clear s2_4 s3_4 s4_4; intro e_5 s2_5 s3_5 s4_5 s6_5
  refine then_n <| aw_block <| aw_loop (S := (Int × Nat)) (fun s e mem => match s with | ⟨p, k⟩ => (evA e (.tmp 6) = .v (.int .i64 p)) ∧ (evA e (.tmp 2) = evA e_5 (.tmp 2)) ∧ (evA e (.tmp 3) = evA e_5 (.tmp 3)) ∧ (evA e (.tmp 4) = evA e_5 (.tmp 4)) ∧ (mem[2]? = m_3[2]?) ∧ (mem[1]? = m_3[1]?) ∧ (mem[0]? = m_3[0]?) ∧ (∃ n, mem.length = n ∧ 3 ≤ n) ∧ ((p = (k : Int) * u ∧ 0 ≤ p ∧ p ≤ 1300000 ∧ fuK l L c u k = none))) (fun s => match s with | ⟨p, k⟩ => (1300000 - p).toNat) ⟨_, 0⟩ ⟨s6_5, rfl, rfl, rfl, rfl, rfl, rfl, ⟨_, ml_3, Nat.le_refl _⟩, ?_⟩ ?_
  · (exact ⟨by omega, by omega, by omega, rfl⟩)
  · rintro ⟨p, k⟩ e_6 m_6 ⟨s6_6, k2_6, k3_6, k4_6, mk2_6, mk1_6, mk0_6, ⟨n_6, ml_6, hn_6⟩, hinv⟩
    have s2_6 := k2_6.trans s2_5
    have s3_6 := k3_6.trans s3_5
    have s4_6 := k4_6.trans s4_5
    have mo2_6 := mk2_6.trans mo2_3
    have mo1_6 := mk1_6.trans mo1_3
    have mo0_6 := mk0_6.trans mo0_3
    (obtain ⟨p1, p2, p3, p4⟩ := hinv; subst p1; have bl := benP_len (l := l) (L := L) (p := (k : Int) * u) (n := l.js.length); have bl2 := benP_len2 (l := l) (L := L) (p := (k : Int) * u))
    refine aw_seq <| aw_seq <| aw_draw 7 (by kernel_rfl) (by kernel_rfl) (by kernel_rfl) (by kernel_rfl) ?_
    refine dr (ro_move s6_6) rfl <| dr (ro_fld_ptr y59_fl28_0 rfl (up_m rfl s3_6)) rfl <| dr (ro_eq (ro_ld_ptr y59_ty3 rfl mo1_6 up_h (nle rfl)) (by simp only [pS, Value.cells, Nat.reduceAdd, iE] <;> rfl)) rfl ?_
    (refine dr (ro_add' (u2 rfl up_h) up_h ?_) rfl ?_; · (unfold In64; omega))
    refine dr (ro_eq (ro_ld_ptr y59_ty26 rfl mo0_6 (u4 rfl s2_6) (nle rfl)) (by simp only [pS, Value.cells, Nat.reduceAdd, iE] <;> rfl)) rfl ?_
    refine dr (ro_call (evL_cons up_h evL_nil) rfl (rLengthOf_ok l (by omega) (fun j hj => by have := h.bea j hj; omega)) y59_hcf42) rfl ?_
    refine dr (ro_leq (u2 rfl up_h) up_h) rfl <| ds_nil <| ae5 (up_m rfl (u2 rfl (u4 rfl s2_6))) (up_m rfl (u2 rfl (u4 rfl s3_6))) (up_m rfl (u2 rfl (u4 rfl s4_6))) (up_m rfl (u2 rfl (u4 rfl s6_6))) up_h ?_; clear s2_6 s3_6 s4_6 s6_6; intro e_7 s2_7 s3_7 s4_7 s6_7 s16_7
    refine then_n <| aw_case s16_7 (fun hq_8 => ?_) (fun hq_8 => ?_)
    ·replace hq_8 := bt hq_8
     refine aw_skip <| then_n <| aw_seq <| aw_block <| aw_seq <| at_ <| ar (ro_eq (ro_ld_ptr y59_ty26 rfl mo0_6 s2_7 (nle rfl)) (by simp only [pS, Value.cells, Nat.reduceAdd, iE] <;> rfl)) rfl ?_
     refine ar (ro_eq (ro_ld_ptr y59_ty28 rfl mo1_6 (up_m rfl s3_7) (nle rfl)) (by simp only [pS, Value.cells, Nat.reduceAdd, iE] <;> rfl)) rfl ?_
     refine ar (ro_move (u2 rfl s6_7)) rfl <| ar (ro_call (evL_cons (u2 rfl up_h) (evL_cons (up_m rfl up_h) (evL_cons up_h evL_nil))) rfl (rBeneath_ok l h L c u _ (by omega) (by omega)) y59_hcf80) rfl ?_
     refine ar (ro_assign up_h) rfl <| ae5 (up_m rfl (u4 rfl s2_7)) (up_m rfl (u4 rfl s3_7)) (up_m rfl (u4 rfl s4_7)) (up_m rfl (u4 rfl s6_7)) up_h ?_; clear s16_7 s2_7 s3_7 s4_7 s6_7; intro e_9 s2_9 s3_9 s4_9 s6_9 s7_9
     refine then_n <| aw_seq <| at_ <| ar (ro_assign ev_c) rfl <| ae6 (up_m rfl s2_9) (up_m rfl s3_9) (up_m rfl s4_9) (up_m rfl s6_9) (up_m rfl s7_9) up_h ?_; clear s2_9 s3_9 s4_9 s6_9 s7_9; intro e_10 s2_10 s3_10 s4_10 s6_10 s7_10 s8_10
     refine then_n <| aw_block <| aw_loop (S := Int) (fun i e mem => (evA e (.tmp 8) = .v (.int .i64 i)) ∧ (evA e (.tmp 2) = evA e_10 (.tmp 2)) ∧ (evA e (.tmp 3) = evA e_10 (.tmp 3)) ∧ (evA e (.tmp 4) = evA e_10 (.tmp 4)) ∧ (evA e (.tmp 6) = evA e_10 (.tmp 6)) ∧ (evA e (.tmp 7) = evA e_10 (.tmp 7)) ∧ (mem[2]? = m_6[2]?) ∧ (mem[1]? = m_6[1]?) ∧ (mem[0]? = m_6[0]?) ∧ (∃ n, mem.length = n ∧ n_6 ≤ n) ∧ ((0 ≤ i ∧ i ≤ (benP l L ((k : Int) * u) l.js.length).length ∧ fuI l L c ((k : Int) * u) i.toNat = none))) (fun i => ((benP l L ((k : Int) * u) l.js.length).length - i).toNat) _ ⟨s8_10, rfl, rfl, rfl, rfl, rfl, rfl, rfl, rfl, ⟨_, ml_6, Nat.le_refl _⟩, ?_⟩ ?_
     · (exact ⟨by omega, by omega, rfl⟩)
     · rintro i e_11 m_11 ⟨s8_11, k2_11, k3_11, k4_11, k6_11, k7_11, mk2_11, mk1_11, mk0_11, ⟨n_11, ml_11, hn_11⟩, hinv⟩
       have s2_11 := k2_11.trans s2_10
       have s3_11 := k3_11.trans s3_10
       have s4_11 := k4_11.trans s4_10
       have s6_11 := k6_11.trans s6_10
       have s7_11 := k7_11.trans s7_10
       have mo2_11 := mk2_11.trans mo2_6
       have mo1_11 := mk1_11.trans mo1_6
       have mo0_11 := mk0_11.trans mo0_6
       (obtain ⟨i1, i2, i3⟩ := hinv)
       refine aw_seq <| aw_seq <| at_ <| ar (ro_move s8_11) rfl <| ar (ro_move (up_m rfl s7_11)) rfl <| ar (ro_eq (ro_len_row up_h rfl y59_sl49.1) (by simp only [lnS] <;> rfl)) rfl ?_
       refine ar (ro_lss (u2 rfl up_h) up_h) rfl <| ae7 (u4 rfl s2_11) (u4 rfl s3_11) (u4 rfl s4_11) (u4 rfl s6_11) (u4 rfl s7_11) (u4 rfl s8_11) up_h ?_; clear s2_11 s3_11 s4_11 s6_11 s7_11 s8_11; intro e_12 s2_12 s3_12 s4_12 s6_12 s7_12 s8_12 s28_12
       refine then_n <| aw_case s28_12 (fun hq_13 => ?_) (fun hq_13 => ?_)
       ·replace hq_13 := bt hq_13
        (obtain ⟨n0, b0, b1, b2, b3, b4⟩ := benP_at (l := l) (L := L) (p := (k : Int) * u) (i := i.toNat) (by omega); have q0 := ben_pos hv2.1 (by omega) b2 b3 b4; obtain ⟨d1, d2, d3⟩ := (NarL.refl h).dev h q0)
        refine aw_skip <| then_n <| aw_seq <| aw_block <| aw_seq <| aw_drawK 9 1 ml_11 (by kernel_rfl) (by kernel_rfl) (by kernel_rfl) (by kernel_rfl) (fun m_14 hm_14 => ?_)
        have mo2_14 := m_room_o hm_14 mo2_11
        have mo1_14 := m_room_o hm_14 mo1_11
        have mo0_14 := m_room_o hm_14 mo0_11
        have mon_11_14 : m_14[n_11]? = _ := m_room_g hm_14 ml_11 0 rfl rfl
        have ml_14 : _ = n_11 + 1 := m_room_l (K := 1) hm_14 ml_11
        clear hm_14 mo2_11 mo1_11 mo0_11 ml_11
        refine dh_ld (0) (fun M_ hM_ => (ro_eq (ro_ld_ptr y59_ty26 rfl (agr hM_ mo0_14 (by simp)) s2_12 (nle rfl)) (by simp only [pS, Value.cells, Nat.reduceAdd, iE] <;> rfl))) trivial trivial ?_
        refine dh_ld (1) (fun M_ hM_ => (ro_eq (ro_ld_ptr y59_ty28 rfl (agr hM_ mo1_14 (by simp)) (up_m rfl s3_12) (nle rfl)) (by simp only [pS, Value.cells, Nat.reduceAdd, iE] <;> rfl))) trivial trivial ?_
        refine dh_ro (fun M_ hM_ => (ro_move (u2 rfl s6_12))) trivial ?_
        refine dh_ro (fun M_ hM_ => (ro_move (up_m rfl (u2 rfl s7_12)))) trivial ?_
        refine dh_ro (fun M_ hM_ => (ro_move (u4 rfl s8_12))) trivial ?_
        refine dh_ro (fun M_ hM_ => (ro_eq (ro_ix y59_sl49 (up_m rfl up_h) up_h (by omega) (by first | (refine idx_map ?_; first | omega | (simp only [lnS]; omega)) | (refine idx_mapI ?_; first | omega | (simp only [lnS]; omega)) | (refine idx_mapN ?_; first | omega | (simp only [lnS]; omega)) | rfl)) (by simp only [pS, Value.cells, Nat.reduceAdd, iE] <;> rfl))) trivial ?_
        refine dh_ro (fun M_ hM_ => (ro_eq (ro_ld_ref y59_ty3 rfl up_h (nle rfl)) (by simp only [pS, Value.cells, Nat.reduceAdd, iE] <;> rfl))) trivial ?_
        refine dh_ro (fun M_ hM_ => (ro_call (evL_cons (u2 rfl (u4 rfl up_h)) (evL_cons (up_m rfl (u4 rfl up_h)) (evL_cons (u4 rfl up_h) (evL_cons up_h evL_nil)))) rfl ((by have := rDeviationAt_ok l h L c u _ n0 q0; rw [b0]; exact this)) y59_hcf81)) trivial ?_
        refine dh_nw (n_11) (fun M_ hM_ => (nw_alloc y59_az39 rfl)) trivial mon_11_14 rfl trivial ⟨.inl (by simp <;> omega), ⟨.inl (by simp <;> omega), trivial⟩⟩ (fun m_15 hm_15 => ?_)
        have mon_11_15 := m_set hm_15 mon_11_14
        simp only [pS, Value.cells, Nat.reduceAdd, iE] at mon_11_15
        have mo2_15 := m_set_o hm_15 mo2_14 (by omega)
        have mo1_15 := m_set_o hm_15 mo1_14 (by omega)
        have mo0_15 := m_set_o hm_15 mo0_14 (by omega)
        have ml_15 := m_set_l hm_15 ml_14
        clear hm_15 mo2_14 mo1_14 mo0_14 mon_11_14
        refine dh_nil rfl ?_
        refine al_stm (st_store up_h (up_m rfl up_h) rfl rfl mon_11_15 y59_sz39 rfl (nle rfl)) trivial rfl (fun m_16 hm_16 => ?_)
        have mon_11_16 := m_set hm_16 mon_11_15
        simp only [pS, Value.cells, Nat.reduceAdd, iE] at mon_11_16
        have mo2_16 := m_set_o hm_16 mo2_15 (by omega)
        have mo1_16 := m_set_o hm_16 mo1_15 (by omega)
        have mo0_16 := m_set_o hm_16 mo0_15 (by omega)
        have ml_16 := m_set_l hm_16 ml_15
        clear hm_16 mon_11_15 mo2_15 mo1_15 mo0_15
        refine ae7 (up_n (up_m rfl (u8 rfl s2_12))) (up_n (up_m rfl (u8 rfl s3_12))) (up_n (up_m rfl (u8 rfl s4_12))) (up_n (up_m rfl (u8 rfl s6_12))) (up_n (up_m rfl (u8 rfl s7_12))) (up_n (up_m rfl (u8 rfl s8_12))) (up_n up_h) ?_; clear s28_12 s2_12 s3_12 s4_12 s6_12 s7_12 s8_12; intro e_17 s2_17 s3_17 s4_17 s6_17 s7_17 s8_17 s9_17
        refine then_n <| aw_seq <| at_ <| ar (ro_eq (ro_ld_ptr y59_ty28 rfl mo1_16 s3_17 (nle rfl)) (by simp only [pS, Value.cells, Nat.reduceAdd, iE] <;> rfl)) rfl ?_
        refine ar (ro_eq (ro_ld_ptr y59_ty39 rfl mon_11_16 (up_m rfl s9_17) (nle rfl)) (by simp only [pS, Value.cells, Nat.reduceAdd, iE] <;> rfl)) rfl ?_
        refine ar (ro_call (evL_cons (up_m rfl up_h) (evL_cons up_h evL_nil)) rfl (inside0_ok L c u _ _ hv2.2.1) y59_hcf82) rfl <| ar (ro_not up_h) rfl <| ae8 (u4 rfl s2_17) (u4 rfl s3_17) (u4 rfl s4_17) (u4 rfl s6_17) (u4 rfl s7_17) (u4 rfl s8_17) (u4 rfl s9_17) up_h ?_; clear s2_17 s3_17 s4_17 s6_17 s7_17 s8_17 s9_17; intro e_18 s2_18 s3_18 s4_18 s6_18 s7_18 s8_18 s9_18 s42_18
        refine then_n <| aw_case s42_18 (fun hq_19 => ?_) (fun hq_19 => ?_)
        ·replace hq_19 := bnt hq_19
         refine aw_seq <| aw_draw 7 (by kernel_rfl) (by kernel_rfl) (by kernel_rfl) (by kernel_rfl) ?_
         refine dr (ro_move s6_18) rfl <| dr (ro_move (up_m rfl s7_18)) rfl <| dr (ro_move (u2 rfl s8_18)) rfl <| dr (ro_eq (ro_ix y59_sl49 (up_m rfl up_h) up_h (by omega) (by first | (refine idx_map ?_; first | omega | (simp only [lnS]; omega)) | (refine idx_mapI ?_; first | omega | (simp only [lnS]; omega)) | (refine idx_mapN ?_; first | omega | (simp only [lnS]; omega)) | rfl)) (by simp only [pS, Value.cells, Nat.reduceAdd, iE] <;> rfl)) rfl ?_
         refine dr (ro_eq (ro_ld_ref y59_ty3 rfl up_h (nle rfl)) (by simp only [pS, Value.cells, Nat.reduceAdd, iE] <;> rfl)) rfl ?_
         refine dr (ro_eq (ro_ld_ptr y59_ty39 rfl mon_11_16 (up_m rfl (u4 rfl s9_18)) (nle rfl)) (by simp only [pS, Value.cells, Nat.reduceAdd, iE] <;> rfl)) rfl ?_
         refine dr (ro_build (evP_cons (up_m rfl (u4 rfl up_h)) (evP_cons (up_m rfl up_h) (evP_cons up_h evP_nil))) y59_bz41 y59_bu41 y59_bp41 rfl) rfl ?_
         refine ds_nil <| al_stm (st_store (up_m rfl (u2 rfl (u4 rfl s4_18))) up_h rfl rfl mo2_16 y59_sz41 rfl (nle rfl)) trivial rfl (fun m_20 hm_20 => ?_)
         have mo2_20 := m_set hm_20 mo2_16
         simp only [pS, Value.cells, Nat.reduceAdd, iE] at mo2_20
         have mon_11_20 := m_set_o hm_20 mon_11_16 (by omega)
         have mo1_20 := m_set_o hm_20 mo1_16 (by decide)
         have mo0_20 := m_set_o hm_20 mo0_16 (by decide)
         have ml_20 := m_set_l hm_20 ml_16
         clear hm_20 mon_11_16 mo2_16 mo1_16 mo0_16
         refine ar (ro_assign ev_c) rfl <| ae2 (up_m rfl (up_n (up_m rfl (u2 rfl (u4 rfl s4_18))))) up_h ?_; clear s2_18 s3_18 s42_18 s4_18 s6_18 s7_18 s8_18 s9_18; intro e_21 s4_21 s5_21
         refine then_n <| aw_ret <| block_r <| then_r <| then_r <| block_r <| block_r <| then_r <| then_r <| block_r <| then_r <| ret2 (.inr rfl) (by kernel_rfl) (resV_cell s4_21 mo2_20 y59_ty41 (nle rfl) (by simp)) (resV_tmp s5_21) (vw_r (.ro _ rfl)) (.ro _ rfl) ?_
         clear s4_21 s5_21 mo2_20 mon_11_20 mo1_20 mo0_20 ml_20
         (have hA : fcA l L c u = some ((k : Int) * u, n0) := fuK_hit p4 (fuI_hit b1 i3 (unB_ans.2 (fun hc => absurd (ans_2.1 hc) (by assumption)))) ((pos_lt (by omega) k).2 (by omega)); rw [hA, b0]; rfl)
        replace hq_19 := bnf hq_19
        refine aw_skip <| block_n <| then_n <| at_ <| ar (ro_move s8_18) rfl ?_
        (refine ar (ro_add' up_h ev_c ?_) rfl ?_; · (unfold In64; omega))
        refine ar (ro_assign up_h) rfl <| ae6 (up_m rfl (u2 rfl s2_18)) (up_m rfl (u2 rfl s3_18)) (up_m rfl (u2 rfl s4_18)) (up_m rfl (u2 rfl s6_18)) (up_m rfl (u2 rfl s7_18)) up_h ?_; clear s2_18 s3_18 s42_18 s4_18 s6_18 s7_18 s8_18 s9_18; intro e_22 s2_22 s3_22 s4_22 s6_22 s7_22 s8_22
        refine then_n <| ⟨_, ⟨s8_22, (s2_22.trans s2_10.symm), (s3_22.trans s3_10.symm), (s4_22.trans s4_10.symm), (s6_22.trans s6_10.symm), (s7_22.trans s7_10.symm), (mo2_16.trans mo2_6.symm), (mo1_16.trans mo1_6.symm), (mo0_16.trans mo0_6.symm), ⟨_, ml_16, by omega⟩, ?_⟩, ?_⟩
        · (refine ⟨by omega, by omega, ?_⟩; rw [show (i + 1).toNat = i.toNat + 1 by omega]; exact fuI_next b1 i3 (unB_no (ans_2.2 (by assumption))))
        · ((try dsimp only); omega)
       replace hq_13 := bf hq_13
       refine aw_exit <| then_x <| then_x <| block_hit <| block_n <| then_n <| at_ <| ar (ro_move s6_12) rfl <| ar (ro_fld_ptr y59_fl28_2 rfl (up_m rfl s3_12)) rfl <| ar (ro_eq (ro_ld_ptr y59_ty3 rfl mo1_11 up_h (nle rfl)) (by simp only [pS, Value.cells, Nat.reduceAdd, iE] <;> rfl)) rfl ?_
       (refine ar (ro_add' (u2 rfl up_h) up_h ?_) rfl ?_; · (unfold In64; omega))
       refine ar (ro_assign up_h) rfl <| ae4 (up_m rfl (u4 rfl s2_12)) (up_m rfl (u4 rfl s3_12)) (up_m rfl (u4 rfl s4_12)) up_h ?_; clear s28_12 s2_12 s3_12 s4_12 s6_12 s7_12 s8_12; intro e_23 s2_23 s3_23 s4_23 s6_23
       refine then_n <| ⟨⟨_, k + 1⟩, ⟨s6_23, (s2_23.trans s2_5.symm), (s3_23.trans s3_5.symm), (s4_23.trans s4_5.symm), (mo2_11.trans mo2_3.symm), (mo1_11.trans mo1_3.symm), (mo0_11.trans mo0_3.symm), ⟨_, ml_11, by omega⟩, ?_⟩, ?_⟩
       · (refine ⟨(pos_suc k u).symm, by omega, by omega, fuK_next p4 ?_⟩; rw [show (benL l L ((k : Int) * u)).length = i.toNat by omega]; exact i3)
       · ((try dsimp only); omega)
    replace hq_8 := bf hq_8
    refine aw_exit <| then_x <| then_x <| block_hit <| then_n <| aw_seq <| at_ <| ar (ro_build evP_nil y59_bz41 y59_bu41 y59_bp41 rfl) rfl ?_
    refine al_stm (st_store (up_m rfl s4_7) up_h rfl rfl mo2_6 y59_sz41 rfl (nle rfl)) trivial rfl (fun m_24 hm_24 => ?_)
    have mo2_24 := m_set hm_24 mo2_6
    simp only [pS, Value.cells, Nat.reduceAdd, iE] at mo2_24
    have mo1_24 := m_set_o hm_24 mo1_6 (by decide)
    have mo0_24 := m_set_o hm_24 mo0_6 (by decide)
    have ml_24 := m_set_l hm_24 ml_6
    clear hm_24 mo2_6 mo1_6 mo0_6
    refine ar (ro_assign ev_c) rfl <| ae2 (up_m rfl (up_n (up_m rfl s4_7))) up_h ?_; clear s16_7 s2_7 s3_7 s4_7 s6_7; intro e_25 s4_25 s5_25
    refine then_n <| aw_ret <| ret2 (.inr rfl) (by kernel_rfl) (resV_cell s4_25 mo2_24 y59_ty41 (nle rfl) (by simp)) (resV_tmp s5_25) (vw_r (.ro _ rfl)) (.ro _ rfl) ?_
    clear s4_25 s5_25 mo2_24 mo1_24 mo0_24 ml_24
    (rw [fcA_none (by omega) p4 (by omega)]; rfl)
end Go.Proofs.Ytonjcljnpcmenaa

/- The law of chapter 1 on poses. No conditions on a program. -/
namespace Go.Proofs.Ytonjcljnpcmenaa
open Go Go.RowKit Go.Proofs
set_option linter.unusedSimpArgs false
set_option linter.unusedVariables false
theorem y63_az124 : (Try.prog.info? 124).bind (·.zero) = some (.pointer none) := by kernel_rfl
theorem y63_az34 : (Try.prog.info? 34).bind (·.zero) = some (.int .i64 0) := by kernel_rfl
theorem y63_az41 : (Try.prog.info? 41).bind (·.zero) = some (.agg #[.int .i64 0, .int .i64 0, .int .i64 0, .int .i64 0]) := by kernel_rfl
theorem y63_bz41 : (Try.prog.info? 41).bind (·.zero) = some (.agg #[.int .i64 0, .int .i64 0, .int .i64 0, .int .i64 0]) := by kernel_rfl
theorem y63_bu41 : Try.prog.underlying 41 = some (.struct (fsOf Try.prog 41)) := by kernel_rfl
theorem y63_bp41 : ∀ w, ((fsOf Try.prog 41).mapM fun f => Prod.mk f.offset <$> sizeOf f.type : Sem (Array (Nat × Nat))).run Try.prog w = .ok (#[(0, 1), (1, 1), (2, 2)]) w := fun _ => by kernel_rfl
theorem y63_hcf12 : ∀ args w, (callFunc 12 args).run Try.prog w = .ok (.enter 12 args) w := fun _ _ => by kernel_rfl
theorem y63_hcf13 : ∀ args w, (callFunc 13 args).run Try.prog w = .ok (.enter 13 args) w := fun _ _ => by kernel_rfl
theorem y63_hcf14 : ∀ args w, (callFunc 14 args).run Try.prog w = .ok (.enter 14 args) w := fun _ _ => by kernel_rfl
theorem y63_hcf15 : ∀ args w, (callFunc 15 args).run Try.prog w = .ok (.enter 15 args) w := fun _ _ => by kernel_rfl
theorem y63_hcf16 : ∀ args w, (callFunc 16 args).run Try.prog w = .ok (.enter 16 args) w := fun _ _ => by kernel_rfl
theorem y63_hcf17 : ∀ args w, (callFunc 17 args).run Try.prog w = .ok (.enter 17 args) w := fun _ _ => by kernel_rfl
theorem y63_hcf18 : ∀ args w, (callFunc 18 args).run Try.prog w = .ok (.enter 18 args) w := fun _ _ => by kernel_rfl
theorem y63_hcf19 : ∀ args w, (callFunc 19 args).run Try.prog w = .ok (.enter 19 args) w := fun _ _ => by kernel_rfl
theorem y63_hcf20 : ∀ args w, (callFunc 20 args).run Try.prog w = .ok (.enter 20 args) w := fun _ _ => by kernel_rfl
theorem y63_hcf21 : ∀ args w, (callFunc 21 args).run Try.prog w = .ok (.enter 21 args) w := fun _ _ => by kernel_rfl
theorem y63_hcf22 : ∀ args w, (callFunc 22 args).run Try.prog w = .ok (.enter 22 args) w := fun _ _ => by kernel_rfl
theorem y63_hcf76 : ∀ args w, (callFunc 76 args).run Try.prog w = .ok (.enter 76 args) w := fun _ _ => by kernel_rfl
theorem y63_hcf77 : ∀ args w, (callFunc 77 args).run Try.prog w = .ok (.enter 77 args) w := fun _ _ => by kernel_rfl
theorem y63_hcf78 : ∀ args w, (callFunc 78 args).run Try.prog w = .ok (.enter 78 args) w := fun _ _ => by kernel_rfl
theorem y63_sl185 : SlIs Try.prog 185 34 1 8 (.int .i64 0) := ⟨by kernel_rfl, by kernel_rfl, by kernel_rfl⟩
theorem y63_gq41 : Try.prog.eqGuardType Try.prog.depth 41 = false := by kernel_rfl
theorem y63_sq41 {a0 b0 : Int} {a1 b1 : Int} {a2 b2 : Int} {a3 b3 : Int} : EqV Try.prog 3 41 (.agg #[.int .i64 a0, .int .i64 a1, .int .i64 a2, .int .i64 a3]) (.agg #[.int .i64 b0, .int .i64 b1, .int .i64 b2, .int .i64 b3]) (decide (a0 = b0) && (decide (a1 = b1) && ((decide (a2 = b2) && (decide (a3 = b3) && true)) && true))) := (eqs_struct [(3, 0), (3, 1), (39, 2)] (by kernel_rfl) (by kernel_rfl) (by kernel_rfl) (by kernel_rfl) (.cons (fun _ => by kernel_rfl) (fun _ => by kernel_rfl) (EqV.up (eqv_int (k := .i64) (k' := .i64) (by kernel_rfl) a0 b0) 1) (.cons (fun _ => by kernel_rfl) (fun _ => by kernel_rfl) (EqV.up (eqv_int (k := .i64) (k' := .i64) (by kernel_rfl) a1 b1) 1) (.cons (x := .agg #[.int .i64 a2, .int .i64 a3]) (y := .agg #[.int .i64 b2, .int .i64 b3]) (fun _ => by kernel_rfl) (fun _ => by kernel_rfl) (eqs_struct [(3, 0), (3, 1)] (by kernel_rfl) (by kernel_rfl) (by kernel_rfl) (by kernel_rfl) (.cons (fun _ => by kernel_rfl) (fun _ => by kernel_rfl) (eqv_int (k := .i64) (k' := .i64) (by kernel_rfl) a2 b2) (.cons (fun _ => by kernel_rfl) (fun _ => by kernel_rfl) (eqv_int (k := .i64) (k' := .i64) (by kernel_rfl) a3 b3) .nil))) .nil))))
theorem y63_sz124 : (Try.prog.info? 124).map (·.size) = some 1 := by kernel_rfl
theorem y63_sz34 : (Try.prog.info? 34).map (·.size) = some 1 := by kernel_rfl
theorem y63_sz41 : (Try.prog.info? 41).map (·.size) = some 4 := by kernel_rfl
theorem y63_ty26 : TyIs Try.prog 26 true 4 := ⟨by kernel_rfl, by kernel_rfl⟩
theorem y63_ty28 : TyIs Try.prog 28 true 3 := ⟨by kernel_rfl, by kernel_rfl⟩
theorem y63_ty34 : TyIs Try.prog 34 false 1 := ⟨by kernel_rfl, by kernel_rfl⟩
theorem y63_ty41 : TyIs Try.prog 41 true 4 := ⟨by kernel_rfl, by kernel_rfl⟩

theorem clearAt_any (l : Lin) (hl : Sho l) (hg : (linM l).2 = 0) (L c u p : Int) (hv : vehE L c u = 0) : FnOk Try.prog 17 [lnA l, vehA L c u, mA p] (fun q => q = .tuple [mA (if posE l L u p = 0 then worL l L c p (benL l L p) else 0), mA (posE l L u p)]) := by
  by_cases hp : posE l L u p = 0
  · exact (clearAt_good l hl hg L c u p hv hp).mono fun q h => by rw [h, hp, if_pos rfl]
  · exact (clearAt_pos l hl hg L c u p hv hp).mono fun q h => by rw [h, if_neg hp]
set_option maxRecDepth 100000 in
set_option maxHeartbeats 4000000 in
theorem firstUnclear_bad (l : Lin) (hl : Sho l) (hb : (linM l).2 ≠ 0) (L c u : Int) : FnOk Try.prog 19 [lnA l, vehA L c u] (fun q => q = .tuple [.agg [mA 0, mA 0, mA 0, mA 0], mA (linM l).2]) := by
  refine fnOk_of (fn := Try.f19) 48 (by kernel_rfl) rfl (by kernel_rfl) (Nat.le_of_ble_eq_true rfl) ?_
  intro e_0 m_0 hA hm_0
  have s0_0 : evA e_0 (.tmp 0) = _ := hA 0 _ rfl
  have s1_0 : evA e_0 (.tmp 1) = _ := hA 1 _ rfl
  have ml_0 : m_0.length = 0 := by rw [hm_0]; rfl
  clear hA hm_0
  have hf : firstE [(linM l).2, vehE L c u] = (linM l).2 := (by simp [firstE, hb])
  refine aw_seq <| at_ <| al_stm (st_box s0_0 rfl ml_0) trivial rfl (fun m_1 hm_1 => ?_)
  have mo0_1 := m_push hm_1 ml_0
  have ml_1 := m_push_l hm_1 ml_0
  have ml_1 : _ = 1 := ml_1
  clear hm_1
  refine al_stm (st_box (up_m rfl s1_0) rfl ml_1) trivial rfl (fun m_2 hm_2 => ?_)
  have mo1_2 := m_push hm_2 ml_1
  have mo0_2 := m_push_o hm_2 mo0_1
  have ml_2 := m_push_l hm_2 ml_1
  have ml_2 : _ = 2 := ml_2
  clear hm_2 mo0_1
  refine al_stm (st_alloc y63_az41 rfl ml_2) trivial rfl (fun m_3 hm_3 => ?_)
  have mo2_3 := m_push hm_3 ml_2
  simp only [pS, Value.cells, Nat.reduceAdd] at mo2_3
  have mo1_3 := m_push_o hm_3 mo1_2
  have mo0_3 := m_push_o hm_3 mo0_2
  have ml_3 := m_push_l hm_3 ml_2
  have ml_3 : _ = 3 := ml_3
  clear hm_3 mo1_2 mo0_2
  refine al_stm (st_alloc y63_az34 rfl ml_3) trivial rfl (fun m_4 hm_4 => ?_)
  have mo3_4 := m_push hm_4 ml_3
  simp only [pS, Value.cells, Nat.reduceAdd] at mo3_4
  have mo2_4 := m_push_o hm_4 mo2_3
  have mo1_4 := m_push_o hm_4 mo1_3
  have mo0_4 := m_push_o hm_4 mo0_3
  have ml_4 := m_push_l hm_4 ml_3
  have ml_4 : _ = 4 := ml_4
  clear hm_4 mo2_3 mo1_3 mo0_3
  refine ae4 (up_m rfl (u2 rfl up_h)) (u2 rfl up_h) (up_m rfl up_h) up_h ?_; clear s0_0 s1_0; intro e_5 s2_5 s3_5 s4_5 s5_5
  refine then_n <| aw_seq <| at_ <| ar (ro_eq (ro_ld_ptr y63_ty26 rfl mo0_4 s2_5 (nle rfl)) (by simp only [pS, Value.cells, Nat.reduceAdd] <;> rfl)) rfl ?_
  refine ar (ro_call (evL_cons up_h evL_nil) rfl (yOpen_bad l hl hb) y63_hcf76) rfl <| ar (ro_move up_h) rfl <| ar (ro_extract up_h rfl) rfl <| ar (ro_extract (up_m rfl up_h) rfl) rfl <| al_stm (st_alloc y63_az124 rfl ml_4) trivial rfl (fun m_6 hm_6 => ?_)
  have mo4_6 := m_push hm_6 ml_4
  simp only [pS, Value.cells, Nat.reduceAdd] at mo4_6
  have mo3_6 := m_push_o hm_6 mo3_4
  have mo2_6 := m_push_o hm_6 mo2_4
  have mo1_6 := m_push_o hm_6 mo1_4
  have mo0_6 := m_push_o hm_6 mo0_4
  have ml_6 := m_push_l hm_6 ml_4
  have ml_6 : _ = 5 := ml_6
  clear hm_6 mo3_4 mo2_4 mo1_4 mo0_4
  refine al_stm (st_store up_h (u2 rfl up_h) rfl rfl mo4_6 y63_sz124 rfl (nle rfl)) trivial rfl (fun m_7 hm_7 => ?_)
  have mo4_7 := m_set hm_7 mo4_6
  simp only [pS, Value.cells, Nat.reduceAdd] at mo4_7
  have mo3_7 := m_set_o hm_7 mo3_6 (by decide)
  have mo2_7 := m_set_o hm_7 mo2_6 (by decide)
  have mo1_7 := m_set_o hm_7 mo1_6 (by decide)
  have mo0_7 := m_set_o hm_7 mo0_6 (by decide)
  have ml_7 := m_set_l hm_7 ml_6
  clear hm_7 mo4_6 mo3_6 mo2_6 mo1_6 mo0_6
  refine ar (ro_assign (up_n (up_m rfl up_h))) rfl <| ae5 (up_m rfl (up_n (u2 rfl (u4 rfl s3_5)))) (up_m rfl (up_n (u2 rfl (u4 rfl s4_5)))) (up_m rfl (up_n (u2 rfl (u4 rfl s5_5)))) (up_m rfl (up_n up_h)) up_h ?_; clear s2_5 s3_5 s4_5 s5_5; intro e_8 s3_8 s4_8 s5_8 s6_8 s7_8
  refine then_n <| aw_seq <| aw_seq <| at_ <| ar (ro_move s7_8) rfl <| ar (ro_eq (ro_ld_ptr y63_ty28 rfl mo1_7 (up_m rfl s3_8) (nle rfl)) (by simp only [pS, Value.cells, Nat.reduceAdd] <;> rfl)) rfl ?_
  refine ar (ro_call (evL_cons up_h evL_nil) rfl (checkVehicle_ok L c u) y63_hcf78) rfl <| ar (ro_lit y63_sl185 (evP_cons (u2 rfl up_h) (evP_cons up_h evP_nil)) rfl rfl rfl rfl) rfl <| ar (ro_call (evL_cons up_h evL_nil) rfl ((yFirst_ok [_, _] (by simp)).mono (fun q h => h.trans (by rw [hf]))) y63_hcf77) rfl ?_
  refine ar (ro_assign up_h) rfl <| ae5 (u2 rfl (u4 rfl s3_8)) (u2 rfl (u4 rfl s4_8)) (u2 rfl (u4 rfl s5_8)) (u2 rfl (u4 rfl s6_8)) up_h ?_; clear s3_8 s4_8 s5_8 s6_8 s7_8; intro e_9 s3_9 s4_9 s5_9 s6_9 s7_9
  refine then_n <| aw_seq <| at_ <| ar (ro_move s7_9) rfl <| ar (ro_neq up_h ev_c) rfl <| ae6 (u2 rfl s3_9) (u2 rfl s4_9) (u2 rfl s5_9) (u2 rfl s6_9) (u2 rfl s7_9) up_h ?_; clear s3_9 s4_9 s5_9 s6_9 s7_9; intro e_10 s3_10 s4_10 s5_10 s6_10 s7_10 s22_10
  refine then_n <| aw_case s22_10 (fun hq_11 => ?_) (fun hq_11 => ?_)
  ·replace hq_11 := bnt hq_11
   refine aw_seq <| at_ <| ar (ro_build evP_nil y63_bz41 y63_bu41 y63_bp41 rfl) rfl ?_
   refine ar (ro_move (up_m rfl s7_10)) rfl <| al_stm (st_store (u2 rfl s4_10) (up_m rfl up_h) rfl rfl mo2_7 y63_sz41 rfl (nle rfl)) trivial rfl (fun m_12 hm_12 => ?_)
   have mo2_12 := m_set hm_12 mo2_7
   simp only [pS, Value.cells, Nat.reduceAdd] at mo2_12
   have mo4_12 := m_set_o hm_12 mo4_7 (by decide)
   have mo3_12 := m_set_o hm_12 mo3_7 (by decide)
   have mo1_12 := m_set_o hm_12 mo1_7 (by decide)
   have mo0_12 := m_set_o hm_12 mo0_7 (by decide)
   have ml_12 := m_set_l hm_12 ml_7
   clear hm_12 mo4_7 mo3_7 mo2_7 mo1_7 mo0_7
   refine al_stm (st_store (up_n (u2 rfl s5_10)) (up_n up_h) rfl rfl mo3_12 y63_sz34 rfl (nle rfl)) trivial rfl (fun m_13 hm_13 => ?_)
   have mo3_13 := m_set hm_13 mo3_12
   simp only [pS, Value.cells, Nat.reduceAdd] at mo3_13
   have mo2_13 := m_set_o hm_13 mo2_12 (by decide)
   have mo4_13 := m_set_o hm_13 mo4_12 (by decide)
   have mo1_13 := m_set_o hm_13 mo1_12 (by decide)
   have mo0_13 := m_set_o hm_13 mo0_12 (by decide)
   have ml_13 := m_set_l hm_13 ml_12
   clear hm_13 mo2_12 mo4_12 mo3_12 mo1_12 mo0_12
   refine ae2 (up_n (up_n (u2 rfl s4_10))) (up_n (up_n (u2 rfl s5_10))) ?_; clear s22_10 s3_10 s4_10 s5_10 s6_10 s7_10; intro e_14 s4_14 s5_14
   refine then_n <| aw_ret <| then_r <| ret2 (.inr rfl) (by kernel_rfl) (resV_cell s4_14 mo2_13 y63_ty41 (nle rfl) (by simp)) (resV_cell s5_14 mo3_13 y63_ty34 (nle rfl) (by simp)) (vw_r (.ro _ rfl)) (vw_c (.ro _ rfl)) ?_
   clear s4_14 s5_14 mo3_13 mo2_13 mo4_13 mo1_13 mo0_13 ml_13
   rfl
  · replace hq_11 := bnf hq_11; exfalso; omega
set_option maxRecDepth 100000 in
set_option maxHeartbeats 4000000 in
theorem firstUnclear_veh (l : Lin) (hl : Sho l) (hg : (linM l).2 = 0) (L c u : Int) (hv : vehE L c u ≠ 0) : FnOk Try.prog 19 [lnA l, vehA L c u] (fun q => q = .tuple [.agg [mA 0, mA 0, mA 0, mA 0], mA (vehE L c u)]) := by
  refine fnOk_of (fn := Try.f19) 48 (by kernel_rfl) rfl (by kernel_rfl) (Nat.le_of_ble_eq_true rfl) ?_
  intro e_0 m_0 hA hm_0
  have s0_0 : evA e_0 (.tmp 0) = _ := hA 0 _ rfl
  have s1_0 : evA e_0 (.tmp 1) = _ := hA 1 _ rfl
  have ml_0 : m_0.length = 0 := by rw [hm_0]; rfl
  clear hA hm_0
  have hf : firstE [0, vehE L c u] = vehE L c u := firstE_0 _
  refine aw_seq <| at_ <| al_stm (st_box s0_0 rfl ml_0) trivial rfl (fun m_1 hm_1 => ?_)
  have mo0_1 := m_push hm_1 ml_0
  have ml_1 := m_push_l hm_1 ml_0
  have ml_1 : _ = 1 := ml_1
  clear hm_1
  refine al_stm (st_box (up_m rfl s1_0) rfl ml_1) trivial rfl (fun m_2 hm_2 => ?_)
  have mo1_2 := m_push hm_2 ml_1
  have mo0_2 := m_push_o hm_2 mo0_1
  have ml_2 := m_push_l hm_2 ml_1
  have ml_2 : _ = 2 := ml_2
  clear hm_2 mo0_1
  refine al_stm (st_alloc y63_az41 rfl ml_2) trivial rfl (fun m_3 hm_3 => ?_)
  have mo2_3 := m_push hm_3 ml_2
  simp only [pS, Value.cells, Nat.reduceAdd] at mo2_3
  have mo1_3 := m_push_o hm_3 mo1_2
  have mo0_3 := m_push_o hm_3 mo0_2
  have ml_3 := m_push_l hm_3 ml_2
  have ml_3 : _ = 3 := ml_3
  clear hm_3 mo1_2 mo0_2
  refine al_stm (st_alloc y63_az34 rfl ml_3) trivial rfl (fun m_4 hm_4 => ?_)
  have mo3_4 := m_push hm_4 ml_3
  simp only [pS, Value.cells, Nat.reduceAdd] at mo3_4
  have mo2_4 := m_push_o hm_4 mo2_3
  have mo1_4 := m_push_o hm_4 mo1_3
  have mo0_4 := m_push_o hm_4 mo0_3
  have ml_4 := m_push_l hm_4 ml_3
  have ml_4 : _ = 4 := ml_4
  clear hm_4 mo2_3 mo1_3 mo0_3
  refine ae4 (up_m rfl (u2 rfl up_h)) (u2 rfl up_h) (up_m rfl up_h) up_h ?_; clear s0_0 s1_0; intro e_5 s2_5 s3_5 s4_5 s5_5
  refine then_n <| aw_seq <| at_ <| ar (ro_eq (ro_ld_ptr y63_ty26 rfl mo0_4 s2_5 (nle rfl)) (by simp only [pS, Value.cells, Nat.reduceAdd] <;> rfl)) rfl ?_
  refine ar (ro_call (evL_cons up_h evL_nil) rfl (yOpen_good l hl hg) y63_hcf76) rfl <| ar (ro_move up_h) rfl <| ar (ro_extract up_h rfl) rfl <| ar (ro_extract (up_m rfl up_h) rfl) rfl <| al_stm (st_alloc y63_az124 rfl ml_4) trivial rfl (fun m_6 hm_6 => ?_)
  have mo4_6 := m_push hm_6 ml_4
  simp only [pS, Value.cells, Nat.reduceAdd] at mo4_6
  have mo3_6 := m_push_o hm_6 mo3_4
  have mo2_6 := m_push_o hm_6 mo2_4
  have mo1_6 := m_push_o hm_6 mo1_4
  have mo0_6 := m_push_o hm_6 mo0_4
  have ml_6 := m_push_l hm_6 ml_4
  have ml_6 : _ = 5 := ml_6
  clear hm_6 mo3_4 mo2_4 mo1_4 mo0_4
  refine al_stm (st_store up_h (u2 rfl up_h) rfl rfl mo4_6 y63_sz124 rfl (nle rfl)) trivial rfl (fun m_7 hm_7 => ?_)
  have mo4_7 := m_set hm_7 mo4_6
  simp only [pS, Value.cells, Nat.reduceAdd] at mo4_7
  have mo3_7 := m_set_o hm_7 mo3_6 (by decide)
  have mo2_7 := m_set_o hm_7 mo2_6 (by decide)
  have mo1_7 := m_set_o hm_7 mo1_6 (by decide)
  have mo0_7 := m_set_o hm_7 mo0_6 (by decide)
  have ml_7 := m_set_l hm_7 ml_6
  clear hm_7 mo4_6 mo3_6 mo2_6 mo1_6 mo0_6
  refine ar (ro_assign (up_n (up_m rfl up_h))) rfl <| ae5 (up_m rfl (up_n (u2 rfl (u4 rfl s3_5)))) (up_m rfl (up_n (u2 rfl (u4 rfl s4_5)))) (up_m rfl (up_n (u2 rfl (u4 rfl s5_5)))) (up_m rfl (up_n up_h)) up_h ?_; clear s2_5 s3_5 s4_5 s5_5; intro e_8 s3_8 s4_8 s5_8 s6_8 s7_8
  refine then_n <| aw_seq <| aw_seq <| at_ <| ar (ro_move s7_8) rfl <| ar (ro_eq (ro_ld_ptr y63_ty28 rfl mo1_7 (up_m rfl s3_8) (nle rfl)) (by simp only [pS, Value.cells, Nat.reduceAdd] <;> rfl)) rfl ?_
  refine ar (ro_call (evL_cons up_h evL_nil) rfl (checkVehicle_ok L c u) y63_hcf78) rfl <| ar (ro_lit y63_sl185 (evP_cons (u2 rfl up_h) (evP_cons up_h evP_nil)) rfl rfl rfl rfl) rfl <| ar (ro_call (evL_cons up_h evL_nil) rfl ((yFirst_ok [_, _] (by simp)).mono (fun q h => h.trans (by rw [hf]))) y63_hcf77) rfl ?_
  refine ar (ro_assign up_h) rfl <| ae5 (u2 rfl (u4 rfl s3_8)) (u2 rfl (u4 rfl s4_8)) (u2 rfl (u4 rfl s5_8)) (u2 rfl (u4 rfl s6_8)) up_h ?_; clear s3_8 s4_8 s5_8 s6_8 s7_8; intro e_9 s3_9 s4_9 s5_9 s6_9 s7_9
  refine then_n <| aw_seq <| at_ <| ar (ro_move s7_9) rfl <| ar (ro_neq up_h ev_c) rfl <| ae6 (u2 rfl s3_9) (u2 rfl s4_9) (u2 rfl s5_9) (u2 rfl s6_9) (u2 rfl s7_9) up_h ?_; clear s3_9 s4_9 s5_9 s6_9 s7_9; intro e_10 s3_10 s4_10 s5_10 s6_10 s7_10 s22_10
  refine then_n <| aw_case s22_10 (fun hq_11 => ?_) (fun hq_11 => ?_)
  ·replace hq_11 := bnt hq_11
   refine aw_seq <| at_ <| ar (ro_build evP_nil y63_bz41 y63_bu41 y63_bp41 rfl) rfl ?_
   refine ar (ro_move (up_m rfl s7_10)) rfl <| al_stm (st_store (u2 rfl s4_10) (up_m rfl up_h) rfl rfl mo2_7 y63_sz41 rfl (nle rfl)) trivial rfl (fun m_12 hm_12 => ?_)
   have mo2_12 := m_set hm_12 mo2_7
   simp only [pS, Value.cells, Nat.reduceAdd] at mo2_12
   have mo4_12 := m_set_o hm_12 mo4_7 (by decide)
   have mo3_12 := m_set_o hm_12 mo3_7 (by decide)
   have mo1_12 := m_set_o hm_12 mo1_7 (by decide)
   have mo0_12 := m_set_o hm_12 mo0_7 (by decide)
   have ml_12 := m_set_l hm_12 ml_7
   clear hm_12 mo4_7 mo3_7 mo2_7 mo1_7 mo0_7
   refine al_stm (st_store (up_n (u2 rfl s5_10)) (up_n up_h) rfl rfl mo3_12 y63_sz34 rfl (nle rfl)) trivial rfl (fun m_13 hm_13 => ?_)
   have mo3_13 := m_set hm_13 mo3_12
   simp only [pS, Value.cells, Nat.reduceAdd] at mo3_13
   have mo2_13 := m_set_o hm_13 mo2_12 (by decide)
   have mo4_13 := m_set_o hm_13 mo4_12 (by decide)
   have mo1_13 := m_set_o hm_13 mo1_12 (by decide)
   have mo0_13 := m_set_o hm_13 mo0_12 (by decide)
   have ml_13 := m_set_l hm_13 ml_12
   clear hm_13 mo2_12 mo4_12 mo3_12 mo1_12 mo0_12
   refine ae2 (up_n (up_n (u2 rfl s4_10))) (up_n (up_n (u2 rfl s5_10))) ?_; clear s22_10 s3_10 s4_10 s5_10 s6_10 s7_10; intro e_14 s4_14 s5_14
   refine then_n <| aw_ret <| then_r <| ret2 (.inr rfl) (by kernel_rfl) (resV_cell s4_14 mo2_13 y63_ty41 (nle rfl) (by simp)) (resV_cell s5_14 mo3_13 y63_ty34 (nle rfl) (by simp)) (vw_r (.ro _ rfl)) (vw_c (.ro _ rfl)) ?_
   clear s4_14 s5_14 mo3_13 mo2_13 mo4_13 mo1_13 mo0_13 ml_13
   rfl
  · replace hq_11 := bnf hq_11; exfalso; omega
set_option maxRecDepth 100000 in
set_option maxHeartbeats 4000000 in
theorem linePoses_many (l : Lin) (hf : fewL l = false) (L c u p : Int) : FnOk Try.prog 3 [lnA l, vehA L c u, mA p] (fun q => q = tbA true) := by
  refine fnOk_of (fn := Try.f3) 119 (by kernel_rfl) rfl (by kernel_rfl) (Nat.le_of_ble_eq_true rfl) ?_
  intro e_0 m_0 hA hm_0
  have s0_0 : evA e_0 (.tmp 0) = _ := hA 0 _ rfl
  have s1_0 : evA e_0 (.tmp 1) = _ := hA 1 _ rfl
  have s2_0 : evA e_0 (.tmp 2) = _ := hA 2 _ rfl
  have ml_0 : m_0.length = 0 := by rw [hm_0]; rfl
  clear hA hm_0
  refine aw_seq <| at_ <| al_stm (st_box s0_0 rfl ml_0) trivial rfl (fun m_1 hm_1 => ?_)
  have mo0_1 := m_push hm_1 ml_0
  have ml_1 := m_push_l hm_1 ml_0
  have ml_1 : _ = 1 := ml_1
  clear hm_1
  refine al_stm (st_box (up_m rfl s1_0) rfl ml_1) trivial rfl (fun m_2 hm_2 => ?_)
  have mo1_2 := m_push hm_2 ml_1
  have mo0_2 := m_push_o hm_2 mo0_1
  have ml_2 := m_push_l hm_2 ml_1
  have ml_2 : _ = 2 := ml_2
  clear hm_2 mo0_1
  refine ar (ro_assign ev_c) rfl <| ae3 (up_m rfl (u2 rfl s2_0)) (u2 rfl up_h) (up_m rfl up_h) ?_; clear s0_0 s1_0 s2_0; intro e_3 s2_3 s3_3 s4_3
  refine then_n <| aw_seq <| aw_seq <| at_ <| ar (ro_call evL_nil rfl (awake_ok) y63_hcf12) rfl <| ar (ro_not up_h) rfl <| ae4 (u2 rfl s2_3) (u2 rfl s3_3) (u2 rfl s4_3) up_h ?_; clear s2_3 s3_3 s4_3; intro e_4 s2_4 s3_4 s4_4 s15_4
  refine then_n <| aw_case s15_4 (fun hq_5 => ?_) (fun hq_5 => ?_)
  · cases hq_5
  replace hq_5 := bf' hq_5
  refine aw_skip <| then_n <| aw_seq <| aw_seq <| at_ <| ar (ro_eq (ro_ld_ptr y63_ty26 rfl mo0_2 s3_4 (nle rfl)) (by simp only [pS, Value.cells, Nat.reduceAdd] <;> rfl)) rfl ?_
  refine ar (ro_call (evL_cons up_h evL_nil) rfl ((fewL_ok l).mono (fun q h => h.trans (by rw [hf]))) y63_hcf13) rfl ?_
  refine ar (ro_not up_h) rfl <| ae4 (up_m rfl (u2 rfl s2_4)) (up_m rfl (u2 rfl s3_4)) (up_m rfl (u2 rfl s4_4)) up_h ?_; clear s15_4 s2_4 s3_4 s4_4; intro e_6 s2_6 s3_6 s4_6 s18_6
  refine then_n <| aw_case s18_6 (fun hq_7 => ?_) (fun hq_7 => ?_)
  ·replace hq_7 := bt' hq_7
   refine aw_seq <| at_ <| ar (ro_assign ev_c) rfl <| ae1 up_h ?_; clear s18_6 s2_6 s3_6 s4_6; intro e_8 s6_8
   refine then_n <| aw_ret <| then_r <| ret1 (.inr rfl) (by kernel_rfl) (resV_tmp s6_8) (.ro _ rfl) ?_
   clear s6_8 mo1_2 mo0_2 ml_2
   first | rfl | simp_all
  · cases hq_7
set_option maxRecDepth 100000 in
set_option maxHeartbeats 4000000 in
theorem linePoses_bad (l : Lin) (hf : fewL l = true) (hb : (linM l).2 ≠ 0) (L c u p : Int) : FnOk Try.prog 3 [lnA l, vehA L c u, mA p] (fun q => q = tbA true) := by
  refine fnOk_of (fn := Try.f3) 119 (by kernel_rfl) rfl (by kernel_rfl) (Nat.le_of_ble_eq_true rfl) ?_
  intro e_0 m_0 hA hm_0
  have s0_0 : evA e_0 (.tmp 0) = _ := hA 0 _ rfl
  have s1_0 : evA e_0 (.tmp 1) = _ := hA 1 _ rfl
  have s2_0 : evA e_0 (.tmp 2) = _ := hA 2 _ rfl
  have ml_0 : m_0.length = 0 := by rw [hm_0]; rfl
  clear hA hm_0
  have hl := fewL_sho hf
  refine aw_seq <| at_ <| al_stm (st_box s0_0 rfl ml_0) trivial rfl (fun m_1 hm_1 => ?_)
  have mo0_1 := m_push hm_1 ml_0
  have ml_1 := m_push_l hm_1 ml_0
  have ml_1 : _ = 1 := ml_1
  clear hm_1
  refine al_stm (st_box (up_m rfl s1_0) rfl ml_1) trivial rfl (fun m_2 hm_2 => ?_)
  have mo1_2 := m_push hm_2 ml_1
  have mo0_2 := m_push_o hm_2 mo0_1
  have ml_2 := m_push_l hm_2 ml_1
  have ml_2 : _ = 2 := ml_2
  clear hm_2 mo0_1
  refine ar (ro_assign ev_c) rfl <| ae3 (up_m rfl (u2 rfl s2_0)) (u2 rfl up_h) (up_m rfl up_h) ?_; clear s0_0 s1_0 s2_0; intro e_3 s2_3 s3_3 s4_3
  refine then_n <| aw_seq <| aw_seq <| at_ <| ar (ro_call evL_nil rfl (awake_ok) y63_hcf12) rfl <| ar (ro_not up_h) rfl <| ae4 (u2 rfl s2_3) (u2 rfl s3_3) (u2 rfl s4_3) up_h ?_; clear s2_3 s3_3 s4_3; intro e_4 s2_4 s3_4 s4_4 s15_4
  refine then_n <| aw_case s15_4 (fun hq_5 => ?_) (fun hq_5 => ?_)
  · cases hq_5
  replace hq_5 := bf' hq_5
  refine aw_skip <| then_n <| aw_seq <| aw_seq <| at_ <| ar (ro_eq (ro_ld_ptr y63_ty26 rfl mo0_2 s3_4 (nle rfl)) (by simp only [pS, Value.cells, Nat.reduceAdd] <;> rfl)) rfl ?_
  refine ar (ro_call (evL_cons up_h evL_nil) rfl ((fewL_ok l).mono (fun q h => h.trans (by rw [hf]))) y63_hcf13) rfl ?_
  refine ar (ro_not up_h) rfl <| ae4 (up_m rfl (u2 rfl s2_4)) (up_m rfl (u2 rfl s3_4)) (up_m rfl (u2 rfl s4_4)) up_h ?_; clear s15_4 s2_4 s3_4 s4_4; intro e_6 s2_6 s3_6 s4_6 s18_6
  refine then_n <| aw_case s18_6 (fun hq_7 => ?_) (fun hq_7 => ?_)
  · cases hq_7
  replace hq_7 := bf' hq_7
  refine aw_skip <| then_n <| aw_seq <| at_ <| ar (ro_eq (ro_ld_ptr y63_ty26 rfl mo0_2 s3_6 (nle rfl)) (by simp only [pS, Value.cells, Nat.reduceAdd] <;> rfl)) rfl ?_
  refine ar (ro_call (evL_cons up_h evL_nil) rfl (lineErr_ok l hl) y63_hcf14) rfl <| ar (ro_assign up_h) rfl <| ae4 (up_m rfl (u2 rfl s2_6)) (up_m rfl (u2 rfl s3_6)) (up_m rfl (u2 rfl s4_6)) up_h ?_; clear s18_6 s2_6 s3_6 s4_6; intro e_8 s2_8 s3_8 s4_8 s7_8
  refine then_n <| aw_seq <| aw_seq <| at_ <| ar (ro_move s7_8) rfl <| ar (ro_eql up_h ev_c) rfl ?_
  refine ae5 (u2 rfl s2_8) (u2 rfl s3_8) (u2 rfl s4_8) (u2 rfl s7_8) up_h ?_; clear s2_8 s3_8 s4_8 s7_8; intro e_9 s2_9 s3_9 s4_9 s7_9 s22_9
  refine then_n <| aw_case s22_9 (fun hq_10 => ?_) (fun hq_10 => ?_)
  · replace hq_10 := bt hq_10; exfalso; omega
  replace hq_10 := bf hq_10
  refine aw_skip <| then_n <| aw_seq <| aw_seq <| at_ <| ar (ro_move s7_9) rfl <| ar (ro_eql up_h ev_c) rfl ?_
  refine ar (ro_move up_h) rfl <| al_case up_h (fun hb_11 hq_11 => ?_) (fun hb_11 hq_11 => ?_)
  · replace hq_11 := bt hq_11; exfalso; omega
  replace hq_11 := bf hq_11
  refine al_skip' ⟨_, rfl, .inl hb_11⟩ rfl ?_
  refine al_skip' ⟨_, rfl, .inl (up_m rfl hb_11)⟩ rfl ?_
  refine al_skip' ⟨_, rfl, .inl (u2 rfl hb_11)⟩ rfl ?_
  refine al_skip' ⟨_, rfl, .inl (up_m rfl (u2 rfl hb_11))⟩ rfl ?_
  refine ar (ro_pickF (u4 rfl hb_11) ev_c) rfl <| ae5 (u8 rfl s2_9) (u8 rfl s3_9) (u8 rfl s4_9) (u8 rfl s7_9) up_h ?_; clear hb_11 s22_9 s2_9 s3_9 s4_9 s7_9; intro e_12 s2_12 s3_12 s4_12 s7_12 s32_12
  refine then_n <| aw_false s32_12 <| aw_skip <| then_n <| aw_seq <| aw_draw 10 (by kernel_rfl) (by kernel_rfl) (by kernel_rfl) (by kernel_rfl) ?_
  refine dr (ro_eq (ro_ld_ptr y63_ty26 rfl mo0_2 s3_12 (nle rfl)) (by simp only [pS, Value.cells, Nat.reduceAdd] <;> rfl)) rfl ?_
  refine dr (ro_call (evL_cons up_h evL_nil) rfl (yCopy_ok l hl) y63_hcf18) rfl <| dr (ro_eq (ro_ld_ptr y63_ty28 rfl mo1_2 (u2 rfl s4_12) (nle rfl)) (by simp only [pS, Value.cells, Nat.reduceAdd] <;> rfl)) rfl ?_
  refine dr (ro_move (up_m rfl (u2 rfl s2_12))) rfl <| dr (ro_call (evL_cons (u2 rfl up_h) (evL_cons (up_m rfl up_h) (evL_cons up_h evL_nil))) rfl (clearAt_bad l hl hb L c u p) y63_hcf17) rfl <| dr (ro_move up_h) rfl <| dr (ro_extract up_h rfl) rfl <| dr (ro_extract (up_m rfl up_h) rfl) rfl <| dr (ro_assign (up_m rfl up_h)) rfl <| dr (ro_assign (up_m rfl up_h)) rfl <| ds_nil <| ae6 (u2 rfl (u8 rfl s2_12)) (u2 rfl (u8 rfl s3_12)) (u2 rfl (u8 rfl s4_12)) (u2 rfl (u8 rfl s7_12)) (up_m rfl up_h) up_h ?_; clear s2_12 s32_12 s3_12 s4_12 s7_12; intro e_14 s2_14 s3_14 s4_14 s7_14 s8_14 s9_14
  refine then_n <| aw_seq <| aw_drawK 9 1 ml_2 (by kernel_rfl) (by kernel_rfl) (by kernel_rfl) (by kernel_rfl) (fun m_15 hm_15 => ?_)
  have mo1_15 := m_room_o hm_15 mo1_2
  have mo0_15 := m_room_o hm_15 mo0_2
  have mo2_15 : m_15[2]? = _ := m_room_g hm_15 ml_2 0 rfl rfl
  have ml_15 : _ = 3 := m_room_l (K := 1) hm_15 ml_2
  clear hm_15 mo1_2 mo0_2 ml_2
  refine dh_ld (0) (fun M_ hM_ => (ro_eq (ro_ld_ptr y63_ty26 rfl (agr hM_ mo0_15 (by simp)) s3_14 (nle rfl)) (by simp only [pS, Value.cells, Nat.reduceAdd] <;> rfl))) trivial trivial ?_
  refine dh_ro (fun M_ hM_ => (ro_call (evL_cons up_h evL_nil) rfl (yCopy_ok l hl) y63_hcf18)) trivial ?_
  refine dh_ld (1) (fun M_ hM_ => (ro_eq (ro_ld_ptr y63_ty28 rfl (agr hM_ mo1_15 (by simp)) (u2 rfl s4_14) (nle rfl)) (by simp only [pS, Value.cells, Nat.reduceAdd] <;> rfl))) trivial trivial ?_
  refine dh_ro (fun M_ hM_ => (ro_call (evL_cons (up_m rfl up_h) (evL_cons up_h evL_nil)) rfl (firstUnclear_bad l hl hb L c u) y63_hcf19)) trivial ?_
  refine dh_ro (fun M_ hM_ => (ro_move up_h)) trivial ?_
  refine dh_ro (fun M_ hM_ => (ro_extract up_h rfl)) trivial ?_
  refine dh_ro (fun M_ hM_ => (ro_extract (up_m rfl up_h) rfl)) trivial ?_
  refine dh_nw (2) (fun M_ hM_ => (nw_alloc y63_az41 rfl)) trivial mo2_15 rfl trivial ⟨.inl (by simp <;> omega), ⟨.inl (by simp <;> omega), trivial⟩⟩ (fun m_16 hm_16 => ?_)
  have mo2_16 := m_set hm_16 mo2_15
  simp only [pS, Value.cells, Nat.reduceAdd] at mo2_16
  have mo1_16 := m_set_o hm_16 mo1_15 (by decide)
  have mo0_16 := m_set_o hm_16 mo0_15 (by decide)
  have ml_16 := m_set_l hm_16 ml_15
  clear hm_16 mo1_15 mo0_15 mo2_15
  refine dh_set (2) (fun M_ hM_ => (se_store up_h (u2 rfl up_h) rfl rfl (agr hM_ mo2_16 (by simp)) y63_sz41 rfl (nle rfl))) trivial ⟨.inr (wt_one 8 7 (by kernel_rfl)), trivial⟩ ⟨.inl (by simp <;> omega), ⟨.inl (by simp <;> omega), ⟨.inr (wt_one 8 7 (by kernel_rfl)), trivial⟩⟩⟩ (fun m_17 hm_17 => ?_)
  have mo2_17 := m_set hm_17 mo2_16
  simp only [pS, Value.cells, Nat.reduceAdd] at mo2_17
  have mo1_17 := m_set_o hm_17 mo1_16 (by decide)
  have mo0_17 := m_set_o hm_17 mo0_16 (by decide)
  have ml_17 := m_set_l hm_17 ml_16
  clear hm_17 mo2_16 mo1_16 mo0_16
  refine dh_nil rfl ?_
  refine ar (ro_assign (up_n (up_m rfl up_h))) rfl <| ae8 (up_m rfl (up_n (u8 rfl s2_14))) (up_m rfl (up_n (u8 rfl s3_14))) (up_m rfl (up_n (u8 rfl s4_14))) (up_m rfl (up_n (u8 rfl s7_14))) (up_m rfl (up_n (u8 rfl s8_14))) (up_m rfl (up_n (u8 rfl s9_14))) (up_m rfl (up_n up_h)) up_h ?_; clear s2_14 s3_14 s4_14 s7_14 s8_14 s9_14; intro e_18 s2_18 s3_18 s4_18 s7_18 s8_18 s9_18 s10_18 s11_18
  refine then_n <| aw_seq <| aw_seq <| at_ <| ar (ro_move s7_18) rfl <| ar (ro_neq up_h ev_c) rfl <| ae9 (u2 rfl s2_18) (u2 rfl s3_18) (u2 rfl s4_18) (u2 rfl s7_18) (u2 rfl s8_18) (u2 rfl s9_18) (u2 rfl s10_18) (u2 rfl s11_18) up_h ?_; clear s10_18 s11_18 s2_18 s3_18 s4_18 s7_18 s8_18 s9_18; intro e_19 s2_19 s3_19 s4_19 s7_19 s8_19 s9_19 s10_19 s11_19 s49_19
  refine then_n <| aw_case s49_19 (fun hq_20 => ?_) (fun hq_20 => ?_)
  ·replace hq_20 := bnt hq_20
   refine aw_seq <| at_ <| ar (ro_move s9_19) rfl <| ar (ro_move (up_m rfl s7_19)) rfl <| ar (ro_eql (up_m rfl up_h) up_h) rfl ?_
   refine ar (ro_move up_h) rfl <| al_case up_h (fun hb_21 hq_21 => ?_) (fun hb_21 hq_21 => ?_)
   ·replace hq_21 := bt hq_21
    refine al_ro' (ro_move (u4 rfl s11_19)) ⟨_, rfl, hb_21⟩ rfl ?_
    refine al_ro' (ro_move (up_m rfl (u4 rfl s7_19))) ⟨_, rfl, (up_m rfl hb_21)⟩ rfl ?_
    refine al_ro' (ro_eql (up_m rfl up_h) up_h) ⟨_, rfl, (u2 rfl hb_21)⟩ rfl ?_
    refine ar (ro_pickT (up_m rfl (u2 rfl hb_21)) up_h) rfl <| ar (ro_move up_h) rfl <| al_case up_h (fun hb_22 hq_22 => ?_) (fun hb_22 hq_22 => ?_)
    ·replace hq_22 := bt hq_22
     refine al_ro' (ro_move (up_m rfl (u8 rfl s8_19))) ⟨_, rfl, hb_22⟩ rfl ?_
     refine al_ro' (ro_eql up_h ev_c) ⟨_, rfl, (up_m rfl hb_22)⟩ rfl ?_
     refine ar (ro_pickT (u2 rfl hb_22) up_h) rfl <| ar (ro_move up_h) rfl <| al_case up_h (fun hb_23 hq_23 => ?_) (fun hb_23 hq_23 => ?_)
     ·replace hq_23 := bt hq_23
      refine al_ro' (ro_eq (ro_ld_ptr y63_ty41 rfl mo2_17 (up_m rfl (u4 rfl (u8 rfl s10_19))) (nle rfl)) (by simp only [pS, Value.cells, Nat.reduceAdd] <;> rfl)) ⟨_, rfl, hb_23⟩ rfl ?_
      refine al_ro' (ro_build evP_nil y63_bz41 y63_bu41 y63_bp41 rfl) ⟨_, rfl, (up_m rfl hb_23)⟩ rfl ?_
      refine al_ro' (ro_sqeql (up_m rfl up_h) up_h rfl rfl y63_gq41 y63_sq41 (by decide)) ⟨_, rfl, (u2 rfl hb_23)⟩ rfl ?_
      refine ar (ro_pickT (up_m rfl (u2 rfl hb_23)) up_h) rfl <| ar (ro_assign up_h) rfl <| ae1 up_h ?_; clear hb_21 hb_22 hb_23 s10_19 s11_19 s2_19 s3_19 s49_19 s4_19 s7_19 s8_19 s9_19; intro e_24 s6_24
      refine then_n <| aw_ret <| then_r <| ret1 (.inr rfl) (by kernel_rfl) (resV_tmp s6_24) (.ro _ rfl) ?_
      clear s6_24 mo2_17 mo1_17 mo0_17 ml_17
      first | rfl | simp_all
     · cases hq_23
    · replace hq_22 := bf hq_22; exfalso; omega
   · replace hq_21 := bf hq_21; exfalso; omega
  · replace hq_20 := bnf hq_20; exfalso; omega
set_option maxRecDepth 100000 in
set_option maxHeartbeats 4000000 in
theorem linePoses_veh (l : Lin) (hf : fewL l = true) (hg : (linM l).2 = 0) (L c u p : Int) (hv : vehE L c u ≠ 0) : FnOk Try.prog 3 [lnA l, vehA L c u, mA p] (fun q => q = tbA true) := by
  refine fnOk_of (fn := Try.f3) 119 (by kernel_rfl) rfl (by kernel_rfl) (Nat.le_of_ble_eq_true rfl) ?_
  intro e_0 m_0 hA hm_0
  have s0_0 : evA e_0 (.tmp 0) = _ := hA 0 _ rfl
  have s1_0 : evA e_0 (.tmp 1) = _ := hA 1 _ rfl
  have s2_0 : evA e_0 (.tmp 2) = _ := hA 2 _ rfl
  have ml_0 : m_0.length = 0 := by rw [hm_0]; rfl
  clear hA hm_0
  have hl := fewL_sho hf
  refine aw_seq <| at_ <| al_stm (st_box s0_0 rfl ml_0) trivial rfl (fun m_1 hm_1 => ?_)
  have mo0_1 := m_push hm_1 ml_0
  have ml_1 := m_push_l hm_1 ml_0
  have ml_1 : _ = 1 := ml_1
  clear hm_1
  refine al_stm (st_box (up_m rfl s1_0) rfl ml_1) trivial rfl (fun m_2 hm_2 => ?_)
  have mo1_2 := m_push hm_2 ml_1
  have mo0_2 := m_push_o hm_2 mo0_1
  have ml_2 := m_push_l hm_2 ml_1
  have ml_2 : _ = 2 := ml_2
  clear hm_2 mo0_1
  refine ar (ro_assign ev_c) rfl <| ae3 (up_m rfl (u2 rfl s2_0)) (u2 rfl up_h) (up_m rfl up_h) ?_; clear s0_0 s1_0 s2_0; intro e_3 s2_3 s3_3 s4_3
  refine then_n <| aw_seq <| aw_seq <| at_ <| ar (ro_call evL_nil rfl (awake_ok) y63_hcf12) rfl <| ar (ro_not up_h) rfl <| ae4 (u2 rfl s2_3) (u2 rfl s3_3) (u2 rfl s4_3) up_h ?_; clear s2_3 s3_3 s4_3; intro e_4 s2_4 s3_4 s4_4 s15_4
  refine then_n <| aw_case s15_4 (fun hq_5 => ?_) (fun hq_5 => ?_)
  · cases hq_5
  replace hq_5 := bf' hq_5
  refine aw_skip <| then_n <| aw_seq <| aw_seq <| at_ <| ar (ro_eq (ro_ld_ptr y63_ty26 rfl mo0_2 s3_4 (nle rfl)) (by simp only [pS, Value.cells, Nat.reduceAdd] <;> rfl)) rfl ?_
  refine ar (ro_call (evL_cons up_h evL_nil) rfl ((fewL_ok l).mono (fun q h => h.trans (by rw [hf]))) y63_hcf13) rfl ?_
  refine ar (ro_not up_h) rfl <| ae4 (up_m rfl (u2 rfl s2_4)) (up_m rfl (u2 rfl s3_4)) (up_m rfl (u2 rfl s4_4)) up_h ?_; clear s15_4 s2_4 s3_4 s4_4; intro e_6 s2_6 s3_6 s4_6 s18_6
  refine then_n <| aw_case s18_6 (fun hq_7 => ?_) (fun hq_7 => ?_)
  · cases hq_7
  replace hq_7 := bf' hq_7
  refine aw_skip <| then_n <| aw_seq <| at_ <| ar (ro_eq (ro_ld_ptr y63_ty26 rfl mo0_2 s3_6 (nle rfl)) (by simp only [pS, Value.cells, Nat.reduceAdd] <;> rfl)) rfl ?_
  refine ar (ro_call (evL_cons up_h evL_nil) rfl (lineErr_ok l hl) y63_hcf14) rfl <| ar (ro_assign up_h) rfl <| ae4 (up_m rfl (u2 rfl s2_6)) (up_m rfl (u2 rfl s3_6)) (up_m rfl (u2 rfl s4_6)) up_h ?_; clear s18_6 s2_6 s3_6 s4_6; intro e_8 s2_8 s3_8 s4_8 s7_8
  refine then_n <| aw_seq <| aw_seq <| at_ <| ar (ro_move s7_8) rfl <| ar (ro_eql up_h ev_c) rfl ?_
  refine ae5 (u2 rfl s2_8) (u2 rfl s3_8) (u2 rfl s4_8) (u2 rfl s7_8) up_h ?_; clear s2_8 s3_8 s4_8 s7_8; intro e_9 s2_9 s3_9 s4_9 s7_9 s22_9
  refine then_n <| aw_case s22_9 (fun hq_10 => ?_) (fun hq_10 => ?_)
  ·replace hq_10 := bt hq_10
   refine at_ <| ar (ro_eq (ro_ld_ptr y63_ty28 rfl mo1_2 s4_9 (nle rfl)) (by simp only [pS, Value.cells, Nat.reduceAdd] <;> rfl)) rfl ?_
   refine ar (ro_call (evL_cons up_h evL_nil) rfl (rVehicleErr_ok L c u) y63_hcf15) rfl <| ar (ro_assign up_h) rfl <| ae4 (up_m rfl (u2 rfl s2_9)) (up_m rfl (u2 rfl s3_9)) (up_m rfl (u2 rfl s4_9)) up_h ?_; clear s22_9 s2_9 s3_9 s4_9 s7_9; intro e_11 s2_11 s3_11 s4_11 s7_11
   refine then_n <| aw_seq <| aw_seq <| at_ <| ar (ro_move s7_11) rfl <| ar (ro_eql up_h ev_c) rfl ?_
   refine ar (ro_move up_h) rfl <| al_case up_h (fun hb_12 hq_12 => ?_) (fun hb_12 hq_12 => ?_)
   · replace hq_12 := bt hq_12; exfalso; omega
   replace hq_12 := bf hq_12
   refine al_skip' ⟨_, rfl, .inl hb_12⟩ rfl ?_
   refine al_skip' ⟨_, rfl, .inl (up_m rfl hb_12)⟩ rfl ?_
   refine al_skip' ⟨_, rfl, .inl (u2 rfl hb_12)⟩ rfl ?_
   refine al_skip' ⟨_, rfl, .inl (up_m rfl (u2 rfl hb_12))⟩ rfl ?_
   refine ar (ro_pickF (u4 rfl hb_12) ev_c) rfl <| ae5 (u8 rfl s2_11) (u8 rfl s3_11) (u8 rfl s4_11) (u8 rfl s7_11) up_h ?_; clear hb_12 s2_11 s3_11 s4_11 s7_11; intro e_13 s2_13 s3_13 s4_13 s7_13 s32_13
   refine then_n <| aw_false s32_13 <| aw_skip <| then_n <| aw_seq <| aw_draw 10 (by kernel_rfl) (by kernel_rfl) (by kernel_rfl) (by kernel_rfl) ?_
   refine dr (ro_eq (ro_ld_ptr y63_ty26 rfl mo0_2 s3_13 (nle rfl)) (by simp only [pS, Value.cells, Nat.reduceAdd] <;> rfl)) rfl ?_
   refine dr (ro_call (evL_cons up_h evL_nil) rfl (yCopy_ok l hl) y63_hcf18) rfl <| dr (ro_eq (ro_ld_ptr y63_ty28 rfl mo1_2 (u2 rfl s4_13) (nle rfl)) (by simp only [pS, Value.cells, Nat.reduceAdd] <;> rfl)) rfl ?_
   refine dr (ro_move (up_m rfl (u2 rfl s2_13))) rfl <| dr (ro_call (evL_cons (u2 rfl up_h) (evL_cons (up_m rfl up_h) (evL_cons up_h evL_nil))) rfl (clearAt_veh l hl hg L c u p hv) y63_hcf17) rfl <| dr (ro_move up_h) rfl <| dr (ro_extract up_h rfl) rfl <| dr (ro_extract (up_m rfl up_h) rfl) rfl <| dr (ro_assign (up_m rfl up_h)) rfl <| dr (ro_assign (up_m rfl up_h)) rfl <| ds_nil <| ae6 (u2 rfl (u8 rfl s2_13)) (u2 rfl (u8 rfl s3_13)) (u2 rfl (u8 rfl s4_13)) (u2 rfl (u8 rfl s7_13)) (up_m rfl up_h) up_h ?_; clear s2_13 s32_13 s3_13 s4_13 s7_13; intro e_15 s2_15 s3_15 s4_15 s7_15 s8_15 s9_15
   refine then_n <| aw_seq <| aw_drawK 9 1 ml_2 (by kernel_rfl) (by kernel_rfl) (by kernel_rfl) (by kernel_rfl) (fun m_16 hm_16 => ?_)
   have mo1_16 := m_room_o hm_16 mo1_2
   have mo0_16 := m_room_o hm_16 mo0_2
   have mo2_16 : m_16[2]? = _ := m_room_g hm_16 ml_2 0 rfl rfl
   have ml_16 : _ = 3 := m_room_l (K := 1) hm_16 ml_2
   clear hm_16 mo1_2 mo0_2 ml_2
   refine dh_ld (0) (fun M_ hM_ => (ro_eq (ro_ld_ptr y63_ty26 rfl (agr hM_ mo0_16 (by simp)) s3_15 (nle rfl)) (by simp only [pS, Value.cells, Nat.reduceAdd] <;> rfl))) trivial trivial ?_
   refine dh_ro (fun M_ hM_ => (ro_call (evL_cons up_h evL_nil) rfl (yCopy_ok l hl) y63_hcf18)) trivial ?_
   refine dh_ld (1) (fun M_ hM_ => (ro_eq (ro_ld_ptr y63_ty28 rfl (agr hM_ mo1_16 (by simp)) (u2 rfl s4_15) (nle rfl)) (by simp only [pS, Value.cells, Nat.reduceAdd] <;> rfl))) trivial trivial ?_
   refine dh_ro (fun M_ hM_ => (ro_call (evL_cons (up_m rfl up_h) (evL_cons up_h evL_nil)) rfl (firstUnclear_veh l hl hg L c u hv) y63_hcf19)) trivial ?_
   refine dh_ro (fun M_ hM_ => (ro_move up_h)) trivial ?_
   refine dh_ro (fun M_ hM_ => (ro_extract up_h rfl)) trivial ?_
   refine dh_ro (fun M_ hM_ => (ro_extract (up_m rfl up_h) rfl)) trivial ?_
   refine dh_nw (2) (fun M_ hM_ => (nw_alloc y63_az41 rfl)) trivial mo2_16 rfl trivial ⟨.inl (by simp <;> omega), ⟨.inl (by simp <;> omega), trivial⟩⟩ (fun m_17 hm_17 => ?_)
   have mo2_17 := m_set hm_17 mo2_16
   simp only [pS, Value.cells, Nat.reduceAdd] at mo2_17
   have mo1_17 := m_set_o hm_17 mo1_16 (by decide)
   have mo0_17 := m_set_o hm_17 mo0_16 (by decide)
   have ml_17 := m_set_l hm_17 ml_16
   clear hm_17 mo1_16 mo0_16 mo2_16
   refine dh_set (2) (fun M_ hM_ => (se_store up_h (u2 rfl up_h) rfl rfl (agr hM_ mo2_17 (by simp)) y63_sz41 rfl (nle rfl))) trivial ⟨.inr (wt_one 8 7 (by kernel_rfl)), trivial⟩ ⟨.inl (by simp <;> omega), ⟨.inl (by simp <;> omega), ⟨.inr (wt_one 8 7 (by kernel_rfl)), trivial⟩⟩⟩ (fun m_18 hm_18 => ?_)
   have mo2_18 := m_set hm_18 mo2_17
   simp only [pS, Value.cells, Nat.reduceAdd] at mo2_18
   have mo1_18 := m_set_o hm_18 mo1_17 (by decide)
   have mo0_18 := m_set_o hm_18 mo0_17 (by decide)
   have ml_18 := m_set_l hm_18 ml_17
   clear hm_18 mo2_17 mo1_17 mo0_17
   refine dh_nil rfl ?_
   refine ar (ro_assign (up_n (up_m rfl up_h))) rfl <| ae8 (up_m rfl (up_n (u8 rfl s2_15))) (up_m rfl (up_n (u8 rfl s3_15))) (up_m rfl (up_n (u8 rfl s4_15))) (up_m rfl (up_n (u8 rfl s7_15))) (up_m rfl (up_n (u8 rfl s8_15))) (up_m rfl (up_n (u8 rfl s9_15))) (up_m rfl (up_n up_h)) up_h ?_; clear s2_15 s3_15 s4_15 s7_15 s8_15 s9_15; intro e_19 s2_19 s3_19 s4_19 s7_19 s8_19 s9_19 s10_19 s11_19
   refine then_n <| aw_seq <| aw_seq <| at_ <| ar (ro_move s7_19) rfl <| ar (ro_neq up_h ev_c) rfl <| ae9 (u2 rfl s2_19) (u2 rfl s3_19) (u2 rfl s4_19) (u2 rfl s7_19) (u2 rfl s8_19) (u2 rfl s9_19) (u2 rfl s10_19) (u2 rfl s11_19) up_h ?_; clear s10_19 s11_19 s2_19 s3_19 s4_19 s7_19 s8_19 s9_19; intro e_20 s2_20 s3_20 s4_20 s7_20 s8_20 s9_20 s10_20 s11_20 s49_20
   refine then_n <| aw_case s49_20 (fun hq_21 => ?_) (fun hq_21 => ?_)
   ·replace hq_21 := bnt hq_21
    refine aw_seq <| at_ <| ar (ro_move s9_20) rfl <| ar (ro_move (up_m rfl s7_20)) rfl <| ar (ro_eql (up_m rfl up_h) up_h) rfl ?_
    refine ar (ro_move up_h) rfl <| al_case up_h (fun hb_22 hq_22 => ?_) (fun hb_22 hq_22 => ?_)
    ·replace hq_22 := bt hq_22
     refine al_ro' (ro_move (u4 rfl s11_20)) ⟨_, rfl, hb_22⟩ rfl ?_
     refine al_ro' (ro_move (up_m rfl (u4 rfl s7_20))) ⟨_, rfl, (up_m rfl hb_22)⟩ rfl ?_
     refine al_ro' (ro_eql (up_m rfl up_h) up_h) ⟨_, rfl, (u2 rfl hb_22)⟩ rfl ?_
     refine ar (ro_pickT (up_m rfl (u2 rfl hb_22)) up_h) rfl <| ar (ro_move up_h) rfl <| al_case up_h (fun hb_23 hq_23 => ?_) (fun hb_23 hq_23 => ?_)
     ·replace hq_23 := bt hq_23
      refine al_ro' (ro_move (up_m rfl (u8 rfl s8_20))) ⟨_, rfl, hb_23⟩ rfl ?_
      refine al_ro' (ro_eql up_h ev_c) ⟨_, rfl, (up_m rfl hb_23)⟩ rfl ?_
      refine ar (ro_pickT (u2 rfl hb_23) up_h) rfl <| ar (ro_move up_h) rfl <| al_case up_h (fun hb_24 hq_24 => ?_) (fun hb_24 hq_24 => ?_)
      ·replace hq_24 := bt hq_24
       refine al_ro' (ro_eq (ro_ld_ptr y63_ty41 rfl mo2_18 (up_m rfl (u4 rfl (u8 rfl s10_20))) (nle rfl)) (by simp only [pS, Value.cells, Nat.reduceAdd] <;> rfl)) ⟨_, rfl, hb_24⟩ rfl ?_
       refine al_ro' (ro_build evP_nil y63_bz41 y63_bu41 y63_bp41 rfl) ⟨_, rfl, (up_m rfl hb_24)⟩ rfl ?_
       refine al_ro' (ro_sqeql (up_m rfl up_h) up_h rfl rfl y63_gq41 y63_sq41 (by decide)) ⟨_, rfl, (u2 rfl hb_24)⟩ rfl ?_
       refine ar (ro_pickT (up_m rfl (u2 rfl hb_24)) up_h) rfl <| ar (ro_assign up_h) rfl <| ae1 up_h ?_; clear hb_22 hb_23 hb_24 s10_20 s11_20 s2_20 s3_20 s49_20 s4_20 s7_20 s8_20 s9_20; intro e_25 s6_25
       refine then_n <| aw_ret <| then_r <| ret1 (.inr rfl) (by kernel_rfl) (resV_tmp s6_25) (.ro _ rfl) ?_
       clear s6_25 mo2_18 mo1_18 mo0_18 ml_18
       first | rfl | simp_all
      · cases hq_24
     · replace hq_23 := bf hq_23; exfalso; omega
    · replace hq_22 := bf hq_22; exfalso; omega
   · replace hq_21 := bnf hq_21; exfalso; omega
  · replace hq_10 := bf hq_10; exfalso; omega
set_option maxRecDepth 100000 in
set_option maxHeartbeats 4000000 in
theorem linePoses_far (l : Lin) (hf : fewL l = true) (hg : (linM l).2 = 0) (L c u p : Int) (hv : vehE L c u = 0) (hq : posB l u = false) : FnOk Try.prog 3 [lnA l, vehA L c u, mA p] (fun q => q = tbA true) := by
  refine fnOk_of (fn := Try.f3) 119 (by kernel_rfl) rfl (by kernel_rfl) (Nat.le_of_ble_eq_true rfl) ?_
  intro e_0 m_0 hA hm_0
  have s0_0 : evA e_0 (.tmp 0) = _ := hA 0 _ rfl
  have s1_0 : evA e_0 (.tmp 1) = _ := hA 1 _ rfl
  have s2_0 : evA e_0 (.tmp 2) = _ := hA 2 _ rfl
  have ml_0 : m_0.length = 0 := by rw [hm_0]; rfl
  clear hA hm_0
  have hl := fewL_sho hf; have hr := rgt_of hg; have hv2 := vehE_z.1 hv
  refine aw_seq <| at_ <| al_stm (st_box s0_0 rfl ml_0) trivial rfl (fun m_1 hm_1 => ?_)
  have mo0_1 := m_push hm_1 ml_0
  have ml_1 := m_push_l hm_1 ml_0
  have ml_1 : _ = 1 := ml_1
  clear hm_1
  refine al_stm (st_box (up_m rfl s1_0) rfl ml_1) trivial rfl (fun m_2 hm_2 => ?_)
  have mo1_2 := m_push hm_2 ml_1
  have mo0_2 := m_push_o hm_2 mo0_1
  have ml_2 := m_push_l hm_2 ml_1
  have ml_2 : _ = 2 := ml_2
  clear hm_2 mo0_1
  refine ar (ro_assign ev_c) rfl <| ae3 (up_m rfl (u2 rfl s2_0)) (u2 rfl up_h) (up_m rfl up_h) ?_; clear s0_0 s1_0 s2_0; intro e_3 s2_3 s3_3 s4_3
  refine then_n <| aw_seq <| aw_seq <| at_ <| ar (ro_call evL_nil rfl (awake_ok) y63_hcf12) rfl <| ar (ro_not up_h) rfl <| ae4 (u2 rfl s2_3) (u2 rfl s3_3) (u2 rfl s4_3) up_h ?_; clear s2_3 s3_3 s4_3; intro e_4 s2_4 s3_4 s4_4 s15_4
  refine then_n <| aw_case s15_4 (fun hq_5 => ?_) (fun hq_5 => ?_)
  · cases hq_5
  replace hq_5 := bf' hq_5
  refine aw_skip <| then_n <| aw_seq <| aw_seq <| at_ <| ar (ro_eq (ro_ld_ptr y63_ty26 rfl mo0_2 s3_4 (nle rfl)) (by simp only [pS, Value.cells, Nat.reduceAdd] <;> rfl)) rfl ?_
  refine ar (ro_call (evL_cons up_h evL_nil) rfl ((fewL_ok l).mono (fun q h => h.trans (by rw [hf]))) y63_hcf13) rfl ?_
  refine ar (ro_not up_h) rfl <| ae4 (up_m rfl (u2 rfl s2_4)) (up_m rfl (u2 rfl s3_4)) (up_m rfl (u2 rfl s4_4)) up_h ?_; clear s15_4 s2_4 s3_4 s4_4; intro e_6 s2_6 s3_6 s4_6 s18_6
  refine then_n <| aw_case s18_6 (fun hq_7 => ?_) (fun hq_7 => ?_)
  · cases hq_7
  replace hq_7 := bf' hq_7
  refine aw_skip <| then_n <| aw_seq <| at_ <| ar (ro_eq (ro_ld_ptr y63_ty26 rfl mo0_2 s3_6 (nle rfl)) (by simp only [pS, Value.cells, Nat.reduceAdd] <;> rfl)) rfl ?_
  refine ar (ro_call (evL_cons up_h evL_nil) rfl (lineErr_ok l hl) y63_hcf14) rfl <| ar (ro_assign up_h) rfl <| ae4 (up_m rfl (u2 rfl s2_6)) (up_m rfl (u2 rfl s3_6)) (up_m rfl (u2 rfl s4_6)) up_h ?_; clear s18_6 s2_6 s3_6 s4_6; intro e_8 s2_8 s3_8 s4_8 s7_8
  refine then_n <| aw_seq <| aw_seq <| at_ <| ar (ro_move s7_8) rfl <| ar (ro_eql up_h ev_c) rfl ?_
  refine ae5 (u2 rfl s2_8) (u2 rfl s3_8) (u2 rfl s4_8) (u2 rfl s7_8) up_h ?_; clear s2_8 s3_8 s4_8 s7_8; intro e_9 s2_9 s3_9 s4_9 s7_9 s22_9
  refine then_n <| aw_case s22_9 (fun hq_10 => ?_) (fun hq_10 => ?_)
  ·replace hq_10 := bt hq_10
   refine at_ <| ar (ro_eq (ro_ld_ptr y63_ty28 rfl mo1_2 s4_9 (nle rfl)) (by simp only [pS, Value.cells, Nat.reduceAdd] <;> rfl)) rfl ?_
   refine ar (ro_call (evL_cons up_h evL_nil) rfl (rVehicleErr_ok L c u) y63_hcf15) rfl <| ar (ro_assign up_h) rfl <| ae4 (up_m rfl (u2 rfl s2_9)) (up_m rfl (u2 rfl s3_9)) (up_m rfl (u2 rfl s4_9)) up_h ?_; clear s22_9 s2_9 s3_9 s4_9 s7_9; intro e_11 s2_11 s3_11 s4_11 s7_11
   refine then_n <| aw_seq <| aw_seq <| at_ <| ar (ro_move s7_11) rfl <| ar (ro_eql up_h ev_c) rfl ?_
   refine ar (ro_move up_h) rfl <| al_case up_h (fun hb_12 hq_12 => ?_) (fun hb_12 hq_12 => ?_)
   ·replace hq_12 := bt hq_12
    refine al_ro' (ro_eq (ro_ld_ptr y63_ty26 rfl mo0_2 (up_m rfl (u2 rfl s3_11)) (nle rfl)) (by simp only [pS, Value.cells, Nat.reduceAdd] <;> rfl)) ⟨_, rfl, hb_12⟩ rfl ?_
    refine al_ro' (ro_eq (ro_ld_ptr y63_ty28 rfl mo1_2 (u4 rfl s4_11) (nle rfl)) (by simp only [pS, Value.cells, Nat.reduceAdd] <;> rfl)) ⟨_, rfl, (up_m rfl hb_12)⟩ rfl ?_
    refine al_ro' (ro_call (evL_cons (up_m rfl up_h) (evL_cons up_h evL_nil)) rfl ((lposes_ok l hr L c u (by omega)).mono (fun q h => show q = tbA false from h.trans (by rw [hq]))) y63_hcf16) ⟨_, rfl, (u2 rfl hb_12)⟩ rfl ?_
    refine al_ro' (ro_not up_h) ⟨_, rfl, (up_m rfl (u2 rfl hb_12))⟩ rfl ?_
    refine ar (ro_pickT (u4 rfl hb_12) up_h) rfl <| ae5 (u8 rfl s2_11) (u8 rfl s3_11) (u8 rfl s4_11) (u8 rfl s7_11) up_h ?_; clear hb_12 s2_11 s3_11 s4_11 s7_11; intro e_13 s2_13 s3_13 s4_13 s7_13 s32_13
    refine then_n <| aw_case s32_13 (fun hq_14 => ?_) (fun hq_14 => ?_)
    ·replace hq_14 := bt' hq_14
     refine aw_seq <| at_ <| ar (ro_assign ev_c) rfl <| ae1 up_h ?_; clear s2_13 s32_13 s3_13 s4_13 s7_13; intro e_15 s6_15
     refine then_n <| aw_ret <| then_r <| ret1 (.inr rfl) (by kernel_rfl) (resV_tmp s6_15) (.ro _ rfl) ?_
     clear s6_15 mo1_2 mo0_2 ml_2
     first | rfl | simp_all
    · cases hq_14
   · replace hq_12 := bf hq_12; exfalso; omega
  · replace hq_10 := bf hq_10; exfalso; omega
set_option maxRecDepth 100000 in
set_option maxHeartbeats 4000000 in
theorem linePoses_some (l : Lin) (hf : fewL l = true) (hg : (linM l).2 = 0) (L c u p : Int) (hv : vehE L c u = 0) (hq : posB l u = true) (a1 b1 d1 e1 : Int) (hu : unA l L (fcA l L c u) = .agg [mA a1, mA b1, mA d1, mA e1]) (hE : unE (fcA l L c u) = 0) (hS : (fcA l L c u).isSome = true) : FnOk Try.prog 3 [lnA l, vehA L c u, mA p] (fun q => q = tbA true) := by
  refine fnOk_of (fn := Try.f3) 119 (by kernel_rfl) rfl (by kernel_rfl) (Nat.le_of_ble_eq_true rfl) ?_
  intro e_0 m_0 hA hm_0
  have s0_0 : evA e_0 (.tmp 0) = _ := hA 0 _ rfl
  have s1_0 : evA e_0 (.tmp 1) = _ := hA 1 _ rfl
  have s2_0 : evA e_0 (.tmp 2) = _ := hA 2 _ rfl
  have ml_0 : m_0.length = 0 := by rw [hm_0]; rfl
  clear hA hm_0
  have hl := fewL_sho hf; have hr := rgt_of hg; have hv2 := vehE_z.1 hv
  refine aw_seq <| at_ <| al_stm (st_box s0_0 rfl ml_0) trivial rfl (fun m_1 hm_1 => ?_)
  have mo0_1 := m_push hm_1 ml_0
  have ml_1 := m_push_l hm_1 ml_0
  have ml_1 : _ = 1 := ml_1
  clear hm_1
  refine al_stm (st_box (up_m rfl s1_0) rfl ml_1) trivial rfl (fun m_2 hm_2 => ?_)
  have mo1_2 := m_push hm_2 ml_1
  have mo0_2 := m_push_o hm_2 mo0_1
  have ml_2 := m_push_l hm_2 ml_1
  have ml_2 : _ = 2 := ml_2
  clear hm_2 mo0_1
  refine ar (ro_assign ev_c) rfl <| ae3 (up_m rfl (u2 rfl s2_0)) (u2 rfl up_h) (up_m rfl up_h) ?_; clear s0_0 s1_0 s2_0; intro e_3 s2_3 s3_3 s4_3
  refine then_n <| aw_seq <| aw_seq <| at_ <| ar (ro_call evL_nil rfl (awake_ok) y63_hcf12) rfl <| ar (ro_not up_h) rfl <| ae4 (u2 rfl s2_3) (u2 rfl s3_3) (u2 rfl s4_3) up_h ?_; clear s2_3 s3_3 s4_3; intro e_4 s2_4 s3_4 s4_4 s15_4
  refine then_n <| aw_case s15_4 (fun hq_5 => ?_) (fun hq_5 => ?_)
  · cases hq_5
  replace hq_5 := bf' hq_5
  refine aw_skip <| then_n <| aw_seq <| aw_seq <| at_ <| ar (ro_eq (ro_ld_ptr y63_ty26 rfl mo0_2 s3_4 (nle rfl)) (by simp only [pS, Value.cells, Nat.reduceAdd] <;> rfl)) rfl ?_
  refine ar (ro_call (evL_cons up_h evL_nil) rfl ((fewL_ok l).mono (fun q h => h.trans (by rw [hf]))) y63_hcf13) rfl ?_
  refine ar (ro_not up_h) rfl <| ae4 (up_m rfl (u2 rfl s2_4)) (up_m rfl (u2 rfl s3_4)) (up_m rfl (u2 rfl s4_4)) up_h ?_; clear s15_4 s2_4 s3_4 s4_4; intro e_6 s2_6 s3_6 s4_6 s18_6
  refine then_n <| aw_case s18_6 (fun hq_7 => ?_) (fun hq_7 => ?_)
  · cases hq_7
  replace hq_7 := bf' hq_7
  refine aw_skip <| then_n <| aw_seq <| at_ <| ar (ro_eq (ro_ld_ptr y63_ty26 rfl mo0_2 s3_6 (nle rfl)) (by simp only [pS, Value.cells, Nat.reduceAdd] <;> rfl)) rfl ?_
  refine ar (ro_call (evL_cons up_h evL_nil) rfl (lineErr_ok l hl) y63_hcf14) rfl <| ar (ro_assign up_h) rfl <| ae4 (up_m rfl (u2 rfl s2_6)) (up_m rfl (u2 rfl s3_6)) (up_m rfl (u2 rfl s4_6)) up_h ?_; clear s18_6 s2_6 s3_6 s4_6; intro e_8 s2_8 s3_8 s4_8 s7_8
  refine then_n <| aw_seq <| aw_seq <| at_ <| ar (ro_move s7_8) rfl <| ar (ro_eql up_h ev_c) rfl ?_
  refine ae5 (u2 rfl s2_8) (u2 rfl s3_8) (u2 rfl s4_8) (u2 rfl s7_8) up_h ?_; clear s2_8 s3_8 s4_8 s7_8; intro e_9 s2_9 s3_9 s4_9 s7_9 s22_9
  refine then_n <| aw_case s22_9 (fun hq_10 => ?_) (fun hq_10 => ?_)
  ·replace hq_10 := bt hq_10
   refine at_ <| ar (ro_eq (ro_ld_ptr y63_ty28 rfl mo1_2 s4_9 (nle rfl)) (by simp only [pS, Value.cells, Nat.reduceAdd] <;> rfl)) rfl ?_
   refine ar (ro_call (evL_cons up_h evL_nil) rfl (rVehicleErr_ok L c u) y63_hcf15) rfl <| ar (ro_assign up_h) rfl <| ae4 (up_m rfl (u2 rfl s2_9)) (up_m rfl (u2 rfl s3_9)) (up_m rfl (u2 rfl s4_9)) up_h ?_; clear s22_9 s2_9 s3_9 s4_9 s7_9; intro e_11 s2_11 s3_11 s4_11 s7_11
   refine then_n <| aw_seq <| aw_seq <| at_ <| ar (ro_move s7_11) rfl <| ar (ro_eql up_h ev_c) rfl ?_
   refine ar (ro_move up_h) rfl <| al_case up_h (fun hb_12 hq_12 => ?_) (fun hb_12 hq_12 => ?_)
   ·replace hq_12 := bt hq_12
    refine al_ro' (ro_eq (ro_ld_ptr y63_ty26 rfl mo0_2 (up_m rfl (u2 rfl s3_11)) (nle rfl)) (by simp only [pS, Value.cells, Nat.reduceAdd] <;> rfl)) ⟨_, rfl, hb_12⟩ rfl ?_
    refine al_ro' (ro_eq (ro_ld_ptr y63_ty28 rfl mo1_2 (u4 rfl s4_11) (nle rfl)) (by simp only [pS, Value.cells, Nat.reduceAdd] <;> rfl)) ⟨_, rfl, (up_m rfl hb_12)⟩ rfl ?_
    refine al_ro' (ro_call (evL_cons (up_m rfl up_h) (evL_cons up_h evL_nil)) rfl ((lposes_ok l hr L c u (by omega)).mono (fun q h => show q = tbA true from h.trans (by rw [hq]))) y63_hcf16) ⟨_, rfl, (u2 rfl hb_12)⟩ rfl ?_
    refine al_ro' (ro_not up_h) ⟨_, rfl, (up_m rfl (u2 rfl hb_12))⟩ rfl ?_
    refine ar (ro_pickT (u4 rfl hb_12) up_h) rfl <| ae5 (u8 rfl s2_11) (u8 rfl s3_11) (u8 rfl s4_11) (u8 rfl s7_11) up_h ?_; clear hb_12 s2_11 s3_11 s4_11 s7_11; intro e_13 s2_13 s3_13 s4_13 s7_13 s32_13
    refine then_n <| aw_case s32_13 (fun hq_14 => ?_) (fun hq_14 => ?_)
    · cases hq_14
    replace hq_14 := bf' hq_14
    refine aw_skip <| then_n <| aw_seq <| aw_draw 10 (by kernel_rfl) (by kernel_rfl) (by kernel_rfl) (by kernel_rfl) ?_
    refine dr (ro_eq (ro_ld_ptr y63_ty26 rfl mo0_2 s3_13 (nle rfl)) (by simp only [pS, Value.cells, Nat.reduceAdd] <;> rfl)) rfl ?_
    refine dr (ro_call (evL_cons up_h evL_nil) rfl (yCopy_ok l hl) y63_hcf18) rfl <| dr (ro_eq (ro_ld_ptr y63_ty28 rfl mo1_2 (u2 rfl s4_13) (nle rfl)) (by simp only [pS, Value.cells, Nat.reduceAdd] <;> rfl)) rfl ?_
    refine dr (ro_move (up_m rfl (u2 rfl s2_13))) rfl <| dr (ro_call (evL_cons (u2 rfl up_h) (evL_cons (up_m rfl up_h) (evL_cons up_h evL_nil))) rfl (clearAt_any l hl hg L c u p hv) y63_hcf17) rfl <| dr (ro_move up_h) rfl <| dr (ro_extract up_h rfl) rfl <| dr (ro_extract (up_m rfl up_h) rfl) rfl <| dr (ro_assign (up_m rfl up_h)) rfl <| dr (ro_assign (up_m rfl up_h)) rfl <| ds_nil <| ae6 (u2 rfl (u8 rfl s2_13)) (u2 rfl (u8 rfl s3_13)) (u2 rfl (u8 rfl s4_13)) (u2 rfl (u8 rfl s7_13)) (up_m rfl up_h) up_h ?_; clear s2_13 s32_13 s3_13 s4_13 s7_13; intro e_16 s2_16 s3_16 s4_16 s7_16 s8_16 s9_16
    refine then_n <| aw_seq <| aw_drawK 9 1 ml_2 (by kernel_rfl) (by kernel_rfl) (by kernel_rfl) (by kernel_rfl) (fun m_17 hm_17 => ?_)
    have mo1_17 := m_room_o hm_17 mo1_2
    have mo0_17 := m_room_o hm_17 mo0_2
    have mo2_17 : m_17[2]? = _ := m_room_g hm_17 ml_2 0 rfl rfl
    have ml_17 : _ = 3 := m_room_l (K := 1) hm_17 ml_2
    clear hm_17 mo1_2 mo0_2 ml_2
    refine dh_ld (0) (fun M_ hM_ => (ro_eq (ro_ld_ptr y63_ty26 rfl (agr hM_ mo0_17 (by simp)) s3_16 (nle rfl)) (by simp only [pS, Value.cells, Nat.reduceAdd] <;> rfl))) trivial trivial ?_
    refine dh_ro (fun M_ hM_ => (ro_call (evL_cons up_h evL_nil) rfl (yCopy_ok l hl) y63_hcf18)) trivial ?_
    refine dh_ld (1) (fun M_ hM_ => (ro_eq (ro_ld_ptr y63_ty28 rfl (agr hM_ mo1_17 (by simp)) (u2 rfl s4_16) (nle rfl)) (by simp only [pS, Value.cells, Nat.reduceAdd] <;> rfl))) trivial trivial ?_
    refine dh_ro (fun M_ hM_ => (ro_call (evL_cons (up_m rfl up_h) (evL_cons up_h evL_nil)) rfl ((firstUnclear_good l hl hg L c u hv).mono (fun q h => show q = .tuple [.agg [mA a1, mA b1, mA d1, mA e1], mA 0] from h.trans (by rw [hu, hE]))) y63_hcf19)) trivial ?_
    refine dh_ro (fun M_ hM_ => (ro_move up_h)) trivial ?_
    refine dh_ro (fun M_ hM_ => (ro_extract up_h rfl)) trivial ?_
    refine dh_ro (fun M_ hM_ => (ro_extract (up_m rfl up_h) rfl)) trivial ?_
    refine dh_nw (2) (fun M_ hM_ => (nw_alloc y63_az41 rfl)) trivial mo2_17 rfl trivial ⟨.inl (by simp <;> omega), ⟨.inl (by simp <;> omega), trivial⟩⟩ (fun m_18 hm_18 => ?_)
    have mo2_18 := m_set hm_18 mo2_17
    simp only [pS, Value.cells, Nat.reduceAdd] at mo2_18
    have mo1_18 := m_set_o hm_18 mo1_17 (by decide)
    have mo0_18 := m_set_o hm_18 mo0_17 (by decide)
    have ml_18 := m_set_l hm_18 ml_17
    clear hm_18 mo1_17 mo0_17 mo2_17
    refine dh_set (2) (fun M_ hM_ => (se_store up_h (u2 rfl up_h) rfl rfl (agr hM_ mo2_18 (by simp)) y63_sz41 rfl (nle rfl))) trivial ⟨.inr (wt_one 8 7 (by kernel_rfl)), trivial⟩ ⟨.inl (by simp <;> omega), ⟨.inl (by simp <;> omega), ⟨.inr (wt_one 8 7 (by kernel_rfl)), trivial⟩⟩⟩ (fun m_19 hm_19 => ?_)
    have mo2_19 := m_set hm_19 mo2_18
    simp only [pS, Value.cells, Nat.reduceAdd] at mo2_19
    have mo1_19 := m_set_o hm_19 mo1_18 (by decide)
    have mo0_19 := m_set_o hm_19 mo0_18 (by decide)
    have ml_19 := m_set_l hm_19 ml_18
    clear hm_19 mo2_18 mo1_18 mo0_18
    refine dh_nil rfl ?_
    refine ar (ro_assign (up_n (up_m rfl up_h))) rfl <| ae8 (up_m rfl (up_n (u8 rfl s2_16))) (up_m rfl (up_n (u8 rfl s3_16))) (up_m rfl (up_n (u8 rfl s4_16))) (up_m rfl (up_n (u8 rfl s7_16))) (up_m rfl (up_n (u8 rfl s8_16))) (up_m rfl (up_n (u8 rfl s9_16))) (up_m rfl (up_n up_h)) up_h ?_; clear s2_16 s3_16 s4_16 s7_16 s8_16 s9_16; intro e_20 s2_20 s3_20 s4_20 s7_20 s8_20 s9_20 s10_20 s11_20
    refine then_n <| aw_seq <| aw_seq <| at_ <| ar (ro_move s7_20) rfl <| ar (ro_neq up_h ev_c) rfl <| ae9 (u2 rfl s2_20) (u2 rfl s3_20) (u2 rfl s4_20) (u2 rfl s7_20) (u2 rfl s8_20) (u2 rfl s9_20) (u2 rfl s10_20) (u2 rfl s11_20) up_h ?_; clear s10_20 s11_20 s2_20 s3_20 s4_20 s7_20 s8_20 s9_20; intro e_21 s2_21 s3_21 s4_21 s7_21 s8_21 s9_21 s10_21 s11_21 s49_21
    refine then_n <| aw_case s49_21 (fun hq_22 => ?_) (fun hq_22 => ?_)
    · replace hq_22 := bnt hq_22; exfalso; omega
    replace hq_22 := bnf hq_22
    refine aw_skip <| then_n <| aw_seq <| at_ <| ar (ro_eq (ro_ld_ptr y63_ty26 rfl mo0_19 s3_21 (nle rfl)) (by simp only [pS, Value.cells, Nat.reduceAdd] <;> rfl)) rfl ?_
    refine ar (ro_eq (ro_ld_ptr y63_ty28 rfl mo1_19 (up_m rfl s4_21) (nle rfl)) (by simp only [pS, Value.cells, Nat.reduceAdd] <;> rfl)) rfl ?_
    refine ar (ro_call (evL_cons (up_m rfl up_h) (evL_cons up_h evL_nil)) rfl ((rFirstUnclear_ok l hr L c u hv).mono (fun q h => show q = .tuple [.agg [mA a1, mA b1, mA d1, mA e1], tbA true] from h.trans (by rw [hu, hS]))) y63_hcf20) rfl ?_
    refine ar (ro_move up_h) rfl <| ar (ro_extract up_h rfl) rfl <| ar (ro_extract (up_m rfl up_h) rfl) rfl <| al_stm (st_alloc y63_az41 rfl ml_19) trivial rfl (fun m_30 hm_30 => ?_)
    have mo3_30 := m_push hm_30 ml_19
    simp only [pS, Value.cells, Nat.reduceAdd] at mo3_30
    have mo2_30 := m_push_o hm_30 mo2_19
    have mo1_30 := m_push_o hm_30 mo1_19
    have mo0_30 := m_push_o hm_30 mo0_19
    have ml_30 := m_push_l hm_30 ml_19
    have ml_30 : _ = 4 := ml_30
    clear hm_30 mo2_19 mo1_19 mo0_19
    refine al_stm (st_store up_h (u2 rfl up_h) rfl rfl mo3_30 y63_sz41 rfl (nle rfl)) trivial rfl (fun m_31 hm_31 => ?_)
    have mo3_31 := m_set hm_31 mo3_30
    simp only [pS, Value.cells, Nat.reduceAdd] at mo3_31
    have mo2_31 := m_set_o hm_31 mo2_30 (by decide)
    have mo1_31 := m_set_o hm_31 mo1_30 (by decide)
    have mo0_31 := m_set_o hm_31 mo0_30 (by decide)
    have ml_31 := m_set_l hm_31 ml_30
    clear hm_31 mo3_30 mo2_30 mo1_30 mo0_30
    refine ar (ro_assign (up_n (up_m rfl up_h))) rfl <| ae9 (up_m rfl (up_n (up_m rfl (u2 rfl (u4 rfl s2_21))))) (up_m rfl (up_n (up_m rfl (u2 rfl (u4 rfl s3_21))))) (up_m rfl (up_n (up_m rfl (u2 rfl (u4 rfl s4_21))))) (up_m rfl (up_n (up_m rfl (u2 rfl (u4 rfl s8_21))))) (up_m rfl (up_n (up_m rfl (u2 rfl (u4 rfl s9_21))))) (up_m rfl (up_n (up_m rfl (u2 rfl (u4 rfl s10_21))))) (up_m rfl (up_n (up_m rfl (u2 rfl (u4 rfl s11_21))))) (up_m rfl (up_n up_h)) up_h ?_; clear s10_21 s11_21 s2_21 s3_21 s49_21 s4_21 s7_21 s8_21 s9_21; intro e_32 s2_32 s3_32 s4_32 s8_32 s9_32 s10_32 s11_32 s12_32 s13_32
    refine then_n <| aw_seq <| aw_seq <| at_ <| ar (ro_move s13_32) rfl <| ar (ro_move up_h) rfl <| al_case up_h (fun hb_33 hq_33 => ?_) (fun hb_33 hq_33 => ?_)
    ·skip
     refine al_ro' (ro_move (u2 rfl s11_32)) ⟨_, rfl, hb_33⟩ rfl ?_
     refine al_ro' (ro_neq up_h ev_c) ⟨_, rfl, (up_m rfl hb_33)⟩ rfl ?_
     refine al_ro' (ro_move up_h) ⟨_, rfl, (u2 rfl hb_33)⟩ rfl ?_
     refine al_case up_h (fun hb_34 hq_34 => ?_) (fun hb_34 hq_34 => ?_)
     · cases hq_34
     replace hq_34 := bnf hq_34
     refine al_ro' (ro_eq (ro_ld_ptr y63_ty41 rfl mo2_31 (up_m rfl (u4 rfl s10_32)) (nle rfl)) (by simp only [pS, Value.cells, Nat.reduceAdd] <;> rfl)) ⟨_, rfl, hb_34⟩ rfl ?_
     refine al_ro' (ro_eq (ro_ld_ptr y63_ty41 rfl mo3_31 (u2 rfl (u4 rfl s12_32)) (nle rfl)) (by simp only [pS, Value.cells, Nat.reduceAdd] <;> rfl)) ⟨_, rfl, (up_m rfl hb_34)⟩ rfl ?_
     refine al_ro' (ro_sqneq (up_m rfl up_h) up_h rfl rfl y63_gq41 y63_sq41 (by decide)) ⟨_, rfl, (u2 rfl hb_34)⟩ rfl ?_
     refine al_ro' (ro_pickF (up_m rfl (u2 rfl hb_34)) up_h) ⟨_, rfl, (u2 rfl (u4 rfl hb_33))⟩ rfl ?_
     refine ar (ro_pickT (up_m rfl (u2 rfl (u4 rfl hb_33))) up_h) rfl <| ar (ro_move up_h) rfl <| al_case up_h (fun hb_38 hq_38 => ?_) (fun hb_38 hq_38 => ?_)
     · first | (simp at hq_38; done) | (exact absurd hg hq_38) | (exact absurd hq_38 hg) | (exact absurd hq_38 hv) | (exact absurd hv hq_38) | (simp_all; done)
     replace hq_38 := bf' hq_38
     refine al_ro' (ro_move (up_m rfl (u2 rfl (u8 rfl s13_32)))) ⟨_, rfl, hb_38⟩ rfl ?_
     refine al_ro' (ro_not up_h) ⟨_, rfl, (up_m rfl hb_38)⟩ rfl ?_
     refine al_ro' (ro_move up_h) ⟨_, rfl, (u2 rfl hb_38)⟩ rfl ?_
     refine al_case up_h (fun hb_42 hq_42 => ?_) (fun hb_42 hq_42 => ?_)
     · cases hq_42
     replace hq_42 := bf' hq_42
     refine al_skip' ⟨_, rfl, .inl hb_42⟩ rfl ?_
     refine al_skip' ⟨_, rfl, .inl (up_m rfl hb_42)⟩ rfl ?_
     refine al_skip' ⟨_, rfl, .inl (u2 rfl hb_42)⟩ rfl ?_
     refine al_skip' ⟨_, rfl, .inr up_h⟩ rfl ?_
     refine al_skip' ⟨_, rfl, .inr (up_m rfl up_h)⟩ rfl ?_
     refine al_skip' ⟨_, rfl, .inr (u2 rfl up_h)⟩ rfl ?_
     refine al_skip' ⟨_, rfl, .inl (u2 rfl (u4 rfl hb_42))⟩ rfl ?_
     refine al_ro' (ro_pickF (up_m rfl (u2 rfl (u4 rfl hb_42))) ev_c) ⟨_, rfl, (u2 rfl (u8 rfl hb_38))⟩ rfl ?_
     refine ar (ro_pickF (up_m rfl (u2 rfl (u8 rfl hb_38))) up_h) rfl <| ae6 (up_m rfl (u2 rfl (u4 rfl (u16 rfl s2_32)))) (up_m rfl (u2 rfl (u4 rfl (u16 rfl s3_32)))) (up_m rfl (u2 rfl (u4 rfl (u16 rfl s4_32)))) (up_m rfl (u2 rfl (u4 rfl (u16 rfl s8_32)))) (up_m rfl (u2 rfl (u4 rfl (u16 rfl s9_32)))) up_h ?_; clear hb_33 hb_34 hb_38 hb_42 s10_32 s11_32 s12_32 s13_32 s2_32 s3_32 s4_32 s8_32 s9_32; intro e_59 s2_59 s3_59 s4_59 s8_59 s9_59 s95_59
     refine then_n <| aw_false s95_59 <| aw_skip <| then_n <| aw_seq <| aw_seq <| at_ <| ar (ro_eq (ro_ld_ptr y63_ty26 rfl mo0_31 s3_59 (nle rfl)) (by simp only [pS, Value.cells, Nat.reduceAdd] <;> rfl)) rfl ?_
     refine ar (ro_eq (ro_ld_ptr y63_ty28 rfl mo1_31 (up_m rfl s4_59) (nle rfl)) (by simp only [pS, Value.cells, Nat.reduceAdd] <;> rfl)) rfl ?_
     refine ar (ro_move (u2 rfl s2_59)) rfl <| ar (ro_call (evL_cons (u2 rfl up_h) (evL_cons (up_m rfl up_h) (evL_cons up_h evL_nil))) rfl (rPoseErr_ok l hr L c u p (by omega) (by omega)) y63_hcf21) rfl ?_
     refine ar (ro_assign up_h) rfl <| ae6 (up_m rfl (u4 rfl s2_59)) (up_m rfl (u4 rfl s3_59)) (up_m rfl (u4 rfl s4_59)) up_h (up_m rfl (u4 rfl s8_59)) (up_m rfl (u4 rfl s9_59)) ?_; clear s2_59 s3_59 s4_59 s8_59 s95_59 s9_59; intro e_61 s2_61 s3_61 s4_61 s7_61 s8_61 s9_61
     refine then_n <| aw_seq <| at_ <| ar (ro_move s7_61) rfl <| ar (ro_neq up_h ev_c) rfl <| ae7 (u2 rfl s2_61) (u2 rfl s3_61) (u2 rfl s4_61) (u2 rfl s7_61) (u2 rfl s8_61) (u2 rfl s9_61) up_h ?_; clear s2_61 s3_61 s4_61 s7_61 s8_61 s9_61; intro e_62 s2_62 s3_62 s4_62 s7_62 s8_62 s9_62 s101_62
     refine then_n <| aw_case s101_62 (fun hq_63 => ?_) (fun hq_63 => ?_)
     ·replace hq_63 := bnt hq_63
      refine aw_seq <| at_ <| ar (ro_move s9_62) rfl <| ar (ro_move (up_m rfl s7_62)) rfl <| ar (ro_eql (up_m rfl up_h) up_h) rfl ?_
      refine ar (ro_move up_h) rfl <| al_case up_h (fun hb_64 hq_64 => ?_) (fun hb_64 hq_64 => ?_)
      ·replace hq_64 := bt hq_64
       refine al_ro' (ro_move (u4 rfl s8_62)) ⟨_, rfl, hb_64⟩ rfl ?_
       refine al_ro' (ro_eql up_h ev_c) ⟨_, rfl, (up_m rfl hb_64)⟩ rfl ?_
       refine ar (ro_pickT (u2 rfl hb_64) up_h) rfl <| ar (ro_assign up_h) rfl <| ae1 up_h ?_; clear hb_64 s101_62 s2_62 s3_62 s4_62 s7_62 s8_62 s9_62; intro e_65 s6_65
       refine then_n <| aw_ret <| then_r <| ret1 (.inr rfl) (by kernel_rfl) (resV_tmp s6_65) (.ro _ rfl) ?_
       clear s6_65 mo3_31 mo2_31 mo1_31 mo0_31 ml_31
       first | rfl | simp_all
      · replace hq_64 := bf hq_64; exfalso; omega
     replace hq_63 := bnf hq_63
     refine aw_skip <| then_n <| aw_seq <| at_ <| ar (ro_move s9_62) rfl <| ar (ro_eql up_h ev_c) rfl ?_
     refine ar (ro_move up_h) rfl <| al_case up_h (fun hb_67 hq_67 => ?_) (fun hb_67 hq_67 => ?_)
     ·replace hq_67 := bt hq_67
      refine al_ro' (ro_move (up_m rfl (u2 rfl s8_62))) ⟨_, rfl, hb_67⟩ rfl ?_
      refine al_ro' (ro_eq (ro_ld_ptr y63_ty26 rfl mo0_31 (u4 rfl s3_62) (nle rfl)) (by simp only [pS, Value.cells, Nat.reduceAdd] <;> rfl)) ⟨_, rfl, (up_m rfl hb_67)⟩ rfl ?_
      refine al_ro' (ro_eq (ro_ld_ptr y63_ty28 rfl mo1_31 (up_m rfl (u4 rfl s4_62)) (nle rfl)) (by simp only [pS, Value.cells, Nat.reduceAdd] <;> rfl)) ⟨_, rfl, (u2 rfl hb_67)⟩ rfl ?_
      refine al_ro' (ro_move (u2 rfl (u4 rfl s2_62))) ⟨_, rfl, (up_m rfl (u2 rfl hb_67))⟩ rfl ?_
      refine al_ro' (ro_call (evL_cons (u2 rfl up_h) (evL_cons (up_m rfl up_h) (evL_cons up_h evL_nil))) rfl (rClearAt_ok l hr L c u p hv (by assumption)) y63_hcf22) ⟨_, rfl, (u4 rfl hb_67)⟩ rfl ?_
      refine al_ro' (ro_eql (u4 rfl up_h) up_h) ⟨_, rfl, (up_m rfl (u4 rfl hb_67))⟩ rfl ?_
      refine ar (ro_pickT (u2 rfl (u4 rfl hb_67)) up_h) rfl <| ar (ro_assign up_h) rfl <| ae1 up_h ?_; clear hb_67 s101_62 s2_62 s3_62 s4_62 s7_62 s8_62 s9_62; intro e_68 s6_68
      refine then_n <| aw_ret <| ret1 (.inr rfl) (by kernel_rfl) (resV_tmp s6_68) (.ro _ rfl) ?_
      clear s6_68 mo3_31 mo2_31 mo1_31 mo0_31 ml_31
      first | rfl | simp_all
     · replace hq_67 := bf hq_67; exfalso; omega
    · cases hq_33
   · replace hq_12 := bf hq_12; exfalso; omega
  · replace hq_10 := bf hq_10; exfalso; omega
set_option maxRecDepth 100000 in
set_option maxHeartbeats 4000000 in
theorem linePoses_none (l : Lin) (hf : fewL l = true) (hg : (linM l).2 = 0) (L c u p : Int) (hv : vehE L c u = 0) (hq : posB l u = true) (hA : fcA l L c u = none) : FnOk Try.prog 3 [lnA l, vehA L c u, mA p] (fun q => q = tbA true) := by
  refine fnOk_of (fn := Try.f3) 119 (by kernel_rfl) rfl (by kernel_rfl) (Nat.le_of_ble_eq_true rfl) ?_
  intro e_0 m_0 hA hm_0
  have s0_0 : evA e_0 (.tmp 0) = _ := hA 0 _ rfl
  have s1_0 : evA e_0 (.tmp 1) = _ := hA 1 _ rfl
  have s2_0 : evA e_0 (.tmp 2) = _ := hA 2 _ rfl
  have ml_0 : m_0.length = 0 := by rw [hm_0]; rfl
  clear hA hm_0
  have hl := fewL_sho hf; have hr := rgt_of hg; have hv2 := vehE_z.1 hv
  refine aw_seq <| at_ <| al_stm (st_box s0_0 rfl ml_0) trivial rfl (fun m_1 hm_1 => ?_)
  have mo0_1 := m_push hm_1 ml_0
  have ml_1 := m_push_l hm_1 ml_0
  have ml_1 : _ = 1 := ml_1
  clear hm_1
  refine al_stm (st_box (up_m rfl s1_0) rfl ml_1) trivial rfl (fun m_2 hm_2 => ?_)
  have mo1_2 := m_push hm_2 ml_1
  have mo0_2 := m_push_o hm_2 mo0_1
  have ml_2 := m_push_l hm_2 ml_1
  have ml_2 : _ = 2 := ml_2
  clear hm_2 mo0_1
  refine ar (ro_assign ev_c) rfl <| ae3 (up_m rfl (u2 rfl s2_0)) (u2 rfl up_h) (up_m rfl up_h) ?_; clear s0_0 s1_0 s2_0; intro e_3 s2_3 s3_3 s4_3
  refine then_n <| aw_seq <| aw_seq <| at_ <| ar (ro_call evL_nil rfl (awake_ok) y63_hcf12) rfl <| ar (ro_not up_h) rfl <| ae4 (u2 rfl s2_3) (u2 rfl s3_3) (u2 rfl s4_3) up_h ?_; clear s2_3 s3_3 s4_3; intro e_4 s2_4 s3_4 s4_4 s15_4
  refine then_n <| aw_case s15_4 (fun hq_5 => ?_) (fun hq_5 => ?_)
  · cases hq_5
  replace hq_5 := bf' hq_5
  refine aw_skip <| then_n <| aw_seq <| aw_seq <| at_ <| ar (ro_eq (ro_ld_ptr y63_ty26 rfl mo0_2 s3_4 (nle rfl)) (by simp only [pS, Value.cells, Nat.reduceAdd] <;> rfl)) rfl ?_
  refine ar (ro_call (evL_cons up_h evL_nil) rfl ((fewL_ok l).mono (fun q h => h.trans (by rw [hf]))) y63_hcf13) rfl ?_
  refine ar (ro_not up_h) rfl <| ae4 (up_m rfl (u2 rfl s2_4)) (up_m rfl (u2 rfl s3_4)) (up_m rfl (u2 rfl s4_4)) up_h ?_; clear s15_4 s2_4 s3_4 s4_4; intro e_6 s2_6 s3_6 s4_6 s18_6
  refine then_n <| aw_case s18_6 (fun hq_7 => ?_) (fun hq_7 => ?_)
  · cases hq_7
  replace hq_7 := bf' hq_7
  refine aw_skip <| then_n <| aw_seq <| at_ <| ar (ro_eq (ro_ld_ptr y63_ty26 rfl mo0_2 s3_6 (nle rfl)) (by simp only [pS, Value.cells, Nat.reduceAdd] <;> rfl)) rfl ?_
  refine ar (ro_call (evL_cons up_h evL_nil) rfl (lineErr_ok l hl) y63_hcf14) rfl <| ar (ro_assign up_h) rfl <| ae4 (up_m rfl (u2 rfl s2_6)) (up_m rfl (u2 rfl s3_6)) (up_m rfl (u2 rfl s4_6)) up_h ?_; clear s18_6 s2_6 s3_6 s4_6; intro e_8 s2_8 s3_8 s4_8 s7_8
  refine then_n <| aw_seq <| aw_seq <| at_ <| ar (ro_move s7_8) rfl <| ar (ro_eql up_h ev_c) rfl ?_
  refine ae5 (u2 rfl s2_8) (u2 rfl s3_8) (u2 rfl s4_8) (u2 rfl s7_8) up_h ?_; clear s2_8 s3_8 s4_8 s7_8; intro e_9 s2_9 s3_9 s4_9 s7_9 s22_9
  refine then_n <| aw_case s22_9 (fun hq_10 => ?_) (fun hq_10 => ?_)
  ·replace hq_10 := bt hq_10
   refine at_ <| ar (ro_eq (ro_ld_ptr y63_ty28 rfl mo1_2 s4_9 (nle rfl)) (by simp only [pS, Value.cells, Nat.reduceAdd] <;> rfl)) rfl ?_
   refine ar (ro_call (evL_cons up_h evL_nil) rfl (rVehicleErr_ok L c u) y63_hcf15) rfl <| ar (ro_assign up_h) rfl <| ae4 (up_m rfl (u2 rfl s2_9)) (up_m rfl (u2 rfl s3_9)) (up_m rfl (u2 rfl s4_9)) up_h ?_; clear s22_9 s2_9 s3_9 s4_9 s7_9; intro e_11 s2_11 s3_11 s4_11 s7_11
   refine then_n <| aw_seq <| aw_seq <| at_ <| ar (ro_move s7_11) rfl <| ar (ro_eql up_h ev_c) rfl ?_
   refine ar (ro_move up_h) rfl <| al_case up_h (fun hb_12 hq_12 => ?_) (fun hb_12 hq_12 => ?_)
   ·replace hq_12 := bt hq_12
    refine al_ro' (ro_eq (ro_ld_ptr y63_ty26 rfl mo0_2 (up_m rfl (u2 rfl s3_11)) (nle rfl)) (by simp only [pS, Value.cells, Nat.reduceAdd] <;> rfl)) ⟨_, rfl, hb_12⟩ rfl ?_
    refine al_ro' (ro_eq (ro_ld_ptr y63_ty28 rfl mo1_2 (u4 rfl s4_11) (nle rfl)) (by simp only [pS, Value.cells, Nat.reduceAdd] <;> rfl)) ⟨_, rfl, (up_m rfl hb_12)⟩ rfl ?_
    refine al_ro' (ro_call (evL_cons (up_m rfl up_h) (evL_cons up_h evL_nil)) rfl ((lposes_ok l hr L c u (by omega)).mono (fun q h => show q = tbA true from h.trans (by rw [hq]))) y63_hcf16) ⟨_, rfl, (u2 rfl hb_12)⟩ rfl ?_
    refine al_ro' (ro_not up_h) ⟨_, rfl, (up_m rfl (u2 rfl hb_12))⟩ rfl ?_
    refine ar (ro_pickT (u4 rfl hb_12) up_h) rfl <| ae5 (u8 rfl s2_11) (u8 rfl s3_11) (u8 rfl s4_11) (u8 rfl s7_11) up_h ?_; clear hb_12 s2_11 s3_11 s4_11 s7_11; intro e_13 s2_13 s3_13 s4_13 s7_13 s32_13
    refine then_n <| aw_case s32_13 (fun hq_14 => ?_) (fun hq_14 => ?_)
    · cases hq_14
    replace hq_14 := bf' hq_14
    refine aw_skip <| then_n <| aw_seq <| aw_draw 10 (by kernel_rfl) (by kernel_rfl) (by kernel_rfl) (by kernel_rfl) ?_
    refine dr (ro_eq (ro_ld_ptr y63_ty26 rfl mo0_2 s3_13 (nle rfl)) (by simp only [pS, Value.cells, Nat.reduceAdd] <;> rfl)) rfl ?_
    refine dr (ro_call (evL_cons up_h evL_nil) rfl (yCopy_ok l hl) y63_hcf18) rfl <| dr (ro_eq (ro_ld_ptr y63_ty28 rfl mo1_2 (u2 rfl s4_13) (nle rfl)) (by simp only [pS, Value.cells, Nat.reduceAdd] <;> rfl)) rfl ?_
    refine dr (ro_move (up_m rfl (u2 rfl s2_13))) rfl <| dr (ro_call (evL_cons (u2 rfl up_h) (evL_cons (up_m rfl up_h) (evL_cons up_h evL_nil))) rfl (clearAt_any l hl hg L c u p hv) y63_hcf17) rfl <| dr (ro_move up_h) rfl <| dr (ro_extract up_h rfl) rfl <| dr (ro_extract (up_m rfl up_h) rfl) rfl <| dr (ro_assign (up_m rfl up_h)) rfl <| dr (ro_assign (up_m rfl up_h)) rfl <| ds_nil <| ae6 (u2 rfl (u8 rfl s2_13)) (u2 rfl (u8 rfl s3_13)) (u2 rfl (u8 rfl s4_13)) (u2 rfl (u8 rfl s7_13)) (up_m rfl up_h) up_h ?_; clear s2_13 s32_13 s3_13 s4_13 s7_13; intro e_16 s2_16 s3_16 s4_16 s7_16 s8_16 s9_16
    refine then_n <| aw_seq <| aw_drawK 9 1 ml_2 (by kernel_rfl) (by kernel_rfl) (by kernel_rfl) (by kernel_rfl) (fun m_17 hm_17 => ?_)
    have mo1_17 := m_room_o hm_17 mo1_2
    have mo0_17 := m_room_o hm_17 mo0_2
    have mo2_17 : m_17[2]? = _ := m_room_g hm_17 ml_2 0 rfl rfl
    have ml_17 : _ = 3 := m_room_l (K := 1) hm_17 ml_2
    clear hm_17 mo1_2 mo0_2 ml_2
    refine dh_ld (0) (fun M_ hM_ => (ro_eq (ro_ld_ptr y63_ty26 rfl (agr hM_ mo0_17 (by simp)) s3_16 (nle rfl)) (by simp only [pS, Value.cells, Nat.reduceAdd] <;> rfl))) trivial trivial ?_
    refine dh_ro (fun M_ hM_ => (ro_call (evL_cons up_h evL_nil) rfl (yCopy_ok l hl) y63_hcf18)) trivial ?_
    refine dh_ld (1) (fun M_ hM_ => (ro_eq (ro_ld_ptr y63_ty28 rfl (agr hM_ mo1_17 (by simp)) (u2 rfl s4_16) (nle rfl)) (by simp only [pS, Value.cells, Nat.reduceAdd] <;> rfl))) trivial trivial ?_
    refine dh_ro (fun M_ hM_ => (ro_call (evL_cons (up_m rfl up_h) (evL_cons up_h evL_nil)) rfl ((firstUnclear_good l hl hg L c u hv).mono (fun q h => show q = .tuple [.agg [mA 0, mA 0, mA 0, mA 0], mA 12] from h.trans (by rw [hA]; rfl))) y63_hcf19)) trivial ?_
    refine dh_ro (fun M_ hM_ => (ro_move up_h)) trivial ?_
    refine dh_ro (fun M_ hM_ => (ro_extract up_h rfl)) trivial ?_
    refine dh_ro (fun M_ hM_ => (ro_extract (up_m rfl up_h) rfl)) trivial ?_
    refine dh_nw (2) (fun M_ hM_ => (nw_alloc y63_az41 rfl)) trivial mo2_17 rfl trivial ⟨.inl (by simp <;> omega), ⟨.inl (by simp <;> omega), trivial⟩⟩ (fun m_18 hm_18 => ?_)
    have mo2_18 := m_set hm_18 mo2_17
    simp only [pS, Value.cells, Nat.reduceAdd] at mo2_18
    have mo1_18 := m_set_o hm_18 mo1_17 (by decide)
    have mo0_18 := m_set_o hm_18 mo0_17 (by decide)
    have ml_18 := m_set_l hm_18 ml_17
    clear hm_18 mo1_17 mo0_17 mo2_17
    refine dh_set (2) (fun M_ hM_ => (se_store up_h (u2 rfl up_h) rfl rfl (agr hM_ mo2_18 (by simp)) y63_sz41 rfl (nle rfl))) trivial ⟨.inr (wt_one 8 7 (by kernel_rfl)), trivial⟩ ⟨.inl (by simp <;> omega), ⟨.inl (by simp <;> omega), ⟨.inr (wt_one 8 7 (by kernel_rfl)), trivial⟩⟩⟩ (fun m_19 hm_19 => ?_)
    have mo2_19 := m_set hm_19 mo2_18
    simp only [pS, Value.cells, Nat.reduceAdd] at mo2_19
    have mo1_19 := m_set_o hm_19 mo1_18 (by decide)
    have mo0_19 := m_set_o hm_19 mo0_18 (by decide)
    have ml_19 := m_set_l hm_19 ml_18
    clear hm_19 mo2_18 mo1_18 mo0_18
    refine dh_nil rfl ?_
    refine ar (ro_assign (up_n (up_m rfl up_h))) rfl <| ae8 (up_m rfl (up_n (u8 rfl s2_16))) (up_m rfl (up_n (u8 rfl s3_16))) (up_m rfl (up_n (u8 rfl s4_16))) (up_m rfl (up_n (u8 rfl s7_16))) (up_m rfl (up_n (u8 rfl s8_16))) (up_m rfl (up_n (u8 rfl s9_16))) (up_m rfl (up_n up_h)) up_h ?_; clear s2_16 s3_16 s4_16 s7_16 s8_16 s9_16; intro e_20 s2_20 s3_20 s4_20 s7_20 s8_20 s9_20 s10_20 s11_20
    refine then_n <| aw_seq <| aw_seq <| at_ <| ar (ro_move s7_20) rfl <| ar (ro_neq up_h ev_c) rfl <| ae9 (u2 rfl s2_20) (u2 rfl s3_20) (u2 rfl s4_20) (u2 rfl s7_20) (u2 rfl s8_20) (u2 rfl s9_20) (u2 rfl s10_20) (u2 rfl s11_20) up_h ?_; clear s10_20 s11_20 s2_20 s3_20 s4_20 s7_20 s8_20 s9_20; intro e_21 s2_21 s3_21 s4_21 s7_21 s8_21 s9_21 s10_21 s11_21 s49_21
    refine then_n <| aw_case s49_21 (fun hq_22 => ?_) (fun hq_22 => ?_)
    · replace hq_22 := bnt hq_22; exfalso; omega
    replace hq_22 := bnf hq_22
    refine aw_skip <| then_n <| aw_seq <| at_ <| ar (ro_eq (ro_ld_ptr y63_ty26 rfl mo0_19 s3_21 (nle rfl)) (by simp only [pS, Value.cells, Nat.reduceAdd] <;> rfl)) rfl ?_
    refine ar (ro_eq (ro_ld_ptr y63_ty28 rfl mo1_19 (up_m rfl s4_21) (nle rfl)) (by simp only [pS, Value.cells, Nat.reduceAdd] <;> rfl)) rfl ?_
    refine ar (ro_call (evL_cons (up_m rfl up_h) (evL_cons up_h evL_nil)) rfl ((rFirstUnclear_ok l hr L c u hv).mono (fun q h => show q = .tuple [.agg [mA 0, mA 0, mA 0, mA 0], tbA false] from h.trans (by rw [hA]; rfl))) y63_hcf20) rfl ?_
    refine ar (ro_move up_h) rfl <| ar (ro_extract up_h rfl) rfl <| ar (ro_extract (up_m rfl up_h) rfl) rfl <| al_stm (st_alloc y63_az41 rfl ml_19) trivial rfl (fun m_30 hm_30 => ?_)
    have mo3_30 := m_push hm_30 ml_19
    simp only [pS, Value.cells, Nat.reduceAdd] at mo3_30
    have mo2_30 := m_push_o hm_30 mo2_19
    have mo1_30 := m_push_o hm_30 mo1_19
    have mo0_30 := m_push_o hm_30 mo0_19
    have ml_30 := m_push_l hm_30 ml_19
    have ml_30 : _ = 4 := ml_30
    clear hm_30 mo2_19 mo1_19 mo0_19
    refine al_stm (st_store up_h (u2 rfl up_h) rfl rfl mo3_30 y63_sz41 rfl (nle rfl)) trivial rfl (fun m_31 hm_31 => ?_)
    have mo3_31 := m_set hm_31 mo3_30
    simp only [pS, Value.cells, Nat.reduceAdd] at mo3_31
    have mo2_31 := m_set_o hm_31 mo2_30 (by decide)
    have mo1_31 := m_set_o hm_31 mo1_30 (by decide)
    have mo0_31 := m_set_o hm_31 mo0_30 (by decide)
    have ml_31 := m_set_l hm_31 ml_30
    clear hm_31 mo3_30 mo2_30 mo1_30 mo0_30
    refine ar (ro_assign (up_n (up_m rfl up_h))) rfl <| ae9 (up_m rfl (up_n (up_m rfl (u2 rfl (u4 rfl s2_21))))) (up_m rfl (up_n (up_m rfl (u2 rfl (u4 rfl s3_21))))) (up_m rfl (up_n (up_m rfl (u2 rfl (u4 rfl s4_21))))) (up_m rfl (up_n (up_m rfl (u2 rfl (u4 rfl s8_21))))) (up_m rfl (up_n (up_m rfl (u2 rfl (u4 rfl s9_21))))) (up_m rfl (up_n (up_m rfl (u2 rfl (u4 rfl s10_21))))) (up_m rfl (up_n (up_m rfl (u2 rfl (u4 rfl s11_21))))) (up_m rfl (up_n up_h)) up_h ?_; clear s10_21 s11_21 s2_21 s3_21 s49_21 s4_21 s7_21 s8_21 s9_21; intro e_32 s2_32 s3_32 s4_32 s8_32 s9_32 s10_32 s11_32 s12_32 s13_32
    refine then_n <| aw_seq <| aw_seq <| at_ <| ar (ro_move s13_32) rfl <| ar (ro_move up_h) rfl <| al_case up_h (fun hb_33 hq_33 => ?_) (fun hb_33 hq_33 => ?_)
    · cases hq_33
    refine al_skip' ⟨_, rfl, .inl hb_33⟩ rfl ?_
    refine al_skip' ⟨_, rfl, .inl (up_m rfl hb_33)⟩ rfl ?_
    refine al_skip' ⟨_, rfl, .inl (u2 rfl hb_33)⟩ rfl ?_
    refine al_skip' ⟨_, rfl, .inr up_h⟩ rfl ?_
    refine al_skip' ⟨_, rfl, .inr (up_m rfl up_h)⟩ rfl ?_
    refine al_skip' ⟨_, rfl, .inr (u2 rfl up_h)⟩ rfl ?_
    refine al_skip' ⟨_, rfl, .inl (u2 rfl (u4 rfl hb_33))⟩ rfl ?_
    refine ar (ro_pickF (up_m rfl (u2 rfl (u4 rfl hb_33))) ev_c) rfl <| ar (ro_move up_h) rfl <| al_ro' (ro_move (up_m rfl (u2 rfl (u8 rfl s13_32)))) ⟨_, rfl, up_h⟩ rfl ?_
    refine al_ro' (ro_not up_h) ⟨_, rfl, (up_m rfl up_h)⟩ rfl ?_
    refine al_ro' (ro_move up_h) ⟨_, rfl, (u2 rfl up_h)⟩ rfl ?_
    refine al_case up_h (fun hb_70 hq_70 => ?_) (fun hb_70 hq_70 => ?_)
    ·replace hq_70 := bt' hq_70
     refine al_ro' (ro_move (u2 rfl (u4 rfl (u8 rfl s11_32)))) ⟨_, rfl, hb_70⟩ rfl ?_
     refine al_ro' (ro_neq up_h ev_c) ⟨_, rfl, (up_m rfl hb_70)⟩ rfl ?_
     refine al_ro' (ro_move up_h) ⟨_, rfl, (u2 rfl hb_70)⟩ rfl ?_
     refine al_case up_h (fun hb_71 hq_71 => ?_) (fun hb_71 hq_71 => ?_)
     · cases hq_71
     replace hq_71 := bnf hq_71
     refine al_ro' (ro_eq (ro_ld_ptr y63_ty41 rfl mo2_31 (up_m rfl (u16 rfl s10_32)) (nle rfl)) (by simp only [pS, Value.cells, Nat.reduceAdd] <;> rfl)) ⟨_, rfl, hb_71⟩ rfl ?_
     refine al_ro' (ro_build evP_nil y63_bz41 y63_bu41 y63_bp41 rfl) ⟨_, rfl, (up_m rfl hb_71)⟩ rfl ?_
     refine al_ro' (ro_sqneq (up_m rfl up_h) up_h rfl rfl y63_gq41 y63_sq41 (by decide)) ⟨_, rfl, (u2 rfl hb_71)⟩ rfl ?_
     refine al_ro' (ro_pickF (up_m rfl (u2 rfl hb_71)) up_h) ⟨_, rfl, (u2 rfl (u4 rfl hb_70))⟩ rfl ?_
     refine al_ro' (ro_pickT (up_m rfl (u2 rfl (u4 rfl hb_70))) up_h) ⟨_, rfl, (u2 rfl (u8 rfl up_h))⟩ rfl ?_
     refine ar (ro_pickF (up_m rfl (u2 rfl (u8 rfl up_h))) up_h) rfl <| ae6 (up_m rfl (u2 rfl (u4 rfl (u16 rfl s2_32)))) (up_m rfl (u2 rfl (u4 rfl (u16 rfl s3_32)))) (up_m rfl (u2 rfl (u4 rfl (u16 rfl s4_32)))) (up_m rfl (u2 rfl (u4 rfl (u16 rfl s8_32)))) (up_m rfl (u2 rfl (u4 rfl (u16 rfl s9_32)))) up_h ?_; clear hb_33 hb_70 hb_71 s10_32 s11_32 s12_32 s13_32 s2_32 s3_32 s4_32 s8_32 s9_32; intro e_75 s2_75 s3_75 s4_75 s8_75 s9_75 s95_75
     refine then_n <| aw_case s95_75 (fun hq_76 => ?_) (fun hq_76 => ?_)
     · cases hq_76
     replace hq_76 := bf' hq_76
     refine aw_skip <| then_n <| aw_seq <| aw_seq <| at_ <| ar (ro_eq (ro_ld_ptr y63_ty26 rfl mo0_31 s3_75 (nle rfl)) (by simp only [pS, Value.cells, Nat.reduceAdd] <;> rfl)) rfl ?_
     refine ar (ro_eq (ro_ld_ptr y63_ty28 rfl mo1_31 (up_m rfl s4_75) (nle rfl)) (by simp only [pS, Value.cells, Nat.reduceAdd] <;> rfl)) rfl ?_
     refine ar (ro_move (u2 rfl s2_75)) rfl <| ar (ro_call (evL_cons (u2 rfl up_h) (evL_cons (up_m rfl up_h) (evL_cons up_h evL_nil))) rfl (rPoseErr_ok l hr L c u p (by omega) (by omega)) y63_hcf21) rfl ?_
     refine ar (ro_assign up_h) rfl <| ae6 (up_m rfl (u4 rfl s2_75)) (up_m rfl (u4 rfl s3_75)) (up_m rfl (u4 rfl s4_75)) up_h (up_m rfl (u4 rfl s8_75)) (up_m rfl (u4 rfl s9_75)) ?_; clear s2_75 s3_75 s4_75 s8_75 s95_75 s9_75; intro e_78 s2_78 s3_78 s4_78 s7_78 s8_78 s9_78
     refine then_n <| aw_seq <| at_ <| ar (ro_move s7_78) rfl <| ar (ro_neq up_h ev_c) rfl <| ae7 (u2 rfl s2_78) (u2 rfl s3_78) (u2 rfl s4_78) (u2 rfl s7_78) (u2 rfl s8_78) (u2 rfl s9_78) up_h ?_; clear s2_78 s3_78 s4_78 s7_78 s8_78 s9_78; intro e_79 s2_79 s3_79 s4_79 s7_79 s8_79 s9_79 s101_79
     refine then_n <| aw_case s101_79 (fun hq_80 => ?_) (fun hq_80 => ?_)
     ·replace hq_80 := bnt hq_80
      refine aw_seq <| at_ <| ar (ro_move s9_79) rfl <| ar (ro_move (up_m rfl s7_79)) rfl <| ar (ro_eql (up_m rfl up_h) up_h) rfl ?_
      refine ar (ro_move up_h) rfl <| al_case up_h (fun hb_81 hq_81 => ?_) (fun hb_81 hq_81 => ?_)
      ·replace hq_81 := bt hq_81
       refine al_ro' (ro_move (u4 rfl s8_79)) ⟨_, rfl, hb_81⟩ rfl ?_
       refine al_ro' (ro_eql up_h ev_c) ⟨_, rfl, (up_m rfl hb_81)⟩ rfl ?_
       refine ar (ro_pickT (u2 rfl hb_81) up_h) rfl <| ar (ro_assign up_h) rfl <| ae1 up_h ?_; clear hb_81 s101_79 s2_79 s3_79 s4_79 s7_79 s8_79 s9_79; intro e_82 s6_82
       refine then_n <| aw_ret <| then_r <| ret1 (.inr rfl) (by kernel_rfl) (resV_tmp s6_82) (.ro _ rfl) ?_
       clear s6_82 mo3_31 mo2_31 mo1_31 mo0_31 ml_31
       first | rfl | simp_all
      · replace hq_81 := bf hq_81; exfalso; omega
     replace hq_80 := bnf hq_80
     refine aw_skip <| then_n <| aw_seq <| at_ <| ar (ro_move s9_79) rfl <| ar (ro_eql up_h ev_c) rfl ?_
     refine ar (ro_move up_h) rfl <| al_case up_h (fun hb_84 hq_84 => ?_) (fun hb_84 hq_84 => ?_)
     ·replace hq_84 := bt hq_84
      refine al_ro' (ro_move (up_m rfl (u2 rfl s8_79))) ⟨_, rfl, hb_84⟩ rfl ?_
      refine al_ro' (ro_eq (ro_ld_ptr y63_ty26 rfl mo0_31 (u4 rfl s3_79) (nle rfl)) (by simp only [pS, Value.cells, Nat.reduceAdd] <;> rfl)) ⟨_, rfl, (up_m rfl hb_84)⟩ rfl ?_
      refine al_ro' (ro_eq (ro_ld_ptr y63_ty28 rfl mo1_31 (up_m rfl (u4 rfl s4_79)) (nle rfl)) (by simp only [pS, Value.cells, Nat.reduceAdd] <;> rfl)) ⟨_, rfl, (u2 rfl hb_84)⟩ rfl ?_
      refine al_ro' (ro_move (u2 rfl (u4 rfl s2_79))) ⟨_, rfl, (up_m rfl (u2 rfl hb_84))⟩ rfl ?_
      refine al_ro' (ro_call (evL_cons (u2 rfl up_h) (evL_cons (up_m rfl up_h) (evL_cons up_h evL_nil))) rfl (rClearAt_ok l hr L c u p hv (by assumption)) y63_hcf22) ⟨_, rfl, (u4 rfl hb_84)⟩ rfl ?_
      refine al_ro' (ro_eql (u4 rfl up_h) up_h) ⟨_, rfl, (up_m rfl (u4 rfl hb_84))⟩ rfl ?_
      refine ar (ro_pickT (u2 rfl (u4 rfl hb_84)) up_h) rfl <| ar (ro_assign up_h) rfl <| ae1 up_h ?_; clear hb_84 s101_79 s2_79 s3_79 s4_79 s7_79 s8_79 s9_79; intro e_85 s6_85
      refine then_n <| aw_ret <| ret1 (.inr rfl) (by kernel_rfl) (resV_tmp s6_85) (.ro _ rfl) ?_
      clear s6_85 mo3_31 mo2_31 mo1_31 mo0_31 ml_31
      first | rfl | simp_all
     · replace hq_84 := bf hq_84; exfalso; omega
    · cases hq_70
   · replace hq_12 := bf hq_12; exfalso; omega
  · replace hq_10 := bf hq_10; exfalso; omega
theorem linePoses_ok (l : Lin) (L c u p : Int) : FnOk Try.prog 3 [lnA l, vehA L c u, mA p] (fun q => q = tbA true) := by
  cases hf : fewL l with
  | false => exact linePoses_many l hf L c u p
  | true =>
    by_cases hg : (linM l).2 = 0
    · by_cases hv : vehE L c u = 0
      · cases hq : posB l u with
        | false => exact linePoses_far l hf hg L c u p hv hq
        | true =>
          cases hA : fcA l L c u with
          | none => exact linePoses_none l hf hg L c u p hv hq hA
          | some r => exact linePoses_some l hf hg L c u p hv hq r.1 r.2 _ _ (by rw [hA]; rfl) (by rw [hA]; rfl) (by rw [hA]; rfl)
      · exact linePoses_veh l hf hg L c u p hv
    · exact linePoses_bad l hf hg L c u p
end Go.Proofs.Ytonjcljnpcmenaa

