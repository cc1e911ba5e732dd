/- Texts of this claim, one behind the other: lemmas for the statement. -/
import Derived.Test.YtonjcljnpcmenaaM10
import Derived.Test.YtonjcljnpcmenaaA28
import Derived.Test.YtonjcljnpcmenaaM9
/- The first pose that is not clear for sure: the program's and the document's. No conditions on a program. -/
namespace Go.Proofs.Ytonjcljnpcmenaa
open Go Go.RowKit Go.Proofs
set_option linter.unusedSimpArgs false
set_option linter.unusedVariables false
theorem y58_az124 : (Try.prog.info? 124).bind (·.zero) = some (.pointer none) := by kernel_rfl
theorem y58_az3 : (Try.prog.info? 3).bind (·.zero) = some (.int .i64 0) := by kernel_rfl
theorem y58_az34 : (Try.prog.info? 34).bind (·.zero) = some (.int .i64 0) := by kernel_rfl
theorem y58_az39 : (Try.prog.info? 39).bind (·.zero) = some (.agg #[.int .i64 0, .int .i64 0]) := by kernel_rfl
theorem y58_az41 : (Try.prog.info? 41).bind (·.zero) = some (.agg #[.int .i64 0, .int .i64 0, .int .i64 0, .int .i64 0]) := by kernel_rfl
theorem y58_bz41 : (Try.prog.info? 41).bind (·.zero) = some (.agg #[.int .i64 0, .int .i64 0, .int .i64 0, .int .i64 0]) := by kernel_rfl
theorem y58_bu41 : Try.prog.underlying 41 = some (.struct (fsOf Try.prog 41)) := by kernel_rfl
theorem y58_bp41 : ∀ w, ((fsOf Try.prog 41).mapM fun f => Prod.mk f.offset <$> sizeOf f.type : Sem (Array (Nat × Nat))).run Try.prog w = .ok (#[(0, 1), (1, 1), (2, 2)]) w := fun _ => by kernel_rfl
theorem y58_hcf130 : ∀ args w, (callFunc 130 args).run Try.prog w = .ok (.enter 130 args) w := fun _ _ => by kernel_rfl
theorem y58_hcf134 : ∀ args w, (callFunc 134 args).run Try.prog w = .ok (.enter 134 args) w := fun _ _ => by kernel_rfl
theorem y58_hcf72 : ∀ args w, (callFunc 72 args).run Try.prog w = .ok (.enter 72 args) w := fun _ _ => by kernel_rfl
theorem y58_hcf73 : ∀ args w, (callFunc 73 args).run Try.prog w = .ok (.enter 73 args) w := fun _ _ => by kernel_rfl
theorem y58_hcf74 : ∀ args w, (callFunc 74 args).run Try.prog w = .ok (.enter 74 args) w := fun _ _ => by kernel_rfl
theorem y58_hcf76 : ∀ args w, (callFunc 76 args).run Try.prog w = .ok (.enter 76 args) w := fun _ _ => by kernel_rfl
theorem y58_hcf77 : ∀ args w, (callFunc 77 args).run Try.prog w = .ok (.enter 77 args) w := fun _ _ => by kernel_rfl
theorem y58_hcf78 : ∀ args w, (callFunc 78 args).run Try.prog w = .ok (.enter 78 args) w := fun _ _ => by kernel_rfl
theorem y58_hcf79 : ∀ args w, (callFunc 79 args).run Try.prog w = .ok (.enter 79 args) w := fun _ _ => by kernel_rfl
theorem y58_sl185 : SlIs Try.prog 185 34 1 8 (.int .i64 0) := ⟨by kernel_rfl, by kernel_rfl, by kernel_rfl⟩
theorem y58_sz124 : (Try.prog.info? 124).map (·.size) = some 1 := by kernel_rfl
theorem y58_sz3 : (Try.prog.info? 3).map (·.size) = some 1 := by kernel_rfl
theorem y58_sz34 : (Try.prog.info? 34).map (·.size) = some 1 := by kernel_rfl
theorem y58_sz39 : (Try.prog.info? 39).map (·.size) = some 2 := by kernel_rfl
theorem y58_sz41 : (Try.prog.info? 41).map (·.size) = some 4 := by kernel_rfl
theorem y58_ty124 : TyIs Try.prog 124 false 1 := ⟨by kernel_rfl, by kernel_rfl⟩
theorem y58_ty26 : TyIs Try.prog 26 true 4 := ⟨by kernel_rfl, by kernel_rfl⟩
theorem y58_ty28 : TyIs Try.prog 28 true 3 := ⟨by kernel_rfl, by kernel_rfl⟩
theorem y58_ty3 : TyIs Try.prog 3 false 1 := ⟨by kernel_rfl, by kernel_rfl⟩
theorem y58_ty34 : TyIs Try.prog 34 false 1 := ⟨by kernel_rfl, by kernel_rfl⟩
theorem y58_ty39 : TyIs Try.prog 39 true 2 := ⟨by kernel_rfl, by kernel_rfl⟩
theorem y58_ty41 : TyIs Try.prog 41 true 4 := ⟨by kernel_rfl, by kernel_rfl⟩

/-- A joint beneath a pose that is not clear for sure. -/
def unB (l : Lin) (L c p : Int) (n : Nat) : Bool := decide (ansV c (devLo l L p n) (devHi l L p n) ≠ 2)
/-- The first such joint of the first i beneath a pose; the first such pose and joint of the first k poses. -/
def fuI (l : Lin) (L c p : Int) (i : Nat) : Option Nat := ((benL l L p).take i).find? (unB l L c p)
def fuK (l : Lin) (L c u : Int) : Nat → Option (Int × Nat)
  | 0 => none
  | k + 1 => match fuK l L c u k with
    | some r => some r
    | none => (fuI l L c ((k : Int) * u) (benL l L ((k : Int) * u)).length).map fun n => ((k : Int) * u, n)
theorem fuK_mono {l : Lin} {L c u : Int} {k : Nat} {r : Int × Nat} (h : fuK l L c u k = some r) : ∀ m, k ≤ m → fuK l L c u m = some r := by
  intro m
  induction m with
  | zero => intro hk; have : k = 0 := by omega
            subst this; exact h
  | succ m ih =>
    intro hk
    by_cases hm : k = m + 1
    · subst hm; exact h
    · unfold fuK; rw [ih (by omega)]
theorem fuI_take {l : Lin} {L c p : Int} {i n : Nat} (hn : (benL l L p)[i]? = some n) : fuI l L c p (i + 1) = (fuI l L c p i).or (if unB l L c p n = true then some n else none) := by
  unfold fuI
  rw [List.take_add_one, hn, List.find?_append]
  congr 1
  simp only [Option.toList, List.find?]
  cases unB l L c p n <;> rfl
theorem fuI_next {l : Lin} {L c p : Int} {i n : Nat} (hn : (benL l L p)[i]? = some n) (h : fuI l L c p i = none) (hb : unB l L c p n = false) : fuI l L c p (i + 1) = none := by
  rw [fuI_take hn, h, hb]; rfl
theorem fuI_hit {l : Lin} {L c p : Int} {i n : Nat} (hn : (benL l L p)[i]? = some n) (h : fuI l L c p i = none) (hb : unB l L c p n = true) : fuI l L c p (benL l L p).length = some n := by
  have h1 : fuI l L c p (i + 1) = some n := by rw [fuI_take hn, h, hb]; rfl
  unfold fuI at h1 ⊢
  rw [List.take_length, ← List.take_append_drop (i + 1) (benL l L p), List.find?_append, h1]
  rfl
theorem fuK_next {l : Lin} {L c u : Int} {k : Nat} (h : fuK l L c u k = none) (hi : fuI l L c ((k : Int) * u) (benL l L ((k : Int) * u)).length = none) : fuK l L c u (k + 1) = none := by
  unfold fuK; rw [h, hi]; rfl
theorem fuK_hit {l : Lin} {L c u : Int} {k n m : Nat} (h : fuK l L c u k = none) (hi : fuI l L c ((k : Int) * u) (benL l L ((k : Int) * u)).length = some n) (hk : k < m) : fuK l L c u m = some ((k : Int) * u, n) := by
  refine fuK_mono (k := k + 1) ?_ m hk
  unfold fuK; rw [h, hi]; rfl
/-- What the program and the document answer. -/
def fcA (l : Lin) (L c u : Int) : Option (Int × Nat) := fuK l L c u (posN l L u)
def unA (l : Lin) (L : Int) : Option (Int × Nat) → AV
  | some (p, n) => .agg [mA p, mA n, mA (devLo l L p n), mA (devHi l L p n)]
  | none => .agg [mA 0, mA 0, mA 0, mA 0]
def unE : Option (Int × Nat) → Int
  | some _ => 0
  | none => 12
theorem unB_ans {l : Lin} {L c p : Int} {n : Nat} : unB l L c p n = true ↔ ansV c (devLo l L p n) (devHi l L p n) ≠ 2 := by unfold unB; simp
theorem unB_no {l : Lin} {L c p : Int} {n : Nat} (h : ansV c (devLo l L p n) (devHi l L p n) = 2) : unB l L c p n = false := by unfold unB; simp [h]
set_option maxRecDepth 100000 in
set_option maxHeartbeats 4000000 in
theorem firstUnclear_good (l : Lin) (hl : Sho l) (hg : (linM l).2 = 0) (L c u : Int) (hv : vehE L c u = 0) : FnOk Try.prog 19 [lnA l, vehA L c u] (fun q => q = .tuple [unA l L (fcA l L c u), mA (unE (fcA l L c u))]) := by
  refine fnOk_of (fn := Try.f19) 48 (by kernel_rfl) rfl (by kernel_rfl) (Nat.le_of_ble_eq_true rfl) ?_
  intro e_0 m_0 hA hm_0
  have s0_0 : evA e_0 (.tmp 0) = _ := hA 0 _ rfl
  have s1_0 : evA e_0 (.tmp 1) = _ := hA 1 _ rfl
  have ml_0 : m_0.length = 0 := by rw [hm_0]; rfl
  clear hA hm_0
  have h := rgt_of hg; have hv2 := vehE_z.1 hv; have hpb := h.pla (n := l.bs.length) (Nat.le_refl _)
  refine aw_seq <| at_ <| al_stm (st_box s0_0 rfl ml_0) trivial rfl (fun m_1 hm_1 => ?_)
  have mo0_1 := m_push hm_1 ml_0
  have ml_1 := m_push_l hm_1 ml_0
  have ml_1 : _ = 1 := ml_1
  clear hm_1
  refine al_stm (st_box (up_m rfl s1_0) rfl ml_1) trivial rfl (fun m_2 hm_2 => ?_)
  have mo1_2 := m_push hm_2 ml_1
  have mo0_2 := m_push_o hm_2 mo0_1
  have ml_2 := m_push_l hm_2 ml_1
  have ml_2 : _ = 2 := ml_2
  clear hm_2 mo0_1
  refine al_stm (st_alloc y58_az41 rfl ml_2) trivial rfl (fun m_3 hm_3 => ?_)
  have mo2_3 := m_push hm_3 ml_2
  simp only [pS, Value.cells, Nat.reduceAdd] at mo2_3
  have mo1_3 := m_push_o hm_3 mo1_2
  have mo0_3 := m_push_o hm_3 mo0_2
  have ml_3 := m_push_l hm_3 ml_2
  have ml_3 : _ = 3 := ml_3
  clear hm_3 mo1_2 mo0_2
  refine al_stm (st_alloc y58_az34 rfl ml_3) trivial rfl (fun m_4 hm_4 => ?_)
  have mo3_4 := m_push hm_4 ml_3
  simp only [pS, Value.cells, Nat.reduceAdd] at mo3_4
  have mo2_4 := m_push_o hm_4 mo2_3
  have mo1_4 := m_push_o hm_4 mo1_3
  have mo0_4 := m_push_o hm_4 mo0_3
  have ml_4 := m_push_l hm_4 ml_3
  have ml_4 : _ = 4 := ml_4
  clear hm_4 mo2_3 mo1_3 mo0_3
  refine ae4 (up_m rfl (u2 rfl up_h)) (u2 rfl up_h) (up_m rfl up_h) up_h ?_; clear s0_0 s1_0; intro e_5 s2_5 s3_5 s4_5 s5_5
  refine then_n <| aw_seq <| at_ <| ar (ro_eq (ro_ld_ptr y58_ty26 rfl mo0_4 s2_5 (nle rfl)) (by simp only [pS, Value.cells, Nat.reduceAdd] <;> rfl)) rfl ?_
  refine ar (ro_call (evL_cons up_h evL_nil) rfl (yOpen_good l hl hg) y58_hcf76) rfl <| ar (ro_move up_h) rfl <| ar (ro_extract up_h rfl) rfl <| ar (ro_extract (up_m rfl up_h) rfl) rfl <| al_stm (st_alloc y58_az124 rfl ml_4) trivial rfl (fun m_6 hm_6 => ?_)
  have mo4_6 := m_push hm_6 ml_4
  simp only [pS, Value.cells, Nat.reduceAdd] at mo4_6
  have mo3_6 := m_push_o hm_6 mo3_4
  have mo2_6 := m_push_o hm_6 mo2_4
  have mo1_6 := m_push_o hm_6 mo1_4
  have mo0_6 := m_push_o hm_6 mo0_4
  have ml_6 := m_push_l hm_6 ml_4
  have ml_6 : _ = 5 := ml_6
  clear hm_6 mo3_4 mo2_4 mo1_4 mo0_4
  refine al_stm (st_store up_h (u2 rfl up_h) rfl rfl mo4_6 y58_sz124 rfl (nle rfl)) trivial rfl (fun m_7 hm_7 => ?_)
  have mo4_7 := m_set hm_7 mo4_6
  simp only [pS, Value.cells, Nat.reduceAdd] at mo4_7
  have mo3_7 := m_set_o hm_7 mo3_6 (by decide)
  have mo2_7 := m_set_o hm_7 mo2_6 (by decide)
  have mo1_7 := m_set_o hm_7 mo1_6 (by decide)
  have mo0_7 := m_set_o hm_7 mo0_6 (by decide)
  have ml_7 := m_set_l hm_7 ml_6
  clear hm_7 mo4_6 mo3_6 mo2_6 mo1_6 mo0_6
  refine ar (ro_assign (up_n (up_m rfl up_h))) rfl <| ae5 (up_m rfl (up_n (u2 rfl (u4 rfl s3_5)))) (up_m rfl (up_n (u2 rfl (u4 rfl s4_5)))) (up_m rfl (up_n (u2 rfl (u4 rfl s5_5)))) (up_m rfl (up_n up_h)) up_h ?_; clear s2_5 s3_5 s4_5 s5_5; intro e_8 s3_8 s4_8 s5_8 s6_8 s7_8
  refine then_n <| aw_seq <| aw_seq <| at_ <| ar (ro_move s7_8) rfl <| ar (ro_eq (ro_ld_ptr y58_ty28 rfl mo1_7 (up_m rfl s3_8) (nle rfl)) (by simp only [pS, Value.cells, Nat.reduceAdd] <;> rfl)) rfl ?_
  refine ar (ro_call (evL_cons up_h evL_nil) rfl (checkVehicle_ok L c u) y58_hcf78) rfl <| ar (ro_lit y58_sl185 (evP_cons (u2 rfl up_h) (evP_cons up_h evP_nil)) rfl rfl rfl rfl) rfl <| ar (ro_call (evL_cons up_h evL_nil) rfl ((yFirst_ok [_, _] (by simp)).mono (fun q h => h.trans (show mA (firstE [0, vehE L c u]) = mA 0 by rw [firstE_0, hv]))) y58_hcf77) rfl ?_
  refine ar (ro_assign up_h) rfl <| ae5 (u2 rfl (u4 rfl s3_8)) (u2 rfl (u4 rfl s4_8)) (u2 rfl (u4 rfl s5_8)) (u2 rfl (u4 rfl s6_8)) up_h ?_; clear s3_8 s4_8 s5_8 s6_8 s7_8; intro e_9 s3_9 s4_9 s5_9 s6_9 s7_9
  refine then_n <| aw_seq <| at_ <| ar (ro_move s7_9) rfl <| ar (ro_neq up_h ev_c) rfl <| ae6 (u2 rfl s3_9) (u2 rfl s4_9) (u2 rfl s5_9) (u2 rfl s6_9) (u2 rfl s7_9) up_h ?_; clear s3_9 s4_9 s5_9 s6_9 s7_9; intro e_10 s3_10 s4_10 s5_10 s6_10 s7_10 s22_10
  refine then_n <| aw_case s22_10 (fun hq_11 => ?_) (fun hq_11 => ?_)
  · replace hq_11 := bnt hq_11; exfalso; omega
  replace hq_11 := bnf hq_11
  refine aw_skip <| then_n <| aw_seq <| aw_seq <| at_ <| ar (ro_eq (ro_ld_ptr y58_ty124 rfl mo4_7 s6_10 (nle rfl)) (by simp only [pS, Value.cells, Nat.reduceAdd] <;> rfl)) rfl ?_
  refine ar (ro_eq (ro_ld_ptr y58_ty28 rfl mo1_7 (up_m rfl s3_10) (nle rfl)) (by simp only [pS, Value.cells, Nat.reduceAdd] <;> rfl)) rfl ?_
  refine ar (ro_call (evL_cons (up_m rfl up_h) (evL_cons up_h evL_nil)) rfl (poses_ok l L c u) y58_hcf79) rfl <| ae5 (up_m rfl (u2 rfl s3_10)) (up_m rfl (u2 rfl s4_10)) (up_m rfl (u2 rfl s5_10)) (up_m rfl (u2 rfl s6_10)) up_h ?_; clear s22_10 s3_10 s4_10 s5_10 s6_10 s7_10; intro e_12 s3_12 s4_12 s5_12 s6_12 s27_12
  refine then_n <| aw_block <| aw_rangeN1 s27_12 (poses1_gen l h L c u hv2.1 (by omega)) y58_hcf134 (by exact posY_one) (Nat.le_of_ble_eq_true rfl) (fun i mem => (mem[4]? = m_7[4]?) ∧ (mem[3]? = m_7[3]?) ∧ (mem[2]? = m_7[2]?) ∧ (mem[1]? = m_7[1]?) ∧ (mem[0]? = m_7[0]?) ∧ (∃ n, mem.length = n ∧ 5 ≤ n) ∧ ((fuK l L c u i = none))) ⟨rfl, rfl, rfl, rfl, rfl, ⟨_, ml_7, by omega⟩, ?_⟩ ?_ ?_
  · rfl
  · rintro k y0_13 m_13 hy_13 ⟨mk4_13, mk3_13, mk2_13, mk1_13, mk0_13, ⟨n_13, ml_13, hn_13⟩, hinv⟩
    (obtain ⟨hk, rfl⟩ := posY_of hy_13; have hk1 := hinv; have hkp := (pos_lt (by omega) _).1 hk; have hk0 : 0 ≤ (k : Int) * u := Int.mul_nonneg (by omega) (by omega))
    have mo4_13 := mk4_13.trans mo4_7
    have mo3_13 := mk3_13.trans mo3_7
    have mo2_13 := mk2_13.trans mo2_7
    have mo1_13 := mk1_13.trans mo1_7
    have mo0_13 := mk0_13.trans mo0_7
    refine aw_env (fun e_13 he_13 => ?_)
    have s3_13 := ef 3 he_13 (up_m rfl s3_12)
    have s4_13 := ef 4 he_13 (up_m rfl s4_12)
    have s5_13 := ef 5 he_13 (up_m rfl s5_12)
    have s6_13 := ef 6 he_13 (up_m rfl s6_12)
    have s27_13 := ef 27 he_13 (up_m rfl s27_12)
    have s28_13 := ef 28 he_13 up_h
    clear he_13
    refine at_ <| al_stm (st_alloc y58_az3 rfl ml_13) trivial rfl (fun m_14 hm_14 => ?_)
    have mon_13_14 := m_push hm_14 ml_13
    simp only [pS, Value.cells, Nat.reduceAdd] at mon_13_14
    have mo4_14 := m_push_o hm_14 mo4_13
    have mo3_14 := m_push_o hm_14 mo3_13
    have mo2_14 := m_push_o hm_14 mo2_13
    have mo1_14 := m_push_o hm_14 mo1_13
    have mo0_14 := m_push_o hm_14 mo0_13
    have ml_14 := m_push_l hm_14 ml_13
    clear hm_14 mo4_13 mo3_13 mo2_13 mo1_13 mo0_13
    refine al_stm (st_store up_h (up_m rfl s28_13) rfl rfl mon_13_14 y58_sz3 rfl (nle rfl)) trivial rfl (fun m_15 hm_15 => ?_)
    have mon_13_15 := m_set hm_15 mon_13_14
    simp only [pS, Value.cells, Nat.reduceAdd] at mon_13_15
    have mo4_15 := m_set_o hm_15 mo4_14 (by omega)
    have mo3_15 := m_set_o hm_15 mo3_14 (by omega)
    have mo2_15 := m_set_o hm_15 mo2_14 (by omega)
    have mo1_15 := m_set_o hm_15 mo1_14 (by omega)
    have mo0_15 := m_set_o hm_15 mo0_14 (by omega)
    have ml_15 := m_set_l hm_15 ml_14
    clear hm_15 mon_13_14 mo4_14 mo3_14 mo2_14 mo1_14 mo0_14
    refine ae5 (up_n (up_m rfl s3_13)) (up_n (up_m rfl s4_13)) (up_n (up_m rfl s5_13)) (up_n (up_m rfl s6_13)) (up_n up_h) ?_; clear s27_13 s28_13 s3_13 s4_13 s5_13 s6_13; intro e_16 s3_16 s4_16 s5_16 s6_16 s8_16
    refine fallb_n ?_
    refine awr_block ?_
    refine awr_seq ?_
    refine awr_of ?_
    refine at_ <| ar (ro_eq (ro_ld_ptr y58_ty124 rfl mo4_15 s6_16 (nle rfl)) (by simp only [pS, Value.cells, Nat.reduceAdd] <;> rfl)) rfl ?_
    refine ar (ro_eq (ro_ld_ptr y58_ty28 rfl mo1_15 (up_m rfl s3_16) (nle rfl)) (by simp only [pS, Value.cells, Nat.reduceAdd] <;> rfl)) rfl ?_
    refine ar (ro_eq (ro_ld_ptr y58_ty3 rfl mon_13_15 (u2 rfl s8_16) (nle rfl)) (by simp only [pS, Value.cells, Nat.reduceAdd] <;> rfl)) rfl ?_
    refine ar (ro_call (evL_cons (u2 rfl up_h) (evL_cons (up_m rfl up_h) (evL_cons up_h evL_nil))) rfl (beneath_ok l L c u _) y58_hcf72) rfl <| ae6 (u4 rfl s3_16) (u4 rfl s4_16) (u4 rfl s5_16) (u4 rfl s6_16) (u4 rfl s8_16) up_h ?_; clear s3_16 s4_16 s5_16 s6_16 s8_16; intro e_17 s3_17 s4_17 s5_17 s6_17 s8_17 s32_17
    refine then_n <| awr_block ?_
    refine awr_range1 s32_17 (beneath1_gen l h L c u _ hv2.1 (by omega)) y58_hcf130 (by exact benY_one) (Nat.le_of_ble_eq_true rfl) (fun i mem => (mem[n_13]? = m_15[n_13]?) ∧ (mem[4]? = m_15[4]?) ∧ (mem[3]? = m_15[3]?) ∧ (mem[2]? = m_15[2]?) ∧ (mem[1]? = m_15[1]?) ∧ (mem[0]? = m_15[0]?) ∧ (∃ n, mem.length = n ∧ n_13 + 1 ≤ n) ∧ ((fuI l L c ((k : Int) * u) i = none))) ⟨rfl, rfl, rfl, rfl, rfl, rfl, ⟨_, ml_15, by omega⟩, ?_⟩ ?_ ?_
    · rfl
    · rintro i_18 y0_18 m_18 hy_18 ⟨mkn_13_18, mk4_18, mk3_18, mk2_18, mk1_18, mk0_18, ⟨n_18, ml_18, hn_18⟩, hinv⟩
      (obtain ⟨n, hn, rfl, n1, n2, n3⟩ := benY_of hy_18; have hq : Pos l L _ n := ben_pos hv2.1 (by omega) n1 n2 n3)
      have mon_13_18 := mkn_13_18.trans mon_13_15
      have mo4_18 := mk4_18.trans mo4_15
      have mo3_18 := mk3_18.trans mo3_15
      have mo2_18 := mk2_18.trans mo2_15
      have mo1_18 := mk1_18.trans mo1_15
      have mo0_18 := mk0_18.trans mo0_15
      refine aw_env (fun e_18 he_18 => ?_)
      have s3_18 := ef 3 he_18 (up_m rfl s3_17)
      have s4_18 := ef 4 he_18 (up_m rfl s4_17)
      have s5_18 := ef 5 he_18 (up_m rfl s5_17)
      have s6_18 := ef 6 he_18 (up_m rfl s6_17)
      have s8_18 := ef 8 he_18 (up_m rfl s8_17)
      have s32_18 := ef 32 he_18 (up_m rfl s32_17)
      have s33_18 := ef 33 he_18 up_h
      clear he_18
      refine at_ <| ar (ro_assign s33_18) rfl <| ae6 (up_m rfl s3_18) (up_m rfl s4_18) (up_m rfl s5_18) (up_m rfl s6_18) (up_m rfl s8_18) up_h ?_; clear s32_18 s33_18 s3_18 s4_18 s5_18 s6_18 s8_18; intro e_19 s3_19 s4_19 s5_19 s6_19 s8_19 s9_19
      refine fallb_n ?_
      refine awr_of ?_
      refine aw_block <| aw_seq <| at_ <| ar (ro_eq (ro_ld_ptr y58_ty124 rfl mo4_18 s6_19 (nle rfl)) (by simp only [pS, Value.cells, Nat.reduceAdd] <;> rfl)) rfl ?_
      refine ar (ro_eq (ro_ld_ptr y58_ty28 rfl mo1_18 (up_m rfl s3_19) (nle rfl)) (by simp only [pS, Value.cells, Nat.reduceAdd] <;> rfl)) rfl ?_
      refine ar (ro_eq (ro_ld_ptr y58_ty3 rfl mon_13_18 (u2 rfl s8_19) (nle rfl)) (by simp only [pS, Value.cells, Nat.reduceAdd] <;> rfl)) rfl ?_
      refine ar (ro_move (up_m rfl (u2 rfl s9_19))) rfl <| ar (ro_call (evL_cons (up_m rfl (u2 rfl up_h)) (evL_cons (u2 rfl up_h) (evL_cons (up_m rfl up_h) (evL_cons up_h evL_nil)))) rfl (deviation_ok l h L c u _ n hq) y58_hcf74) rfl <| al_stm (st_alloc y58_az39 rfl ml_18) trivial rfl (fun m_20 hm_20 => ?_)
      have mon_18_20 := m_push hm_20 ml_18
      simp only [pS, Value.cells, Nat.reduceAdd] at mon_18_20
      have mon_13_20 := m_push_o hm_20 mon_13_18
      have mo4_20 := m_push_o hm_20 mo4_18
      have mo3_20 := m_push_o hm_20 mo3_18
      have mo2_20 := m_push_o hm_20 mo2_18
      have mo1_20 := m_push_o hm_20 mo1_18
      have mo0_20 := m_push_o hm_20 mo0_18
      have ml_20 := m_push_l hm_20 ml_18
      clear hm_20 mon_13_18 mo4_18 mo3_18 mo2_18 mo1_18 mo0_18
      refine al_stm (st_store up_h (up_m rfl up_h) rfl rfl mon_18_20 y58_sz39 rfl (nle rfl)) trivial rfl (fun m_21 hm_21 => ?_)
      have mon_18_21 := m_set hm_21 mon_18_20
      simp only [pS, Value.cells, Nat.reduceAdd] at mon_18_21
      have mon_13_21 := m_set_o hm_21 mon_13_20 (by omega)
      have mo4_21 := m_set_o hm_21 mo4_20 (by omega)
      have mo3_21 := m_set_o hm_21 mo3_20 (by omega)
      have mo2_21 := m_set_o hm_21 mo2_20 (by omega)
      have mo1_21 := m_set_o hm_21 mo1_20 (by omega)
      have mo0_21 := m_set_o hm_21 mo0_20 (by omega)
      have ml_21 := m_set_l hm_21 ml_20
      clear hm_21 mon_18_20 mon_13_20 mo4_20 mo3_20 mo2_20 mo1_20 mo0_20
      refine ae6 (up_n (u2 rfl (u4 rfl s3_19))) (up_n (u2 rfl (u4 rfl s4_19))) (up_n (u2 rfl (u4 rfl s5_19))) (up_n (u2 rfl (u4 rfl s8_19))) (up_n (u2 rfl (u4 rfl s9_19))) (up_n up_h) ?_; clear s3_19 s4_19 s5_19 s6_19 s8_19 s9_19; intro e_22 s3_22 s4_22 s5_22 s8_22 s9_22 s10_22
      refine then_n <| aw_seq <| at_ <| ar (ro_eq (ro_ld_ptr y58_ty28 rfl mo1_21 s3_22 (nle rfl)) (by simp only [pS, Value.cells, Nat.reduceAdd] <;> rfl)) rfl ?_
      refine ar (ro_eq (ro_ld_ptr y58_ty39 rfl mon_18_21 (up_m rfl s10_22) (nle rfl)) (by simp only [pS, Value.cells, Nat.reduceAdd] <;> rfl)) rfl ?_
      refine ar (ro_call (evL_cons (up_m rfl up_h) (evL_cons up_h evL_nil)) rfl (answer_ok L c u _ _ hv2.2.1) y58_hcf73) rfl <| ar (ro_neq up_h ev_c) rfl <| ae6 (u4 rfl s4_22) (u4 rfl s5_22) (u4 rfl s8_22) (u4 rfl s9_22) (u4 rfl s10_22) up_h ?_; clear s10_22 s3_22 s4_22 s5_22 s8_22 s9_22; intro e_23 s4_23 s5_23 s8_23 s9_23 s10_23 s42_23
      refine then_n <| aw_case s42_23 (fun hq_24 => ?_) (fun hq_24 => ?_)
      ·replace hq_24 := bnt hq_24
       refine aw_seq <| at_ <| ar (ro_eq (ro_ld_ptr y58_ty3 rfl mon_13_21 s8_23 (nle rfl)) (by simp only [pS, Value.cells, Nat.reduceAdd] <;> rfl)) rfl ?_
       refine ar (ro_move (up_m rfl s9_23)) rfl <| ar (ro_eq (ro_ld_ptr y58_ty39 rfl mon_18_21 (u2 rfl s10_23) (nle rfl)) (by simp only [pS, Value.cells, Nat.reduceAdd] <;> rfl)) rfl ?_
       refine ar (ro_build (evP_cons (u2 rfl up_h) (evP_cons (up_m rfl up_h) (evP_cons up_h evP_nil))) y58_bz41 y58_bu41 y58_bp41 rfl) rfl ?_
       refine al_stm (st_store (u4 rfl s4_23) up_h rfl rfl mo2_21 y58_sz41 rfl (nle rfl)) trivial rfl (fun m_25 hm_25 => ?_)
       have mo2_25 := m_set hm_25 mo2_21
       simp only [pS, Value.cells, Nat.reduceAdd] at mo2_25
       have mon_18_25 := m_set_o hm_25 mon_18_21 (by omega)
       have mon_13_25 := m_set_o hm_25 mon_13_21 (by omega)
       have mo4_25 := m_set_o hm_25 mo4_21 (by decide)
       have mo3_25 := m_set_o hm_25 mo3_21 (by decide)
       have mo1_25 := m_set_o hm_25 mo1_21 (by decide)
       have mo0_25 := m_set_o hm_25 mo0_21 (by decide)
       have ml_25 := m_set_l hm_25 ml_21
       clear hm_25 mon_18_21 mon_13_21 mo4_21 mo3_21 mo2_21 mo1_21 mo0_21
       refine al_stm (st_store (up_n (u4 rfl s5_23)) ev_c rfl rfl mo3_25 y58_sz34 rfl (nle rfl)) trivial rfl (fun m_26 hm_26 => ?_)
       have mo3_26 := m_set hm_26 mo3_25
       simp only [pS, Value.cells, Nat.reduceAdd] at mo3_26
       have mo2_26 := m_set_o hm_26 mo2_25 (by decide)
       have mon_18_26 := m_set_o hm_26 mon_18_25 (by omega)
       have mon_13_26 := m_set_o hm_26 mon_13_25 (by omega)
       have mo4_26 := m_set_o hm_26 mo4_25 (by decide)
       have mo1_26 := m_set_o hm_26 mo1_25 (by decide)
       have mo0_26 := m_set_o hm_26 mo0_25 (by decide)
       have ml_26 := m_set_l hm_26 ml_25
       clear hm_26 mo2_25 mon_18_25 mon_13_25 mo4_25 mo3_25 mo1_25 mo0_25
       refine ae2 (up_n (up_n (u4 rfl s4_23))) (up_n (up_n (u4 rfl s5_23))) ?_; clear s10_23 s42_23 s4_23 s5_23 s8_23 s9_23; intro e_27 s4_27 s5_27
       refine then_n <| aw_ret <| block_r <| rnd_r <| block_r <| block_r <| rnd_r <| block_r <| then_r <| ret2 (.inr rfl) (by kernel_rfl) (resV_cell s4_12 mo2_26 y58_ty41 (nle rfl) (by simp)) (resV_cell s5_12 mo3_26 y58_ty34 (nle rfl) (by simp)) (vw_r (.ro _ rfl)) (vw_c (.ro _ rfl)) ?_
       clear s27_12 s3_12 s4_12 s5_12 s6_12 mo3_26 mo2_26 mon_18_26 mon_13_26 mo4_26 mo1_26 mo0_26 ml_26
       (have hA := fuK_hit hk1 (fuI_hit hn hinv (unB_ans.2 (by assumption))) hk; rw [show fcA l L c u = _ from hA]; rfl)
      replace hq_24 := bnf hq_24
      refine aw_skip <| block_n <| rnd_n ⟨(mon_13_21.trans mon_13_15.symm), (mo4_21.trans mo4_15.symm), (mo3_21.trans mo3_15.symm), (mo2_21.trans mo2_15.symm), (mo1_21.trans mo1_15.symm), (mo0_21.trans mo0_15.symm), ⟨_, ml_21, by omega⟩, ?_⟩
      (exact fuI_next hn hinv (unB_no (by assumption)))
    · rintro m_18 ⟨mkn_13_18, mk4_18, mk3_18, mk2_18, mk1_18, mk0_18, ⟨n_18, ml_18, hn_18⟩, hinv⟩
      have mon_13_18 := mkn_13_18.trans mon_13_15
      have mo4_18 := mk4_18.trans mo4_15
      have mo3_18 := mk3_18.trans mo3_15
      have mo2_18 := mk2_18.trans mo2_15
      have mo1_18 := mk1_18.trans mo1_15
      have mo0_18 := mk0_18.trans mo0_15
      refine block_n <| block_n <| rnd_n ⟨(mo4_18.trans mo4_7.symm), (mo3_18.trans mo3_7.symm), (mo2_18.trans mo2_7.symm), (mo1_18.trans mo1_7.symm), (mo0_18.trans mo0_7.symm), ⟨_, ml_18, by omega⟩, ?_⟩
      (exact fuK_next hk1 (by rw [← benY_len]; exact hinv))
  · rintro m_13 ⟨mk4_13, mk3_13, mk2_13, mk1_13, mk0_13, ⟨n_13, ml_13, hn_13⟩, hinv⟩
    have mo4_13 := mk4_13.trans mo4_7
    have mo3_13 := mk3_13.trans mo3_7
    have mo2_13 := mk2_13.trans mo2_7
    have mo1_13 := mk1_13.trans mo1_7
    have mo0_13 := mk0_13.trans mo0_7
    refine block_n <| then_n <| aw_seq <| at_ <| ar (ro_build evP_nil y58_bz41 y58_bu41 y58_bp41 rfl) rfl ?_
    refine al_stm (st_store (up_m rfl s4_12) up_h rfl rfl mo2_13 y58_sz41 rfl (nle rfl)) trivial rfl (fun m_28 hm_28 => ?_)
    have mo2_28 := m_set hm_28 mo2_13
    simp only [pS, Value.cells, Nat.reduceAdd] at mo2_28
    have mo4_28 := m_set_o hm_28 mo4_13 (by decide)
    have mo3_28 := m_set_o hm_28 mo3_13 (by decide)
    have mo1_28 := m_set_o hm_28 mo1_13 (by decide)
    have mo0_28 := m_set_o hm_28 mo0_13 (by decide)
    have ml_28 := m_set_l hm_28 ml_13
    clear hm_28 mo4_13 mo3_13 mo2_13 mo1_13 mo0_13
    refine al_stm (st_store (up_n (up_m rfl s5_12)) ev_c rfl rfl mo3_28 y58_sz34 rfl (nle rfl)) trivial rfl (fun m_29 hm_29 => ?_)
    have mo3_29 := m_set hm_29 mo3_28
    simp only [pS, Value.cells, Nat.reduceAdd] at mo3_29
    have mo2_29 := m_set_o hm_29 mo2_28 (by decide)
    have mo4_29 := m_set_o hm_29 mo4_28 (by decide)
    have mo1_29 := m_set_o hm_29 mo1_28 (by decide)
    have mo0_29 := m_set_o hm_29 mo0_28 (by decide)
    have ml_29 := m_set_l hm_29 ml_28
    clear hm_29 mo2_28 mo4_28 mo3_28 mo1_28 mo0_28
    refine ae2 (up_n (up_n (up_m rfl s4_12))) (up_n (up_n (up_m rfl s5_12))) ?_; clear s27_12 s3_12 s4_12 s5_12 s6_12; intro e_30 s4_30 s5_30
    refine then_n <| aw_ret <| ret2 (.inr rfl) (by kernel_rfl) (resV_cell s4_30 mo2_29 y58_ty41 (nle rfl) (by simp)) (resV_cell s5_30 mo3_29 y58_ty34 (nle rfl) (by simp)) (vw_r (.ro _ rfl)) (vw_c (.ro _ rfl)) ?_
    clear s4_30 s5_30 mo3_29 mo2_29 mo4_29 mo1_29 mo0_29 ml_29
    (rw [show fcA l L c u = none by rw [posY_len] at hinv; exact hinv]; rfl)
end Go.Proofs.Ytonjcljnpcmenaa

/- The document's answers on poses: whether a pose is clear, the first one that is not for sure. No conditions on a program. -/
namespace Go.Proofs.Ytonjcljnpcmenaa
open Go Go.RowKit Go.Proofs
set_option linter.unusedSimpArgs false
set_option linter.unusedVariables false
end Go.Proofs.Ytonjcljnpcmenaa

/- The law of chapter 1 on poses. No conditions on a program. -/
namespace Go.Proofs.Ytonjcljnpcmenaa
open Go Go.RowKit Go.Proofs
set_option linter.unusedSimpArgs false
set_option linter.unusedVariables false
end Go.Proofs.Ytonjcljnpcmenaa

/- Plain law of chapter 1: a straight line is clear; a line moved sideways keeps its deviations and limits. No program in sight. -/
namespace Go.Proofs.Ytonjcljnpcmenaa
open Go Go.RowKit Go.Proofs
set_option linter.unusedSimpArgs false
set_option linter.unusedVariables false

/-- The first n members turned, each told its number. -/
def updN {α : Type} [Inhabited α] (f : Nat → α → α) (xs : List α) : Nat → List α
  | 0 => xs
  | n + 1 => (updN f xs n).set n (f n ((updN f xs n).getD n default))
theorem updN_len {α : Type} [Inhabited α] (f : Nat → α → α) (xs : List α) : ∀ n : Nat, (updN f xs n).length = xs.length
  | 0 => rfl
  | n + 1 => by simp only [updN, List.length_set]; exact updN_len f xs n
theorem updN_ge {α : Type} [Inhabited α] (f : Nat → α → α) (xs : List α) : ∀ {n i : Nat}, n ≤ i → (updN f xs n).getD i default = xs.getD i default
  | 0, _, _ => rfl
  | n + 1, i, h => by
    simp only [updN]
    rw [List.getD_eq_getElem?_getD, List.getElem?_set_ne (by omega), ← List.getD_eq_getElem?_getD]
    exact updN_ge f xs (by omega)
theorem updN_lt {α : Type} [Inhabited α] (f : Nat → α → α) (xs : List α) : ∀ {n i : Nat}, i < n → i < xs.length → (updN f xs n).getD i default = f i (xs.getD i default)
  | n + 1, i, h, hl => by
    simp only [updN]
    by_cases hi : n = i
    · subst hi
      rw [List.getD_eq_getElem?_getD, List.getElem?_set_self (by rw [updN_len]; exact hl), updN_ge f xs (Nat.le_refl _)]; rfl
    · rw [List.getD_eq_getElem?_getD, List.getElem?_set_ne hi, ← List.getD_eq_getElem?_getD]
      exact updN_lt f xs (by omega) hl
/-- Numbers with weights, the first n together. -/
def wsum (g : Nat → Int) (ws : List Int) : Nat → Int
  | 0 => 0
  | n + 1 => wsum g ws n + ws.getD n default * g n
theorem wsum_set (g : Nat → Int) (ws : List Int) (i : Nat) (v : Int) (hi : i < ws.length) : ∀ n : Nat, wsum g (ws.set i v) n = wsum g ws n + if i < n then (v - ws.getD i default) * g i else 0
  | 0 => rfl
  | n + 1 => by
    simp only [wsum]
    rw [wsum_set g ws i v hi n, getD_setW]
    by_cases h : i = n
    · subst h
      rw [if_neg (by omega), if_pos ⟨rfl, hi⟩, if_pos (by omega)]
      grind
    · rw [if_neg (show ¬ (i = n ∧ n < ws.length) from fun hc => h hc.1)]
      by_cases h2 : i < n
      · rw [if_pos h2, if_pos (by omega)]; omega
      · rw [if_neg h2, if_neg (by omega)]; omega
theorem wsum_add {g : Nat → Int} {ws : List Int} {i n : Nat} {d : Int} (hi : i < ws.length) (hn : i < n) : wsum g (addAt ws i d) n = wsum g ws n + d * g i := by
  unfold addAt; rw [wsum_set g ws i _ hi, if_pos hn]; grind
theorem wsum_sub {g : Nat → Int} {ws : List Int} {i n : Nat} {d : Int} (hi : i < ws.length) (hn : i < n) : wsum g (subAt ws i d) n = wsum g ws n - d * g i := by
  unfold subAt; rw [wsum_set g ws i _ hi, if_pos hn]; grind
theorem wsum_rep (g : Nat → Int) (m : Nat) : ∀ n : Nat, wsum g (List.replicate m 0) n = 0
  | 0 => rfl
  | n + 1 => by
    simp only [wsum, wsum_rep g m n]
    rw [List.getD_eq_getElem?_getD, List.getElem?_replicate]
    split <;> simp
theorem wsum_all {l : Lin} (h : Rgt l) {L p : Int} {j : Nat} (q : Pos l L p j) (g : Nat → Int) : wsum g (wtsL l L p j) l.js.length =
    devD l L p * g j - (L - (plaP l.bs j - p)) * ((l.bs.getD (atI l p) default).len - atD l p) * (l.bs.getD (atI l (p + L)) default).len * g (atI l p) - (L - (plaP l.bs j - p)) * atD l p * (l.bs.getD (atI l (p + L)) default).len * g (atI l p + 1) -
    (plaP l.bs j - p) * ((l.bs.getD (atI l (p + L)) default).len - atD l (p + L)) * (l.bs.getD (atI l p) default).len * g (atI l (p + L)) - (plaP l.bs j - p) * atD l (p + L) * (l.bs.getD (atI l p) default).len * g (atI l (p + L) + 1) := by
  obtain ⟨L0, L1, p0, p1, j0, j1, jn⟩ := q
  have hjs := h.js
  obtain ⟨a1, a2, a3⟩ := at_bd h (p := p) ⟨p0, by omega⟩
  obtain ⟨b1, b2, b3⟩ := at_bd h (p := p + L) ⟨by omega, p1⟩
  unfold wtsL
  rw [wsum_sub (by rw [len_wts4]; omega) (by omega)]
  unfold wts4
  rw [wsum_sub (by rw [len_wts3]; omega) (by omega)]
  unfold wts3
  rw [wsum_sub (by rw [len_wts2]; omega) (by omega)]
  unfold wts2
  rw [wsum_sub (by rw [len_wts1]; omega) (by omega)]
  unfold wts1
  rw [wsum_add (by simp; omega) (by omega), wsum_rep, Int.zero_add]
/-- The weights come to nothing. -/
theorem wsum_one {l : Lin} (h : Rgt l) {L p : Int} {j : Nat} (q : Pos l L p j) : wsum (fun _ => 1) (wtsL l L p j) l.js.length = 0 := by
  rw [wsum_all h q]
  unfold devD
  grind
/-- A line moved sideways. -/
def movF (x : Int) (_ : Nat) (j : Jnt) : Jnt := j.at (j.acr + x)
def movL (l : Lin) (x : Int) : Lin := ⟨l.nam, updN (movF x) l.js l.js.length, l.bs, []⟩
theorem movL_at {l : Lin} {x : Int} {i : Nat} (hi : i < l.js.length) : (movL l x).js.getD i default = (l.js.getD i default).at ((l.js.getD i default).acr + x) := updN_lt (movF x) l.js hi hi
theorem movL_len (l : Lin) (x : Int) : (movL l x).js.length = l.js.length := updN_len _ _ _
theorem devS_mov {l : Lin} {x : Int} {f : Int → Jnt → Int} (hf : f = loF ∨ f = hiF) (ws : List Int) : ∀ n : Nat, n ≤ l.js.length → devS f ws (movL l x).js n = devS f ws l.js n + x * wsum (fun _ => 1) ws n
  | 0, _ => by simp [devS, wsum]
  | n + 1, hn => by
    simp only [devS, wsum]
    rw [devS_mov hf ws n (by omega), movL_at (show n < l.js.length by omega)]
    rcases hf with rfl | rfl
    · unfold loF Jnt.at; dsimp only; grind
    · unfold hiF Jnt.at; dsimp only; grind
theorem wts_mov {l : Lin} {x L p : Int} {j : Nat} : wtsL (movL l x) L p j = wtsL l L p j := by
  unfold wtsL wts4 wts3 wts2 wts1
  rw [movL_len]; rfl
theorem dev_mov {l : Lin} (h : Rgt l) {x L p : Int} {j : Nat} (q : Pos l L p j) : devLo (movL l x) L p j = devLo l L p j ∧ devHi (movL l x) L p j = devHi l L p j := by
  have hw := wsum_one h q
  unfold devLo devHi
  rw [wts_mov, movL_len, devS_mov (.inl rfl) _ _ (Nat.le_refl _), devS_mov (.inr rfl) _ _ (Nat.le_refl _), hw]
  simp only [Int.mul_zero, Int.add_zero]
  exact ⟨rfl, rfl⟩
theorem benL_mov {l : Lin} {x L p : Int} : benL (movL l x) L p = benL l L p := by
  unfold benL
  rw [movL_len]; rfl
theorem find_eq {α : Type} {f g : α → Bool} : ∀ {xs : List α}, (∀ a ∈ xs, f a = g a) → xs.find? f = xs.find? g
  | [], _ => rfl
  | a :: xs, h => by
    have ih := find_eq (xs := xs) fun b hb => h b (List.mem_cons_of_mem _ hb)
    simp only [List.find?, h a (List.mem_cons_self ..), ih]
theorem ben_in {l : Lin} {L p : Int} (hL : 1000 ≤ L ∧ L ≤ 30000) (hp : 0 ≤ p ∧ p + L ≤ plaP l.bs l.bs.length) {n : Nat} (hn : n ∈ benL l L p) : Pos l L p n := by
  obtain ⟨i, hi, rfl⟩ := List.mem_iff_getElem.1 hn
  have h1 : (benY l L p)[i]? = some [mA ((benL l L p)[i] : Int)] := by
    unfold benY
    rw [List.getElem?_map, List.getElem?_eq_getElem hi]; rfl
  obtain ⟨s, h2, h3, n1, n2, n3⟩ := benY_of h1
  rw [List.getElem?_eq_getElem hi] at h2
  cases h2
  exact ben_pos hL hp n1 n2 n3
theorem fuI_mov {l : Lin} (h : Rgt l) {x L c p : Int} (hL : 1000 ≤ L ∧ L ≤ 30000) (hp : 0 ≤ p ∧ p + L ≤ plaP l.bs l.bs.length) (i : Nat) : fuI (movL l x) L c p i = fuI l L c p i := by
  unfold fuI
  rw [benL_mov]
  refine find_eq fun n hn => ?_
  have q := ben_in hL hp (List.mem_of_mem_take hn)
  obtain ⟨d1, d2⟩ := dev_mov h (x := x) q
  unfold unB
  rw [d1, d2]
theorem pose_in {l : Lin} {L u : Int} (hu : 1 ≤ u) {k : Nat} (hk : k < posN l L u) : 0 ≤ (k : Int) * u ∧ (k : Int) * u + L ≤ plaP l.bs l.bs.length := ⟨Int.mul_nonneg (by omega) (by omega), (pos_lt hu k).1 hk⟩
theorem fuK_mov {l : Lin} (h : Rgt l) {x L c u : Int} (hL : 1000 ≤ L ∧ L ≤ 30000) (hu : 1 ≤ u) : ∀ k : Nat, k ≤ posN l L u → fuK (movL l x) L c u k = fuK l L c u k
  | 0, _ => rfl
  | k + 1, hk => by
    unfold fuK
    rw [fuK_mov h hL hu k (by omega), fuI_mov h hL (pose_in hu (by omega)), benL_mov]
theorem fcA_mov {l : Lin} (h : Rgt l) {x L c u : Int} (hL : 1000 ≤ L ∧ L ≤ 30000) (hu : 1 ≤ u) : fcA (movL l x) L c u = fcA l L c u := fuK_mov h hL hu _ (Nat.le_refl _)
/-- What is found lies beneath a pose. -/
theorem fuK_in {l : Lin} {L c u : Int} (hL : 1000 ≤ L ∧ L ≤ 30000) (hu : 1 ≤ u) : ∀ {k : Nat}, k ≤ posN l L u → ∀ {p : Int} {n : Nat}, fuK l L c u k = some (p, n) → Pos l L p n
  | 0, _, _, _, h => by cases h
  | k + 1, hk, p, n, h => by
    unfold fuK at h
    cases hr : fuK l L c u k with
    | some r => rw [hr] at h; cases h; exact fuK_in hL hu (by omega) hr
    | none =>
      rw [hr] at h
      cases hf : fuI l L c ((k : Int) * u) (benL l L ((k : Int) * u)).length with
      | none => rw [hf] at h; cases h
      | some m =>
        rw [hf] at h; cases h
        exact ben_in hL (pose_in hu (by omega)) (List.mem_of_mem_take (List.mem_of_find?_eq_some hf))
theorem unA_mov {l : Lin} (h : Rgt l) {x L c u : Int} (hL : 1000 ≤ L ∧ L ≤ 30000) (hu : 1 ≤ u) : unA (movL l x) L (fcA l L c u) = unA l L (fcA l L c u) := by
  cases hA : fcA l L c u with
  | none => rfl
  | some r =>
    obtain ⟨p, n⟩ := r
    obtain ⟨d1, d2⟩ := dev_mov h (x := x) (fuK_in hL hu (Nat.le_refl _) hA)
    simp only [unA]
    rw [d1, d2]
theorem ben_mov {l : Lin} (h : Rgt l) {x : Int} {j : Nat} (hj : 1 ≤ j ∧ j + 2 ≤ l.js.length) : benN (movL l x) j = benN l j := by
  unfold benN
  rw [movL_at (show j + 1 < l.js.length by omega), movL_at (show j < l.js.length by omega), movL_at (show j - 1 < l.js.length by omega)]
  unfold Jnt.at
  dsimp only
  rw [show (l.js.getD (j + 1) default).acr + x - ((l.js.getD j default).acr + x) = (l.js.getD (j + 1) default).acr - (l.js.getD j default).acr by omega, show (l.js.getD j default).acr + x - ((l.js.getD (j - 1) default).acr + x) = (l.js.getD j default).acr - (l.js.getD (j - 1) default).acr by omega]
  rfl
theorem limL_mov {l : Lin} (h : Rgt l) {x sd : Int} : limL (movL l x) sd ((movL l x).js.length - 2) = limL l sd (l.js.length - 2) := by
  rw [movL_len]
  unfold limL
  refine List.map_congr_left fun i hi => ?_
  have hi2 : i < l.js.length - 2 := List.mem_range.1 hi
  have e := ben_mov h (x := x) (j := i + 1) (by omega)
  unfold limV limU helV
  rw [e]; rfl
theorem movL_rgt {l : Lin} (h : Rgt l) {x : Int} (hx : ∀ i : Nat, i < l.js.length → -20000 ≤ (l.js.getD i default).acr + x ∧ (l.js.getD i default).acr + x ≤ 20000) : Rgt (movL l x) :=
  ⟨h.nam, h.n0, h.n1, by rw [movL_len]; exact h.js, fun j hj => by
    rw [movL_len] at hj
    rw [movL_at hj]
    exact jntE_of ⟨hx j hj, (h.jnt j hj).2⟩, h.ba, Nat.zero_le _, fun j hj => absurd hj (Nat.not_lt_zero _)⟩
theorem movL_sho {l : Lin} (h : Sho l) (x : Int) : Sho (movL l x) := ⟨h.1, by rw [movL_len]; exact h.2.1, h.2.2.1, Nat.zero_le _, fun s hs => by cases hs⟩
/-- A straight line. -/
def ofF (_ : Nat) (j : Jnt) : Jnt := ⟨j.acr, j.up, 0, 0⟩
def strF (y : Int) (i : Nat) (j : Jnt) : Jnt := j.at (y * i)
def lenF (n : Int) (_ : Nat) (b : Bea) : Bea := ⟨n, b.cant⟩
def ofN (js : List Jnt) : List Jnt := updN ofF js js.length
def strL (l : Lin) (y : Int) : Lin := ⟨l.nam, updN (strF y) (ofN l.js) l.js.length, updN (lenF (l.bs.getD 0 default).len) l.bs l.bs.length, []⟩
theorem strL_len (l : Lin) (y : Int) : (strL l y).js.length = l.js.length ∧ (strL l y).bs.length = l.bs.length := ⟨by show (updN _ _ _).length = _; rw [updN_len]; exact updN_len _ _ _, updN_len _ _ _⟩
theorem strL_js {l : Lin} {y : Int} {i : Nat} (hi : i < l.js.length) : (strL l y).js.getD i default = ⟨y * i, (l.js.getD i default).up, 0, 0⟩ := by
  show (updN (strF y) (ofN l.js) l.js.length).getD i default = _
  have h1 : (ofN l.js).length = l.js.length := updN_len _ _ _
  rw [updN_lt _ _ hi (by omega)]
  unfold ofN
  rw [updN_lt _ _ hi hi]; rfl
theorem strL_bs {l : Lin} {y : Int} {i : Nat} (hi : i < l.bs.length) : (strL l y).bs.getD i default = ⟨(l.bs.getD 0 default).len, (l.bs.getD i default).cant⟩ := by
  show (updN (lenF (l.bs.getD 0 default).len) l.bs l.bs.length).getD i default = _
  rw [updN_lt _ _ hi hi]; rfl
theorem strL_pla {l : Lin} {y : Int} : ∀ n : Nat, n ≤ l.bs.length → plaP (strL l y).bs n = (l.bs.getD 0 default).len * n
  | 0, _ => by simp [plaP]
  | n + 1, hn => by
    simp only [plaP]
    rw [strL_pla n (by omega), strL_bs (show n < l.bs.length by omega)]
    dsimp only
    rw [Int.natCast_add, Int.mul_add]; simp
theorem strL_rgt {l : Lin} (h : Rgt l) {y : Int} (hy : -20 ≤ y ∧ y ≤ 20) : Rgt (strL l y) := by
  have hn0 := h.n0
  have hn1 := h.n1
  have hjs := h.js
  have b0 := h.bea 0 (by omega)
  obtain ⟨e1, e2⟩ := strL_len l y
  refine ⟨h.nam, by rw [e2]; exact h.n0, by rw [e2]; exact h.n1, by rw [e1, e2]; exact h.js, fun j hj => ?_, fun j hj => ?_, Nat.zero_le _, fun j hj => absurd hj (Nat.not_lt_zero _)⟩
  · rw [e1] at hj
    rw [strL_js hj]
    have h1 := h.jnt j hj
    have m := mul_in (x := y) (y := (j : Int)) 20 40 (by omega) (by omega)
    exact jntE_of ⟨by dsimp only; omega, h1.2.1, by dsimp only; omega⟩
  · rw [e2] at hj
    rw [strL_bs hj]
    have h1 := h.bea j hj
    unfold beaE
    rw [if_pos]
    simp only [beaB, smaB, Bool.and_eq_true, withinB_iff]
    omega
theorem strL_sho {l : Lin} (h : Sho l) (y : Int) : Sho (strL l y) := by
  obtain ⟨e1, e2⟩ := strL_len l y
  exact ⟨h.1, by rw [e1]; exact h.2.1, by rw [e2]; exact h.2.2.1, Nat.zero_le _, fun s hs => by cases hs⟩
theorem devS_str {l : Lin} {y : Int} {f : Int → Jnt → Int} (hf : f = loF ∨ f = hiF) (ws : List Int) : ∀ n : Nat, n ≤ l.js.length → devS f ws (strL l y).js n = wsum (fun i => y * i) ws n
  | 0, _ => rfl
  | n + 1, hn => by
    simp only [devS, wsum]
    rw [devS_str hf ws n (by omega), strL_js (show n < l.js.length by omega)]
    rcases hf with rfl | rfl
    · unfold loF; dsimp only; simp
    · unfold hiF; dsimp only; simp
theorem dev_str {l : Lin} (h : Rgt l) {y L p : Int} (hy : -20 ≤ y ∧ y ≤ 20) {j : Nat} (q : Pos (strL l y) L p j) : devLo (strL l y) L p j = 0 ∧ devHi (strL l y) L p j = 0 := by
  have hs := strL_rgt h hy
  have hjs := h.js
  obtain ⟨e1, e2⟩ := strL_len l y
  have hw := wsum_all hs q (fun i => y * i)
  obtain ⟨L0, L1, p0, p1, j0, j1, jn⟩ := id q
  obtain ⟨a1, a2, a3⟩ := at_bd hs (p := p) ⟨p0, by omega⟩
  obtain ⟨b1, b2, b3⟩ := at_bd hs (p := p + L) ⟨by omega, p1⟩
  have g1 := strL_bs (l := l) (y := y) (i := atI (strL l y) p) (by omega)
  have g2 := strL_bs (l := l) (y := y) (i := atI (strL l y) (p + L)) (by omega)
  have g3 := strL_pla (l := l) (y := y) j (by omega)
  have g4 : atD (strL l y) p = p - (l.bs.getD 0 default).len * (atI (strL l y) p : Int) := by unfold atD; rw [strL_pla _ (by omega)]
  have g5 : atD (strL l y) (p + L) = p + L - (l.bs.getD 0 default).len * (atI (strL l y) (p + L) : Int) := by unfold atD; rw [strL_pla _ (by omega)]
  have hz : wsum (fun i => y * i) (wtsL (strL l y) L p j) (strL l y).js.length = 0 := by
    rw [hw]
    unfold devD
    rw [g1, g2, g3, g4, g5]
    dsimp only
    generalize (l.bs.getD 0 default).len = m
    generalize atI (strL l y) p = A
    generalize atI (strL l y) (p + L) = B
    simp only [Int.natCast_add, Int.natCast_one]
    grind
  unfold devLo devHi
  rw [devS_str (.inl rfl) _ _ (by omega), devS_str (.inr rfl) _ _ (by omega), hz]
  simp
theorem fcA_str {l : Lin} (h : Rgt l) {y L u : Int} (hy : -20 ≤ y ∧ y ≤ 20) (hL : 1000 ≤ L ∧ L ≤ 30000) (hu : 1 ≤ u) : fcA (strL l y) L 0 u = none := by
  have key : ∀ k : Nat, k ≤ posN (strL l y) L u → fuK (strL l y) L 0 u k = none := by
    intro k
    induction k with
    | zero => intro _; rfl
    | succ k ih =>
      intro hk
      refine fuK_next (ih (by omega)) ?_
      unfold fuI
      refine List.find?_eq_none.2 fun n hn => ?_
      have q := ben_in hL (pose_in hu (show k < posN (strL l y) L u by omega)) (List.mem_of_mem_take hn)
      obtain ⟨d1, d2⟩ := dev_str h hy q
      rw [unB_no (by rw [d1, d2]; decide)]
      decide
  exact key _ (Nat.le_refl _)
theorem ben_str {l : Lin} (h : Rgt l) {y : Int} {j : Nat} (hj : 1 ≤ j ∧ j + 2 ≤ l.js.length) : benN (strL l y) j = 0 := by
  have hjs := h.js
  unfold benN
  rw [strL_js (show j + 1 < l.js.length by omega), strL_js (show j < l.js.length by omega), strL_js (show j - 1 < l.js.length by omega), strL_bs (show j - 1 < l.bs.length by omega), strL_bs (show j < l.bs.length by omega)]
  dsimp only
  obtain ⟨k, rfl⟩ : ∃ k, j = k + 1 := ⟨j - 1, by omega⟩
  simp only [Nat.add_sub_cancel, Int.natCast_add, Int.natCast_one]
  grind
end Go.Proofs.Ytonjcljnpcmenaa

/- The law of chapter 1 on straight lines and lines moved sideways. No conditions on a program. -/
namespace Go.Proofs.Ytonjcljnpcmenaa
open Go Go.RowKit Go.Proofs
set_option linter.unusedSimpArgs false
set_option linter.unusedVariables false
theorem y70_az26 : (Try.prog.info? 26).bind (·.zero) = some (.agg #[.string ByteArray.empty, .slice none 0 0, .slice none 0 0, .slice none 0 0]) := by kernel_rfl
theorem y70_az41 : (Try.prog.info? 41).bind (·.zero) = some (.agg #[.int .i64 0, .int .i64 0, .int .i64 0, .int .i64 0]) := by kernel_rfl
theorem y70_az81 : (Try.prog.info? 81).bind (·.zero) = some (.agg #[.int .i64 0, .int .i64 0]) := by kernel_rfl
theorem y70_ar85 : ArIs Try.prog 85 2 1 := ⟨by kernel_rfl, by kernel_rfl⟩
theorem y70_bz28 : (Try.prog.info? 28).bind (·.zero) = some (.agg #[.int .i64 0, .int .i64 0, .int .i64 0]) := by kernel_rfl
theorem y70_bu28 : Try.prog.underlying 28 = some (.struct (fsOf Try.prog 28)) := by kernel_rfl
theorem y70_bp28 : ∀ w, ((fsOf Try.prog 28).mapM fun f => Prod.mk f.offset <$> sizeOf f.type : Sem (Array (Nat × Nat))).run Try.prog w = .ok (#[(0, 1), (1, 1), (2, 1)]) w := fun _ => by kernel_rfl
theorem y70_bz39 : (Try.prog.info? 39).bind (·.zero) = some (.agg #[.int .i64 0, .int .i64 0]) := by kernel_rfl
theorem y70_bu39 : Try.prog.underlying 39 = some (.struct (fsOf Try.prog 39)) := by kernel_rfl
theorem y70_bp39 : ∀ w, ((fsOf Try.prog 39).mapM fun f => Prod.mk f.offset <$> sizeOf f.type : Sem (Array (Nat × Nat))).run Try.prog w = .ok (#[(0, 1), (1, 1)]) w := fun _ => by kernel_rfl
theorem y70_bz41 : (Try.prog.info? 41).bind (·.zero) = some (.agg #[.int .i64 0, .int .i64 0, .int .i64 0, .int .i64 0]) := by kernel_rfl
theorem y70_bu41 : Try.prog.underlying 41 = some (.struct (fsOf Try.prog 41)) := by kernel_rfl
theorem y70_bp41 : ∀ w, ((fsOf Try.prog 41).mapM fun f => Prod.mk f.offset <$> sizeOf f.type : Sem (Array (Nat × Nat))).run Try.prog w = .ok (#[(0, 1), (1, 1), (2, 2)]) w := fun _ => by kernel_rfl
theorem y70_bz81 : (Try.prog.info? 81).bind (·.zero) = some (.agg #[.int .i64 0, .int .i64 0]) := by kernel_rfl
theorem y70_bu81 : Try.prog.underlying 81 = some (.struct (fsOf Try.prog 81)) := by kernel_rfl
theorem y70_bp81 : ∀ w, ((fsOf Try.prog 81).mapM fun f => Prod.mk f.offset <$> sizeOf f.type : Sem (Array (Nat × Nat))).run Try.prog w = .ok (#[(0, 1), (1, 1)]) w := fun _ => by kernel_rfl
theorem y70_fl26_1 : FldIs Try.prog 26 1 1 false 1 := by unfold FldIs; kernel_rfl
theorem y70_fl26_2 : FldIs Try.prog 26 2 2 false 1 := by unfold FldIs; kernel_rfl
theorem y70_fl26_3 : FldIs Try.prog 26 3 3 false 1 := by unfold FldIs; kernel_rfl
theorem y70_fl28_0 : FldIs Try.prog 28 0 0 false 1 := by unfold FldIs; kernel_rfl
theorem y70_fl28_2 : FldIs Try.prog 28 2 2 false 1 := by unfold FldIs; kernel_rfl
theorem y70_fl70_0 : FldIs Try.prog 70 0 0 false 1 := by unfold FldIs; kernel_rfl
theorem y70_fl70_2 : FldIs Try.prog 70 2 2 true 2 := by unfold FldIs; kernel_rfl
theorem y70_fl87_0 : FldIs Try.prog 87 0 0 false 1 := by unfold FldIs; kernel_rfl
theorem y70_hcf12 : ∀ args w, (callFunc 12 args).run Try.prog w = .ok (.enter 12 args) w := fun _ _ => by kernel_rfl
theorem y70_hcf13 : ∀ args w, (callFunc 13 args).run Try.prog w = .ok (.enter 13 args) w := fun _ _ => by kernel_rfl
theorem y70_hcf14 : ∀ args w, (callFunc 14 args).run Try.prog w = .ok (.enter 14 args) w := fun _ _ => by kernel_rfl
theorem y70_hcf15 : ∀ args w, (callFunc 15 args).run Try.prog w = .ok (.enter 15 args) w := fun _ _ => by kernel_rfl
theorem y70_hcf16 : ∀ args w, (callFunc 16 args).run Try.prog w = .ok (.enter 16 args) w := fun _ _ => by kernel_rfl
theorem y70_hcf18 : ∀ args w, (callFunc 18 args).run Try.prog w = .ok (.enter 18 args) w := fun _ _ => by kernel_rfl
theorem y70_hcf19 : ∀ args w, (callFunc 19 args).run Try.prog w = .ok (.enter 19 args) w := fun _ _ => by kernel_rfl
theorem y70_hcf24 : ∀ args w, (callFunc 24 args).run Try.prog w = .ok (.enter 24 args) w := fun _ _ => by kernel_rfl
theorem y70_hcf26 : ∀ args w, (callFunc 26 args).run Try.prog w = .ok (.enter 26 args) w := fun _ _ => by kernel_rfl
theorem y70_hcf30 : ∀ args w, (callFunc 30 args).run Try.prog w = .ok (.enter 30 args) w := fun _ _ => by kernel_rfl
theorem y70_hcf47 : ∀ args w, (callFunc 47 args).run Try.prog w = .ok (.enter 47 args) w := fun _ _ => by kernel_rfl
theorem y70_hcf48 : ∀ args w, (callFunc 48 args).run Try.prog w = .ok (.enter 48 args) w := fun _ _ => by kernel_rfl
theorem y70_sl22 : SlIs Try.prog 22 70 4 32 (.agg #[.int .i64 0, .int .i64 0, .int .i64 0, .int .i64 0]) := ⟨by kernel_rfl, by kernel_rfl, by kernel_rfl⟩
theorem y70_sl23 : SlIs Try.prog 23 87 2 16 (.agg #[.int .i64 0, .int .i64 0]) := ⟨by kernel_rfl, by kernel_rfl, by kernel_rfl⟩
theorem y70_gq41 : Try.prog.eqGuardType Try.prog.depth 41 = false := by kernel_rfl
theorem y70_sq41 {a0 b0 : Int} {a1 b1 : Int} {a2 b2 : Int} {a3 b3 : Int} : EqV Try.prog 3 41 (.agg #[.int .i64 a0, .int .i64 a1, .int .i64 a2, .int .i64 a3]) (.agg #[.int .i64 b0, .int .i64 b1, .int .i64 b2, .int .i64 b3]) (decide (a0 = b0) && (decide (a1 = b1) && ((decide (a2 = b2) && (decide (a3 = b3) && true)) && true))) := (eqs_struct [(3, 0), (3, 1), (39, 2)] (by kernel_rfl) (by kernel_rfl) (by kernel_rfl) (by kernel_rfl) (.cons (fun _ => by kernel_rfl) (fun _ => by kernel_rfl) (EqV.up (eqv_int (k := .i64) (k' := .i64) (by kernel_rfl) a0 b0) 1) (.cons (fun _ => by kernel_rfl) (fun _ => by kernel_rfl) (EqV.up (eqv_int (k := .i64) (k' := .i64) (by kernel_rfl) a1 b1) 1) (.cons (x := .agg #[.int .i64 a2, .int .i64 a3]) (y := .agg #[.int .i64 b2, .int .i64 b3]) (fun _ => by kernel_rfl) (fun _ => by kernel_rfl) (eqs_struct [(3, 0), (3, 1)] (by kernel_rfl) (by kernel_rfl) (by kernel_rfl) (by kernel_rfl) (.cons (fun _ => by kernel_rfl) (fun _ => by kernel_rfl) (eqv_int (k := .i64) (k' := .i64) (by kernel_rfl) a2 b2) (.cons (fun _ => by kernel_rfl) (fun _ => by kernel_rfl) (eqv_int (k := .i64) (k' := .i64) (by kernel_rfl) a3 b3) .nil))) .nil))))
theorem y70_gq81 : Try.prog.eqGuardType Try.prog.depth 81 = false := by kernel_rfl
theorem y70_sq81 {a0 b0 : Int} {a1 b1 : Int} : EqV Try.prog 2 81 (.agg #[.int .i64 a0, .int .i64 a1]) (.agg #[.int .i64 b0, .int .i64 b1]) (decide (a0 = b0) && (decide (a1 = b1) && true)) := (eqs_struct [(3, 0), (3, 1)] (by kernel_rfl) (by kernel_rfl) (by kernel_rfl) (by kernel_rfl) (.cons (fun _ => by kernel_rfl) (fun _ => by kernel_rfl) (eqv_int (k := .i64) (k' := .i64) (by kernel_rfl) a0 b0) (.cons (fun _ => by kernel_rfl) (fun _ => by kernel_rfl) (eqv_int (k := .i64) (k' := .i64) (by kernel_rfl) a1 b1) .nil)))
theorem y70_sz24 : (Try.prog.info? 24).map (·.size) = some 1 := by kernel_rfl
theorem y70_sz26 : (Try.prog.info? 26).map (·.size) = some 4 := by kernel_rfl
theorem y70_sz3 : (Try.prog.info? 3).map (·.size) = some 1 := by kernel_rfl
theorem y70_sz39 : (Try.prog.info? 39).map (·.size) = some 2 := by kernel_rfl
theorem y70_sz41 : (Try.prog.info? 41).map (·.size) = some 4 := by kernel_rfl
theorem y70_sz81 : (Try.prog.info? 81).map (·.size) = some 2 := by kernel_rfl
theorem y70_ty22 : TyIs Try.prog 22 false 1 := ⟨by kernel_rfl, by kernel_rfl⟩
theorem y70_ty23 : TyIs Try.prog 23 false 1 := ⟨by kernel_rfl, by kernel_rfl⟩
theorem y70_ty26 : TyIs Try.prog 26 true 4 := ⟨by kernel_rfl, by kernel_rfl⟩
theorem y70_ty28 : TyIs Try.prog 28 true 3 := ⟨by kernel_rfl, by kernel_rfl⟩
theorem y70_ty3 : TyIs Try.prog 3 false 1 := ⟨by kernel_rfl, by kernel_rfl⟩
theorem y70_ty41 : TyIs Try.prog 41 true 4 := ⟨by kernel_rfl, by kernel_rfl⟩
theorem y70_ty81 : TyIs Try.prog 81 true 2 := ⟨by kernel_rfl, by kernel_rfl⟩

/-- A line without switches as a variable holds it, copied. -/
theorem copyN_ok (l : Lin) (hl : Sho l) (hs : l.ss = []) : FnOk Try.prog 18 [.agg [.v (.string l.nam), .row 4 (l.js.map jnE), .row 2 (l.bs.map beE), .v (.slice none 0 0)]] (fun q => q = lnA l) :=
  (yCopy_ok l hl).retold rfl fun i a b ha hb => by
    match i, ha, hb with
    | 0, ha, hb =>
      simp only [List.getElem?_cons_zero, Option.some.injEq] at ha hb; subst ha hb
      have e : lnA l = .agg [.v (.string l.nam), .row 4 (l.js.map jnE), .row 2 (l.bs.map beE), .row 3 []] := by
        show AV.agg [_, _, _, .row 3 (l.ss.map swE)] = _
        rw [hs]; rfl
      rw [e]
      refine r0l_agg rfl fun i a b ha hb => ?_
      match i, ha, hb with
      | 0, ha, hb => simp at ha hb; subst ha hb; exact r0l_same rfl
      | 1, ha, hb => simp at ha hb; subst ha hb; exact r0l_same rfl
      | 2, ha, hb => simp at ha hb; subst ha hb; exact r0l_same rfl
      | 3, ha, hb => simp at ha hb; subst ha hb; exact r0l_nil
      | (n + 4), ha, hb => simp at ha
    | (n + 1), ha, hb => simp at ha
theorem set_be (bs : List Bea) (i : Nat) (n c : Int) : (bs.map beE).set i [AV.v (.int .i64 n), AV.v (.int .i64 c)] = (bs.set i ⟨n, c⟩).map beE := by simp [List.map_set, beE]
theorem getD_set_s {js : List Jnt} {i : Nat} {j : Jnt} (h : i < js.length) : (js.set i j).getD i default = j := by rw [List.getD_eq_getElem?_getD, List.getElem?_set_self h]; rfl
set_option maxRecDepth 100000 in
set_option maxHeartbeats 4000000 in
theorem whole_ok (n : Int) : FnOk Try.prog 48 [mA n] (fun q => q = frA n 1) := by
  refine fnOk_of (fn := Try.f48) 5 (by kernel_rfl) rfl (by kernel_rfl) (Nat.le_of_ble_eq_true rfl) ?_
  intro e_0 m_0 hA hm_0
  have s0_0 : evA e_0 (.tmp 0) = _ := hA 0 _ rfl
  have ml_0 : m_0.length = 0 := by rw [hm_0]; rfl
  clear hA hm_0
  refine aw_seq <| at_ <| al_stm (st_alloc y70_az81 rfl ml_0) trivial rfl (fun m_1 hm_1 => ?_)
  have mo0_1 := m_push hm_1 ml_0
  simp only [pS, Value.cells, Nat.reduceAdd] at mo0_1
  have ml_1 := m_push_l hm_1 ml_0
  have ml_1 : _ = 1 := ml_1
  clear hm_1
  refine ae2 (up_m rfl s0_0) up_h ?_; clear s0_0; intro e_2 s0_2 s2_2
  refine then_n <| aw_seq <| at_ <| ar (ro_move s0_2) rfl <| ar (ro_build (evP_cons up_h (evP_cons ev_c evP_nil)) y70_bz81 y70_bu81 y70_bp81 rfl) rfl ?_
  refine al_stm (st_store (u2 rfl s2_2) up_h rfl rfl mo0_1 y70_sz81 rfl (nle rfl)) trivial rfl (fun m_3 hm_3 => ?_)
  have mo0_3 := m_set hm_3 mo0_1
  simp only [pS, Value.cells, Nat.reduceAdd] at mo0_3
  have ml_3 := m_set_l hm_3 ml_1
  clear hm_3 mo0_1
  refine ae1 (up_n (u2 rfl s2_2)) ?_; clear s0_2 s2_2; intro e_4 s2_4
  refine then_n <| aw_ret <| ret1 (.inr rfl) (by kernel_rfl) (resV_cell s2_4 mo0_3 y70_ty81 (nle rfl) (by simp)) (vw_r (.ro _ rfl)) ?_
  clear s2_4 mo0_3 ml_3
  rfl
theorem bend_str (l : Lin) (hl : Sho l) (h : Rgt l) {y : Int} (hy : -20 ≤ y ∧ y ≤ 20) (i : Int) (hi : 1 ≤ i ∧ i + 2 ≤ l.js.length) : FnOk Try.prog 47 [lnA (strL l y), mA i] (fun q => q = .tuple [frA 0 1, mA 0]) := by
  have hs := strL_rgt h hy
  obtain ⟨e1, e2⟩ := strL_len l y
  refine (bendAt_in (strL l y) (strL_sho hl y) (rgt_to hs) i (misE_z.2 (by omega))).mono fun q hq => ?_
  have hz := ben_str h (y := y) (j := i.toNat) (by omega)
  obtain ⟨_, g2, g3⟩ := ben_bd hs (j := i.toNat) (by omega)
  have hx : benX (strL l y) i.toNat = 0 := by unfold benX fraN; rw [hz]; simp
  have hd : benZ (strL l y) i.toNat = 1 := by
    unfold benZ fraD
    rw [hz]
    simp only [Int.mul_zero, Int.gcd_zero_left]
    rw [show ((benD (strL l y) i.toNat).natAbs : Int) = benD (strL l y) i.toNat by omega]
    exact Int.tdiv_self (by omega)
  have hb : benS (strL l y) i.toNat = true := by
    unfold benS
    rw [hx, hd]
    decide
  rw [hq, if_pos hb, hx, hd]
set_option maxRecDepth 100000 in
set_option maxHeartbeats 4000000 in
theorem lineStraight_many (l : Lin) (hf : fewL l = false) (L c u x y : Int) : FnOk Try.prog 9 [lnA l, vehA L c u, .agg [mA x, mA y]] (fun q => q = tbA true) := by
  refine fnOk_of (fn := Try.f9) 221 (by kernel_rfl) rfl (by kernel_rfl) (Nat.le_of_ble_eq_true rfl) ?_
  intro e_0 m_0 hA hm_0
  have s0_0 : evA e_0 (.tmp 0) = _ := hA 0 _ rfl
  have s1_0 : evA e_0 (.tmp 1) = _ := hA 1 _ rfl
  have s2_0 : evA e_0 (.tmp 2) = _ := hA 2 _ rfl
  have ml_0 : m_0.length = 0 := by rw [hm_0]; rfl
  clear hA hm_0
  refine aw_seq <| at_ <| al_stm (st_box s0_0 rfl ml_0) trivial rfl (fun m_1 hm_1 => ?_)
  have mo0_1 := m_push hm_1 ml_0
  have ml_1 := m_push_l hm_1 ml_0
  have ml_1 : _ = 1 := ml_1
  clear hm_1
  refine al_stm (st_box (up_m rfl s1_0) rfl ml_1) trivial rfl (fun m_2 hm_2 => ?_)
  have mo1_2 := m_push hm_2 ml_1
  have mo0_2 := m_push_o hm_2 mo0_1
  have ml_2 := m_push_l hm_2 ml_1
  have ml_2 : _ = 2 := ml_2
  clear hm_2 mo0_1
  refine al_stm (st_box (u2 rfl s2_0) rfl ml_2) trivial rfl (fun m_3 hm_3 => ?_)
  have mo2_3 := m_push hm_3 ml_2
  have mo1_3 := m_push_o hm_3 mo1_2
  have mo0_3 := m_push_o hm_3 mo0_2
  have ml_3 := m_push_l hm_3 ml_2
  have ml_3 : _ = 3 := ml_3
  clear hm_3 mo1_2 mo0_2
  refine ar (ro_assign ev_c) rfl <| ae3 (up_m rfl (u2 rfl up_h)) (u2 rfl up_h) (up_m rfl up_h) ?_; clear s0_0 s1_0 s2_0; intro e_4 s3_4 s4_4 s5_4
  refine then_n <| aw_seq <| aw_seq <| at_ <| ar (ro_call evL_nil rfl (awake_ok) y70_hcf12) rfl <| ar (ro_not up_h) rfl <| ae4 (u2 rfl s3_4) (u2 rfl s4_4) (u2 rfl s5_4) up_h ?_; clear s3_4 s4_4 s5_4; intro e_5 s3_5 s4_5 s5_5 s26_5
  refine then_n <| aw_case s26_5 (fun hq_6 => ?_) (fun hq_6 => ?_)
  · cases hq_6
  replace hq_6 := bf' hq_6
  refine aw_skip <| then_n <| aw_seq <| aw_seq <| at_ <| ar (ro_eq (ro_ld_ptr y70_ty26 rfl mo0_3 s3_5 (nle rfl)) (by simp only [pS, Value.cells, Nat.reduceAdd] <;> rfl)) rfl ?_
  refine ar (ro_call (evL_cons up_h evL_nil) rfl ((fewL_ok l).mono (fun q h => show q = tbA false from h.trans (by rw [hf]))) y70_hcf13) rfl ?_
  refine ar (ro_not up_h) rfl <| ar (ro_move up_h) rfl <| al_case up_h (fun hb_7 hq_7 => ?_) (fun hb_7 hq_7 => ?_)
  ·replace hq_7 := bt' hq_7
   refine al_skip' ⟨_, rfl, .inl hb_7⟩ rfl ?_
   refine al_skip' ⟨_, rfl, .inl (up_m rfl hb_7)⟩ rfl ?_
   refine al_skip' ⟨_, rfl, .inl (u2 rfl hb_7)⟩ rfl ?_
   refine ar (ro_pickT (up_m rfl (u2 rfl hb_7)) ev_c) rfl <| ar (ro_move up_h) rfl <| al_skip' ⟨_, rfl, .inl up_h⟩ rfl ?_
   refine al_skip' ⟨_, rfl, .inl (up_m rfl up_h)⟩ rfl ?_
   refine al_skip' ⟨_, rfl, .inl (u2 rfl up_h)⟩ rfl ?_
   refine ar (ro_pickT (up_m rfl (u2 rfl up_h)) ev_c) rfl <| ar (ro_move up_h) rfl <| al_skip' ⟨_, rfl, .inl up_h⟩ rfl ?_
   refine al_skip' ⟨_, rfl, .inl (up_m rfl up_h)⟩ rfl ?_
   refine al_skip' ⟨_, rfl, .inl (u2 rfl up_h)⟩ rfl ?_
   refine al_skip' ⟨_, rfl, .inl (up_m rfl (u2 rfl up_h))⟩ rfl ?_
   refine ar (ro_pickT (u4 rfl up_h) ev_c) rfl <| ar (ro_move up_h) rfl <| al_skip' ⟨_, rfl, .inl up_h⟩ rfl ?_
   refine al_skip' ⟨_, rfl, .inl (up_m rfl up_h)⟩ rfl ?_
   refine al_skip' ⟨_, rfl, .inl (u2 rfl up_h)⟩ rfl ?_
   refine al_skip' ⟨_, rfl, .inl (up_m rfl (u2 rfl up_h))⟩ rfl ?_
   refine ar (ro_pickT (u4 rfl up_h) ev_c) rfl <| ar (ro_move up_h) rfl <| al_skip' ⟨_, rfl, .inl up_h⟩ rfl ?_
   refine al_skip' ⟨_, rfl, .inl (up_m rfl up_h)⟩ rfl ?_
   refine al_skip' ⟨_, rfl, .inl (u2 rfl up_h)⟩ rfl ?_
   refine al_skip' ⟨_, rfl, .inl (up_m rfl (u2 rfl up_h))⟩ rfl ?_
   refine ar (ro_pickT (u4 rfl up_h) ev_c) rfl <| ae4 (up_m rfl (u2 rfl (u4 rfl (u8 rfl (u16 rfl s3_5))))) (up_m rfl (u2 rfl (u4 rfl (u8 rfl (u16 rfl s4_5))))) (up_m rfl (u2 rfl (u4 rfl (u8 rfl (u16 rfl s5_5))))) up_h ?_; clear hb_7 s26_5 s3_5 s4_5 s5_5; intro e_8 s3_8 s4_8 s5_8 s57_8
   refine then_n <| aw_true s57_8 <| aw_seq <| at_ <| ar (ro_assign ev_c) rfl <| ae1 up_h ?_; clear s3_8 s4_8 s57_8 s5_8; intro e_10 s6_10
   refine then_n <| aw_ret <| then_r <| ret1 (.inr rfl) (by kernel_rfl) (resV_tmp s6_10) (.ro _ rfl) ?_
   clear s6_10 mo2_3 mo1_3 mo0_3 ml_3
   first | rfl | (simp_all; done)
  · cases hq_7
set_option maxRecDepth 100000 in
set_option maxHeartbeats 4000000 in
theorem lineStraight_bad (l : Lin) (hf : fewL l = true) (hb : (linM l).2 ≠ 0) (L c u x y : Int) : FnOk Try.prog 9 [lnA l, vehA L c u, .agg [mA x, mA y]] (fun q => q = tbA true) := by
  refine fnOk_of (fn := Try.f9) 221 (by kernel_rfl) rfl (by kernel_rfl) (Nat.le_of_ble_eq_true rfl) ?_
  intro e_0 m_0 hA hm_0
  have s0_0 : evA e_0 (.tmp 0) = _ := hA 0 _ rfl
  have s1_0 : evA e_0 (.tmp 1) = _ := hA 1 _ rfl
  have s2_0 : evA e_0 (.tmp 2) = _ := hA 2 _ rfl
  have ml_0 : m_0.length = 0 := by rw [hm_0]; rfl
  clear hA hm_0
  have hl := fewL_sho hf
  refine aw_seq <| at_ <| al_stm (st_box s0_0 rfl ml_0) trivial rfl (fun m_1 hm_1 => ?_)
  have mo0_1 := m_push hm_1 ml_0
  have ml_1 := m_push_l hm_1 ml_0
  have ml_1 : _ = 1 := ml_1
  clear hm_1
  refine al_stm (st_box (up_m rfl s1_0) rfl ml_1) trivial rfl (fun m_2 hm_2 => ?_)
  have mo1_2 := m_push hm_2 ml_1
  have mo0_2 := m_push_o hm_2 mo0_1
  have ml_2 := m_push_l hm_2 ml_1
  have ml_2 : _ = 2 := ml_2
  clear hm_2 mo0_1
  refine al_stm (st_box (u2 rfl s2_0) rfl ml_2) trivial rfl (fun m_3 hm_3 => ?_)
  have mo2_3 := m_push hm_3 ml_2
  have mo1_3 := m_push_o hm_3 mo1_2
  have mo0_3 := m_push_o hm_3 mo0_2
  have ml_3 := m_push_l hm_3 ml_2
  have ml_3 : _ = 3 := ml_3
  clear hm_3 mo1_2 mo0_2
  refine ar (ro_assign ev_c) rfl <| ae3 (up_m rfl (u2 rfl up_h)) (u2 rfl up_h) (up_m rfl up_h) ?_; clear s0_0 s1_0 s2_0; intro e_4 s3_4 s4_4 s5_4
  refine then_n <| aw_seq <| aw_seq <| at_ <| ar (ro_call evL_nil rfl (awake_ok) y70_hcf12) rfl <| ar (ro_not up_h) rfl <| ae4 (u2 rfl s3_4) (u2 rfl s4_4) (u2 rfl s5_4) up_h ?_; clear s3_4 s4_4 s5_4; intro e_5 s3_5 s4_5 s5_5 s26_5
  refine then_n <| aw_case s26_5 (fun hq_6 => ?_) (fun hq_6 => ?_)
  · cases hq_6
  replace hq_6 := bf' hq_6
  refine aw_skip <| then_n <| aw_seq <| aw_seq <| at_ <| ar (ro_eq (ro_ld_ptr y70_ty26 rfl mo0_3 s3_5 (nle rfl)) (by simp only [pS, Value.cells, Nat.reduceAdd] <;> rfl)) rfl ?_
  refine ar (ro_call (evL_cons up_h evL_nil) rfl ((fewL_ok l).mono (fun q h => show q = tbA true from h.trans (by rw [hf]))) y70_hcf13) rfl ?_
  refine ar (ro_not up_h) rfl <| ar (ro_move up_h) rfl <| al_case up_h (fun hb_7 hq_7 => ?_) (fun hb_7 hq_7 => ?_)
  · cases hq_7
  replace hq_7 := bf' hq_7
  refine al_ro' (ro_eq (ro_ld_ptr y70_ty26 rfl mo0_3 (u4 rfl s3_5) (nle rfl)) (by simp only [pS, Value.cells, Nat.reduceAdd] <;> rfl)) ⟨_, rfl, hb_7⟩ rfl ?_
  refine al_ro' (ro_call (evL_cons up_h evL_nil) rfl (lineErr_ok l hl) y70_hcf14) ⟨_, rfl, (up_m rfl hb_7)⟩ rfl ?_
  refine al_ro' (ro_neq up_h ev_c) ⟨_, rfl, (u2 rfl hb_7)⟩ rfl ?_
  refine ar (ro_pickF (up_m rfl (u2 rfl hb_7)) up_h) rfl <| ar (ro_move up_h) rfl <| al_case up_h (fun hb_11 hq_11 => ?_) (fun hb_11 hq_11 => ?_)
  ·replace hq_11 := bnt hq_11
   refine al_skip' ⟨_, rfl, .inl hb_11⟩ rfl ?_
   refine al_skip' ⟨_, rfl, .inl (up_m rfl hb_11)⟩ rfl ?_
   refine al_skip' ⟨_, rfl, .inl (u2 rfl hb_11)⟩ rfl ?_
   refine ar (ro_pickT (up_m rfl (u2 rfl hb_11)) ev_c) rfl <| ar (ro_move up_h) rfl <| al_skip' ⟨_, rfl, .inl up_h⟩ rfl ?_
   refine al_skip' ⟨_, rfl, .inl (up_m rfl up_h)⟩ rfl ?_
   refine al_skip' ⟨_, rfl, .inl (u2 rfl up_h)⟩ rfl ?_
   refine al_skip' ⟨_, rfl, .inl (up_m rfl (u2 rfl up_h))⟩ rfl ?_
   refine ar (ro_pickT (u4 rfl up_h) ev_c) rfl <| ar (ro_move up_h) rfl <| al_skip' ⟨_, rfl, .inl up_h⟩ rfl ?_
   refine al_skip' ⟨_, rfl, .inl (up_m rfl up_h)⟩ rfl ?_
   refine al_skip' ⟨_, rfl, .inl (u2 rfl up_h)⟩ rfl ?_
   refine al_skip' ⟨_, rfl, .inl (up_m rfl (u2 rfl up_h))⟩ rfl ?_
   refine ar (ro_pickT (u4 rfl up_h) ev_c) rfl <| ar (ro_move up_h) rfl <| al_skip' ⟨_, rfl, .inl up_h⟩ rfl ?_
   refine al_skip' ⟨_, rfl, .inl (up_m rfl up_h)⟩ rfl ?_
   refine al_skip' ⟨_, rfl, .inl (u2 rfl up_h)⟩ rfl ?_
   refine al_skip' ⟨_, rfl, .inl (up_m rfl (u2 rfl up_h))⟩ rfl ?_
   refine ar (ro_pickT (u4 rfl up_h) ev_c) rfl <| ae4 (up_m rfl (u2 rfl (u4 rfl (u8 rfl (u16 rfl s3_5))))) (up_m rfl (u2 rfl (u4 rfl (u8 rfl (u16 rfl s4_5))))) (up_m rfl (u2 rfl (u4 rfl (u8 rfl (u16 rfl s5_5))))) up_h ?_; clear hb_11 hb_7 s26_5 s3_5 s4_5 s5_5; intro e_12 s3_12 s4_12 s5_12 s57_12
   refine then_n <| aw_true s57_12 <| aw_seq <| at_ <| ar (ro_assign ev_c) rfl <| ae1 up_h ?_; clear s3_12 s4_12 s57_12 s5_12; intro e_14 s6_14
   refine then_n <| aw_ret <| then_r <| ret1 (.inr rfl) (by kernel_rfl) (resV_tmp s6_14) (.ro _ rfl) ?_
   clear s6_14 mo2_3 mo1_3 mo0_3 ml_3
   first | rfl | (simp_all; done)
  · replace hq_11 := bnf hq_11; exfalso; omega
set_option maxRecDepth 100000 in
set_option maxHeartbeats 4000000 in
theorem lineStraight_veh (l : Lin) (hf : fewL l = true) (hg : (linM l).2 = 0) (L c u x y : Int) (hv : vehE L c u ≠ 0) : FnOk Try.prog 9 [lnA l, vehA L c u, .agg [mA x, mA y]] (fun q => q = tbA true) := by
  refine fnOk_of (fn := Try.f9) 221 (by kernel_rfl) rfl (by kernel_rfl) (Nat.le_of_ble_eq_true rfl) ?_
  intro e_0 m_0 hA hm_0
  have s0_0 : evA e_0 (.tmp 0) = _ := hA 0 _ rfl
  have s1_0 : evA e_0 (.tmp 1) = _ := hA 1 _ rfl
  have s2_0 : evA e_0 (.tmp 2) = _ := hA 2 _ rfl
  have ml_0 : m_0.length = 0 := by rw [hm_0]; rfl
  clear hA hm_0
  have hl := fewL_sho hf
  refine aw_seq <| at_ <| al_stm (st_box s0_0 rfl ml_0) trivial rfl (fun m_1 hm_1 => ?_)
  have mo0_1 := m_push hm_1 ml_0
  have ml_1 := m_push_l hm_1 ml_0
  have ml_1 : _ = 1 := ml_1
  clear hm_1
  refine al_stm (st_box (up_m rfl s1_0) rfl ml_1) trivial rfl (fun m_2 hm_2 => ?_)
  have mo1_2 := m_push hm_2 ml_1
  have mo0_2 := m_push_o hm_2 mo0_1
  have ml_2 := m_push_l hm_2 ml_1
  have ml_2 : _ = 2 := ml_2
  clear hm_2 mo0_1
  refine al_stm (st_box (u2 rfl s2_0) rfl ml_2) trivial rfl (fun m_3 hm_3 => ?_)
  have mo2_3 := m_push hm_3 ml_2
  have mo1_3 := m_push_o hm_3 mo1_2
  have mo0_3 := m_push_o hm_3 mo0_2
  have ml_3 := m_push_l hm_3 ml_2
  have ml_3 : _ = 3 := ml_3
  clear hm_3 mo1_2 mo0_2
  refine ar (ro_assign ev_c) rfl <| ae3 (up_m rfl (u2 rfl up_h)) (u2 rfl up_h) (up_m rfl up_h) ?_; clear s0_0 s1_0 s2_0; intro e_4 s3_4 s4_4 s5_4
  refine then_n <| aw_seq <| aw_seq <| at_ <| ar (ro_call evL_nil rfl (awake_ok) y70_hcf12) rfl <| ar (ro_not up_h) rfl <| ae4 (u2 rfl s3_4) (u2 rfl s4_4) (u2 rfl s5_4) up_h ?_; clear s3_4 s4_4 s5_4; intro e_5 s3_5 s4_5 s5_5 s26_5
  refine then_n <| aw_case s26_5 (fun hq_6 => ?_) (fun hq_6 => ?_)
  · cases hq_6
  replace hq_6 := bf' hq_6
  refine aw_skip <| then_n <| aw_seq <| aw_seq <| at_ <| ar (ro_eq (ro_ld_ptr y70_ty26 rfl mo0_3 s3_5 (nle rfl)) (by simp only [pS, Value.cells, Nat.reduceAdd] <;> rfl)) rfl ?_
  refine ar (ro_call (evL_cons up_h evL_nil) rfl ((fewL_ok l).mono (fun q h => show q = tbA true from h.trans (by rw [hf]))) y70_hcf13) rfl ?_
  refine ar (ro_not up_h) rfl <| ar (ro_move up_h) rfl <| al_case up_h (fun hb_7 hq_7 => ?_) (fun hb_7 hq_7 => ?_)
  · cases hq_7
  replace hq_7 := bf' hq_7
  refine al_ro' (ro_eq (ro_ld_ptr y70_ty26 rfl mo0_3 (u4 rfl s3_5) (nle rfl)) (by simp only [pS, Value.cells, Nat.reduceAdd] <;> rfl)) ⟨_, rfl, hb_7⟩ rfl ?_
  refine al_ro' (ro_call (evL_cons up_h evL_nil) rfl ((lineErr_ok l hl).mono (fun q h => show q = mA 0 from h.trans (by rw [hg]))) y70_hcf14) ⟨_, rfl, (up_m rfl hb_7)⟩ rfl ?_
  refine al_ro' (ro_neq up_h ev_c) ⟨_, rfl, (u2 rfl hb_7)⟩ rfl ?_
  refine ar (ro_pickF (up_m rfl (u2 rfl hb_7)) up_h) rfl <| ar (ro_move up_h) rfl <| al_case up_h (fun hb_11 hq_11 => ?_) (fun hb_11 hq_11 => ?_)
  · cases hq_11
  replace hq_11 := bnf hq_11
  refine al_ro' (ro_eq (ro_ld_ptr y70_ty28 rfl mo1_3 (up_m rfl (u8 rfl s4_5)) (nle rfl)) (by simp only [pS, Value.cells, Nat.reduceAdd] <;> rfl)) ⟨_, rfl, hb_11⟩ rfl ?_
  refine al_ro' (ro_call (evL_cons up_h evL_nil) rfl (rVehicleErr_ok L c u) y70_hcf15) ⟨_, rfl, (up_m rfl hb_11)⟩ rfl ?_
  refine al_ro' (ro_neq up_h ev_c) ⟨_, rfl, (u2 rfl hb_11)⟩ rfl ?_
  refine ar (ro_pickF (up_m rfl (u2 rfl hb_11)) up_h) rfl <| ar (ro_move up_h) rfl <| al_case up_h (fun hb_15 hq_15 => ?_) (fun hb_15 hq_15 => ?_)
  ·replace hq_15 := bnt hq_15
   refine al_skip' ⟨_, rfl, .inl hb_15⟩ rfl ?_
   refine al_skip' ⟨_, rfl, .inl (up_m rfl hb_15)⟩ rfl ?_
   refine al_skip' ⟨_, rfl, .inl (u2 rfl hb_15)⟩ rfl ?_
   refine al_skip' ⟨_, rfl, .inl (up_m rfl (u2 rfl hb_15))⟩ rfl ?_
   refine ar (ro_pickT (u4 rfl hb_15) ev_c) rfl <| ar (ro_move up_h) rfl <| al_skip' ⟨_, rfl, .inl up_h⟩ rfl ?_
   refine al_skip' ⟨_, rfl, .inl (up_m rfl up_h)⟩ rfl ?_
   refine al_skip' ⟨_, rfl, .inl (u2 rfl up_h)⟩ rfl ?_
   refine al_skip' ⟨_, rfl, .inl (up_m rfl (u2 rfl up_h))⟩ rfl ?_
   refine ar (ro_pickT (u4 rfl up_h) ev_c) rfl <| ar (ro_move up_h) rfl <| al_skip' ⟨_, rfl, .inl up_h⟩ rfl ?_
   refine al_skip' ⟨_, rfl, .inl (up_m rfl up_h)⟩ rfl ?_
   refine al_skip' ⟨_, rfl, .inl (u2 rfl up_h)⟩ rfl ?_
   refine al_skip' ⟨_, rfl, .inl (up_m rfl (u2 rfl up_h))⟩ rfl ?_
   refine ar (ro_pickT (u4 rfl up_h) ev_c) rfl <| ae4 (up_m rfl (u2 rfl (u4 rfl (u8 rfl (u16 rfl s3_5))))) (up_m rfl (u2 rfl (u4 rfl (u8 rfl (u16 rfl s4_5))))) (up_m rfl (u2 rfl (u4 rfl (u8 rfl (u16 rfl s5_5))))) up_h ?_; clear hb_11 hb_15 hb_7 s26_5 s3_5 s4_5 s5_5; intro e_16 s3_16 s4_16 s5_16 s57_16
   refine then_n <| aw_true s57_16 <| aw_seq <| at_ <| ar (ro_assign ev_c) rfl <| ae1 up_h ?_; clear s3_16 s4_16 s57_16 s5_16; intro e_18 s6_18
   refine then_n <| aw_ret <| then_r <| ret1 (.inr rfl) (by kernel_rfl) (resV_tmp s6_18) (.ro _ rfl) ?_
   clear s6_18 mo2_3 mo1_3 mo0_3 ml_3
   first | rfl | (simp_all; done)
  · replace hq_15 := bnf hq_15; exfalso; omega
set_option maxRecDepth 100000 in
set_option maxHeartbeats 4000000 in
theorem lineStraight_far (l : Lin) (hf : fewL l = true) (hg : (linM l).2 = 0) (L c u x y : Int) (hv : vehE L c u = 0) (hq : posB l u = false) : FnOk Try.prog 9 [lnA l, vehA L c u, .agg [mA x, mA y]] (fun q => q = tbA true) := by
  refine fnOk_of (fn := Try.f9) 221 (by kernel_rfl) rfl (by kernel_rfl) (Nat.le_of_ble_eq_true rfl) ?_
  intro e_0 m_0 hA hm_0
  have s0_0 : evA e_0 (.tmp 0) = _ := hA 0 _ rfl
  have s1_0 : evA e_0 (.tmp 1) = _ := hA 1 _ rfl
  have s2_0 : evA e_0 (.tmp 2) = _ := hA 2 _ rfl
  have ml_0 : m_0.length = 0 := by rw [hm_0]; rfl
  clear hA hm_0
  have hl := fewL_sho hf; have hr := rgt_of hg; have hv2 := vehE_z.1 hv
  refine aw_seq <| at_ <| al_stm (st_box s0_0 rfl ml_0) trivial rfl (fun m_1 hm_1 => ?_)
  have mo0_1 := m_push hm_1 ml_0
  have ml_1 := m_push_l hm_1 ml_0
  have ml_1 : _ = 1 := ml_1
  clear hm_1
  refine al_stm (st_box (up_m rfl s1_0) rfl ml_1) trivial rfl (fun m_2 hm_2 => ?_)
  have mo1_2 := m_push hm_2 ml_1
  have mo0_2 := m_push_o hm_2 mo0_1
  have ml_2 := m_push_l hm_2 ml_1
  have ml_2 : _ = 2 := ml_2
  clear hm_2 mo0_1
  refine al_stm (st_box (u2 rfl s2_0) rfl ml_2) trivial rfl (fun m_3 hm_3 => ?_)
  have mo2_3 := m_push hm_3 ml_2
  have mo1_3 := m_push_o hm_3 mo1_2
  have mo0_3 := m_push_o hm_3 mo0_2
  have ml_3 := m_push_l hm_3 ml_2
  have ml_3 : _ = 3 := ml_3
  clear hm_3 mo1_2 mo0_2
  refine ar (ro_assign ev_c) rfl <| ae3 (up_m rfl (u2 rfl up_h)) (u2 rfl up_h) (up_m rfl up_h) ?_; clear s0_0 s1_0 s2_0; intro e_4 s3_4 s4_4 s5_4
  refine then_n <| aw_seq <| aw_seq <| at_ <| ar (ro_call evL_nil rfl (awake_ok) y70_hcf12) rfl <| ar (ro_not up_h) rfl <| ae4 (u2 rfl s3_4) (u2 rfl s4_4) (u2 rfl s5_4) up_h ?_; clear s3_4 s4_4 s5_4; intro e_5 s3_5 s4_5 s5_5 s26_5
  refine then_n <| aw_case s26_5 (fun hq_6 => ?_) (fun hq_6 => ?_)
  · cases hq_6
  replace hq_6 := bf' hq_6
  refine aw_skip <| then_n <| aw_seq <| aw_seq <| at_ <| ar (ro_eq (ro_ld_ptr y70_ty26 rfl mo0_3 s3_5 (nle rfl)) (by simp only [pS, Value.cells, Nat.reduceAdd] <;> rfl)) rfl ?_
  refine ar (ro_call (evL_cons up_h evL_nil) rfl ((fewL_ok l).mono (fun q h => show q = tbA true from h.trans (by rw [hf]))) y70_hcf13) rfl ?_
  refine ar (ro_not up_h) rfl <| ar (ro_move up_h) rfl <| al_case up_h (fun hb_7 hq_7 => ?_) (fun hb_7 hq_7 => ?_)
  · cases hq_7
  replace hq_7 := bf' hq_7
  refine al_ro' (ro_eq (ro_ld_ptr y70_ty26 rfl mo0_3 (u4 rfl s3_5) (nle rfl)) (by simp only [pS, Value.cells, Nat.reduceAdd] <;> rfl)) ⟨_, rfl, hb_7⟩ rfl ?_
  refine al_ro' (ro_call (evL_cons up_h evL_nil) rfl ((lineErr_ok l hl).mono (fun q h => show q = mA 0 from h.trans (by rw [hg]))) y70_hcf14) ⟨_, rfl, (up_m rfl hb_7)⟩ rfl ?_
  refine al_ro' (ro_neq up_h ev_c) ⟨_, rfl, (u2 rfl hb_7)⟩ rfl ?_
  refine ar (ro_pickF (up_m rfl (u2 rfl hb_7)) up_h) rfl <| ar (ro_move up_h) rfl <| al_case up_h (fun hb_11 hq_11 => ?_) (fun hb_11 hq_11 => ?_)
  · cases hq_11
  replace hq_11 := bnf hq_11
  refine al_ro' (ro_eq (ro_ld_ptr y70_ty28 rfl mo1_3 (up_m rfl (u8 rfl s4_5)) (nle rfl)) (by simp only [pS, Value.cells, Nat.reduceAdd] <;> rfl)) ⟨_, rfl, hb_11⟩ rfl ?_
  refine al_ro' (ro_call (evL_cons up_h evL_nil) rfl ((rVehicleErr_ok L c u).mono (fun q h => show q = mA 0 from h.trans (by rw [hv]))) y70_hcf15) ⟨_, rfl, (up_m rfl hb_11)⟩ rfl ?_
  refine al_ro' (ro_neq up_h ev_c) ⟨_, rfl, (u2 rfl hb_11)⟩ rfl ?_
  refine ar (ro_pickF (up_m rfl (u2 rfl hb_11)) up_h) rfl <| ar (ro_move up_h) rfl <| al_case up_h (fun hb_15 hq_15 => ?_) (fun hb_15 hq_15 => ?_)
  · cases hq_15
  replace hq_15 := bnf hq_15
  refine al_ro' (ro_eq (ro_ld_ptr y70_ty26 rfl mo0_3 (u2 rfl (u4 rfl (u8 rfl s3_5))) (nle rfl)) (by simp only [pS, Value.cells, Nat.reduceAdd] <;> rfl)) ⟨_, rfl, hb_15⟩ rfl ?_
  refine al_ro' (ro_eq (ro_ld_ptr y70_ty28 rfl mo1_3 (up_m rfl (u2 rfl (u4 rfl (u8 rfl s4_5)))) (nle rfl)) (by simp only [pS, Value.cells, Nat.reduceAdd] <;> rfl)) ⟨_, rfl, (up_m rfl hb_15)⟩ rfl ?_
  refine al_ro' (ro_call (evL_cons (up_m rfl up_h) (evL_cons up_h evL_nil)) rfl ((lposes_ok l hr L c u (by omega)).mono (fun q h => show q = tbA false from h.trans (by rw [hq]))) y70_hcf16) ⟨_, rfl, (u2 rfl hb_15)⟩ rfl ?_
  refine al_ro' (ro_not up_h) ⟨_, rfl, (up_m rfl (u2 rfl hb_15))⟩ rfl ?_
  refine ar (ro_pickF (u4 rfl hb_15) up_h) rfl <| ar (ro_move up_h) rfl <| al_case up_h (fun hb_19 hq_19 => ?_) (fun hb_19 hq_19 => ?_)
  ·replace hq_19 := bt' hq_19
   refine al_skip' ⟨_, rfl, .inl hb_19⟩ rfl ?_
   refine al_skip' ⟨_, rfl, .inl (up_m rfl hb_19)⟩ rfl ?_
   refine al_skip' ⟨_, rfl, .inl (u2 rfl hb_19)⟩ rfl ?_
   refine al_skip' ⟨_, rfl, .inl (up_m rfl (u2 rfl hb_19))⟩ rfl ?_
   refine ar (ro_pickT (u4 rfl hb_19) ev_c) rfl <| ar (ro_move up_h) rfl <| al_skip' ⟨_, rfl, .inl up_h⟩ rfl ?_
   refine al_skip' ⟨_, rfl, .inl (up_m rfl up_h)⟩ rfl ?_
   refine al_skip' ⟨_, rfl, .inl (u2 rfl up_h)⟩ rfl ?_
   refine al_skip' ⟨_, rfl, .inl (up_m rfl (u2 rfl up_h))⟩ rfl ?_
   refine ar (ro_pickT (u4 rfl up_h) ev_c) rfl <| ae4 (up_m rfl (u2 rfl (u4 rfl (u8 rfl (u16 rfl s3_5))))) (up_m rfl (u2 rfl (u4 rfl (u8 rfl (u16 rfl s4_5))))) (up_m rfl (u2 rfl (u4 rfl (u8 rfl (u16 rfl s5_5))))) up_h ?_; clear hb_11 hb_15 hb_19 hb_7 s26_5 s3_5 s4_5 s5_5; intro e_20 s3_20 s4_20 s5_20 s57_20
   refine then_n <| aw_true s57_20 <| aw_seq <| at_ <| ar (ro_assign ev_c) rfl <| ae1 up_h ?_; clear s3_20 s4_20 s57_20 s5_20; intro e_22 s6_22
   refine then_n <| aw_ret <| then_r <| ret1 (.inr rfl) (by kernel_rfl) (resV_tmp s6_22) (.ro _ rfl) ?_
   clear s6_22 mo2_3 mo1_3 mo0_3 ml_3
   first | rfl | (simp_all; done)
  · cases hq_19
set_option maxRecDepth 100000 in
set_option maxHeartbeats 4000000 in
theorem lineStraight_out (l : Lin) (hf : fewL l = true) (hg : (linM l).2 = 0) (L c u x y : Int) (hv : vehE L c u = 0) (hq : posB l u = true) (hx : withinB x (-40000) 40000 = false) : FnOk Try.prog 9 [lnA l, vehA L c u, .agg [mA x, mA y]] (fun q => q = tbA true) := by
  refine fnOk_of (fn := Try.f9) 221 (by kernel_rfl) rfl (by kernel_rfl) (Nat.le_of_ble_eq_true rfl) ?_
  intro e_0 m_0 hA hm_0
  have s0_0 : evA e_0 (.tmp 0) = _ := hA 0 _ rfl
  have s1_0 : evA e_0 (.tmp 1) = _ := hA 1 _ rfl
  have s2_0 : evA e_0 (.tmp 2) = _ := hA 2 _ rfl
  have ml_0 : m_0.length = 0 := by rw [hm_0]; rfl
  clear hA hm_0
  have hl := fewL_sho hf; have hr := rgt_of hg; have hv2 := vehE_z.1 hv
  refine aw_seq <| at_ <| al_stm (st_box s0_0 rfl ml_0) trivial rfl (fun m_1 hm_1 => ?_)
  have mo0_1 := m_push hm_1 ml_0
  have ml_1 := m_push_l hm_1 ml_0
  have ml_1 : _ = 1 := ml_1
  clear hm_1
  refine al_stm (st_box (up_m rfl s1_0) rfl ml_1) trivial rfl (fun m_2 hm_2 => ?_)
  have mo1_2 := m_push hm_2 ml_1
  have mo0_2 := m_push_o hm_2 mo0_1
  have ml_2 := m_push_l hm_2 ml_1
  have ml_2 : _ = 2 := ml_2
  clear hm_2 mo0_1
  refine al_stm (st_box (u2 rfl s2_0) rfl ml_2) trivial rfl (fun m_3 hm_3 => ?_)
  have mo2_3 := m_push hm_3 ml_2
  have mo1_3 := m_push_o hm_3 mo1_2
  have mo0_3 := m_push_o hm_3 mo0_2
  have ml_3 := m_push_l hm_3 ml_2
  have ml_3 : _ = 3 := ml_3
  clear hm_3 mo1_2 mo0_2
  refine ar (ro_assign ev_c) rfl <| ae3 (up_m rfl (u2 rfl up_h)) (u2 rfl up_h) (up_m rfl up_h) ?_; clear s0_0 s1_0 s2_0; intro e_4 s3_4 s4_4 s5_4
  refine then_n <| aw_seq <| aw_seq <| at_ <| ar (ro_call evL_nil rfl (awake_ok) y70_hcf12) rfl <| ar (ro_not up_h) rfl <| ae4 (u2 rfl s3_4) (u2 rfl s4_4) (u2 rfl s5_4) up_h ?_; clear s3_4 s4_4 s5_4; intro e_5 s3_5 s4_5 s5_5 s26_5
  refine then_n <| aw_case s26_5 (fun hq_6 => ?_) (fun hq_6 => ?_)
  · cases hq_6
  replace hq_6 := bf' hq_6
  refine aw_skip <| then_n <| aw_seq <| aw_seq <| at_ <| ar (ro_eq (ro_ld_ptr y70_ty26 rfl mo0_3 s3_5 (nle rfl)) (by simp only [pS, Value.cells, Nat.reduceAdd] <;> rfl)) rfl ?_
  refine ar (ro_call (evL_cons up_h evL_nil) rfl ((fewL_ok l).mono (fun q h => show q = tbA true from h.trans (by rw [hf]))) y70_hcf13) rfl ?_
  refine ar (ro_not up_h) rfl <| ar (ro_move up_h) rfl <| al_case up_h (fun hb_7 hq_7 => ?_) (fun hb_7 hq_7 => ?_)
  · cases hq_7
  replace hq_7 := bf' hq_7
  refine al_ro' (ro_eq (ro_ld_ptr y70_ty26 rfl mo0_3 (u4 rfl s3_5) (nle rfl)) (by simp only [pS, Value.cells, Nat.reduceAdd] <;> rfl)) ⟨_, rfl, hb_7⟩ rfl ?_
  refine al_ro' (ro_call (evL_cons up_h evL_nil) rfl ((lineErr_ok l hl).mono (fun q h => show q = mA 0 from h.trans (by rw [hg]))) y70_hcf14) ⟨_, rfl, (up_m rfl hb_7)⟩ rfl ?_
  refine al_ro' (ro_neq up_h ev_c) ⟨_, rfl, (u2 rfl hb_7)⟩ rfl ?_
  refine ar (ro_pickF (up_m rfl (u2 rfl hb_7)) up_h) rfl <| ar (ro_move up_h) rfl <| al_case up_h (fun hb_11 hq_11 => ?_) (fun hb_11 hq_11 => ?_)
  · cases hq_11
  replace hq_11 := bnf hq_11
  refine al_ro' (ro_eq (ro_ld_ptr y70_ty28 rfl mo1_3 (up_m rfl (u8 rfl s4_5)) (nle rfl)) (by simp only [pS, Value.cells, Nat.reduceAdd] <;> rfl)) ⟨_, rfl, hb_11⟩ rfl ?_
  refine al_ro' (ro_call (evL_cons up_h evL_nil) rfl ((rVehicleErr_ok L c u).mono (fun q h => show q = mA 0 from h.trans (by rw [hv]))) y70_hcf15) ⟨_, rfl, (up_m rfl hb_11)⟩ rfl ?_
  refine al_ro' (ro_neq up_h ev_c) ⟨_, rfl, (u2 rfl hb_11)⟩ rfl ?_
  refine ar (ro_pickF (up_m rfl (u2 rfl hb_11)) up_h) rfl <| ar (ro_move up_h) rfl <| al_case up_h (fun hb_15 hq_15 => ?_) (fun hb_15 hq_15 => ?_)
  · cases hq_15
  replace hq_15 := bnf hq_15
  refine al_ro' (ro_eq (ro_ld_ptr y70_ty26 rfl mo0_3 (u2 rfl (u4 rfl (u8 rfl s3_5))) (nle rfl)) (by simp only [pS, Value.cells, Nat.reduceAdd] <;> rfl)) ⟨_, rfl, hb_15⟩ rfl ?_
  refine al_ro' (ro_eq (ro_ld_ptr y70_ty28 rfl mo1_3 (up_m rfl (u2 rfl (u4 rfl (u8 rfl s4_5)))) (nle rfl)) (by simp only [pS, Value.cells, Nat.reduceAdd] <;> rfl)) ⟨_, rfl, (up_m rfl hb_15)⟩ rfl ?_
  refine al_ro' (ro_call (evL_cons (up_m rfl up_h) (evL_cons up_h evL_nil)) rfl ((lposes_ok l hr L c u (by omega)).mono (fun q h => show q = tbA true from h.trans (by rw [hq]))) y70_hcf16) ⟨_, rfl, (u2 rfl hb_15)⟩ rfl ?_
  refine al_ro' (ro_not up_h) ⟨_, rfl, (up_m rfl (u2 rfl hb_15))⟩ rfl ?_
  refine ar (ro_pickF (u4 rfl hb_15) up_h) rfl <| ar (ro_move up_h) rfl <| al_case up_h (fun hb_19 hq_19 => ?_) (fun hb_19 hq_19 => ?_)
  · cases hq_19
  replace hq_19 := bf' hq_19
  refine al_ro' (ro_ixa y70_ar85 (u4 rfl (u16 rfl s5_5)) ev_c rfl) ⟨_, rfl, hb_19⟩ rfl ?_
  refine al_ro' (ro_eq (ro_ld_ptr y70_ty3 rfl mo2_3 up_h (nle rfl)) (by simp only [pS, Value.cells, Nat.reduceAdd] <;> rfl)) ⟨_, rfl, (up_m rfl hb_19)⟩ rfl ?_
  refine al_ro' (ro_call (evL_cons up_h (evL_cons ev_c (evL_cons ev_c evL_nil))) rfl ((bWithin_ok _ _ _).mono (fun q h => show q = tbA false from h.trans (by rw [hx]))) y70_hcf30) ⟨_, rfl, (u2 rfl hb_19)⟩ rfl ?_
  refine al_ro' (ro_not up_h) ⟨_, rfl, (up_m rfl (u2 rfl hb_19))⟩ rfl ?_
  refine ar (ro_pickF (u4 rfl hb_19) up_h) rfl <| ar (ro_move up_h) rfl <| al_case up_h (fun hb_23 hq_23 => ?_) (fun hb_23 hq_23 => ?_)
  ·replace hq_23 := bt' hq_23
   refine al_skip' ⟨_, rfl, .inl hb_23⟩ rfl ?_
   refine al_skip' ⟨_, rfl, .inl (up_m rfl hb_23)⟩ rfl ?_
   refine al_skip' ⟨_, rfl, .inl (u2 rfl hb_23)⟩ rfl ?_
   refine al_skip' ⟨_, rfl, .inl (up_m rfl (u2 rfl hb_23))⟩ rfl ?_
   refine ar (ro_pickT (u4 rfl hb_23) ev_c) rfl <| ae4 (up_m rfl (u2 rfl (u4 rfl (u8 rfl (u16 rfl s3_5))))) (up_m rfl (u2 rfl (u4 rfl (u8 rfl (u16 rfl s4_5))))) (up_m rfl (u2 rfl (u4 rfl (u8 rfl (u16 rfl s5_5))))) up_h ?_; clear hb_11 hb_15 hb_19 hb_23 hb_7 s26_5 s3_5 s4_5 s5_5; intro e_24 s3_24 s4_24 s5_24 s57_24
   refine then_n <| aw_true s57_24 <| aw_seq <| at_ <| ar (ro_assign ev_c) rfl <| ae1 up_h ?_; clear s3_24 s4_24 s57_24 s5_24; intro e_26 s6_26
   refine then_n <| aw_ret <| then_r <| ret1 (.inr rfl) (by kernel_rfl) (resV_tmp s6_26) (.ro _ rfl) ?_
   clear s6_26 mo2_3 mo1_3 mo0_3 ml_3
   first | rfl | (simp_all; done)
  · cases hq_23
set_option maxRecDepth 100000 in
set_option maxHeartbeats 4000000 in
theorem lineStraight_out2 (l : Lin) (hf : fewL l = true) (hg : (linM l).2 = 0) (L c u x y : Int) (hv : vehE L c u = 0) (hq : posB l u = true) (hx : withinB x (-40000) 40000 = true) (hy : withinB y (-20) 20 = false) : FnOk Try.prog 9 [lnA l, vehA L c u, .agg [mA x, mA y]] (fun q => q = tbA true) := by
  refine fnOk_of (fn := Try.f9) 221 (by kernel_rfl) rfl (by kernel_rfl) (Nat.le_of_ble_eq_true rfl) ?_
  intro e_0 m_0 hA hm_0
  have s0_0 : evA e_0 (.tmp 0) = _ := hA 0 _ rfl
  have s1_0 : evA e_0 (.tmp 1) = _ := hA 1 _ rfl
  have s2_0 : evA e_0 (.tmp 2) = _ := hA 2 _ rfl
  have ml_0 : m_0.length = 0 := by rw [hm_0]; rfl
  clear hA hm_0
  have hl := fewL_sho hf; have hr := rgt_of hg; have hv2 := vehE_z.1 hv
  refine aw_seq <| at_ <| al_stm (st_box s0_0 rfl ml_0) trivial rfl (fun m_1 hm_1 => ?_)
  have mo0_1 := m_push hm_1 ml_0
  have ml_1 := m_push_l hm_1 ml_0
  have ml_1 : _ = 1 := ml_1
  clear hm_1
  refine al_stm (st_box (up_m rfl s1_0) rfl ml_1) trivial rfl (fun m_2 hm_2 => ?_)
  have mo1_2 := m_push hm_2 ml_1
  have mo0_2 := m_push_o hm_2 mo0_1
  have ml_2 := m_push_l hm_2 ml_1
  have ml_2 : _ = 2 := ml_2
  clear hm_2 mo0_1
  refine al_stm (st_box (u2 rfl s2_0) rfl ml_2) trivial rfl (fun m_3 hm_3 => ?_)
  have mo2_3 := m_push hm_3 ml_2
  have mo1_3 := m_push_o hm_3 mo1_2
  have mo0_3 := m_push_o hm_3 mo0_2
  have ml_3 := m_push_l hm_3 ml_2
  have ml_3 : _ = 3 := ml_3
  clear hm_3 mo1_2 mo0_2
  refine ar (ro_assign ev_c) rfl <| ae3 (up_m rfl (u2 rfl up_h)) (u2 rfl up_h) (up_m rfl up_h) ?_; clear s0_0 s1_0 s2_0; intro e_4 s3_4 s4_4 s5_4
  refine then_n <| aw_seq <| aw_seq <| at_ <| ar (ro_call evL_nil rfl (awake_ok) y70_hcf12) rfl <| ar (ro_not up_h) rfl <| ae4 (u2 rfl s3_4) (u2 rfl s4_4) (u2 rfl s5_4) up_h ?_; clear s3_4 s4_4 s5_4; intro e_5 s3_5 s4_5 s5_5 s26_5
  refine then_n <| aw_case s26_5 (fun hq_6 => ?_) (fun hq_6 => ?_)
  · cases hq_6
  replace hq_6 := bf' hq_6
  refine aw_skip <| then_n <| aw_seq <| aw_seq <| at_ <| ar (ro_eq (ro_ld_ptr y70_ty26 rfl mo0_3 s3_5 (nle rfl)) (by simp only [pS, Value.cells, Nat.reduceAdd] <;> rfl)) rfl ?_
  refine ar (ro_call (evL_cons up_h evL_nil) rfl ((fewL_ok l).mono (fun q h => show q = tbA true from h.trans (by rw [hf]))) y70_hcf13) rfl ?_
  refine ar (ro_not up_h) rfl <| ar (ro_move up_h) rfl <| al_case up_h (fun hb_7 hq_7 => ?_) (fun hb_7 hq_7 => ?_)
  · cases hq_7
  replace hq_7 := bf' hq_7
  refine al_ro' (ro_eq (ro_ld_ptr y70_ty26 rfl mo0_3 (u4 rfl s3_5) (nle rfl)) (by simp only [pS, Value.cells, Nat.reduceAdd] <;> rfl)) ⟨_, rfl, hb_7⟩ rfl ?_
  refine al_ro' (ro_call (evL_cons up_h evL_nil) rfl ((lineErr_ok l hl).mono (fun q h => show q = mA 0 from h.trans (by rw [hg]))) y70_hcf14) ⟨_, rfl, (up_m rfl hb_7)⟩ rfl ?_
  refine al_ro' (ro_neq up_h ev_c) ⟨_, rfl, (u2 rfl hb_7)⟩ rfl ?_
  refine ar (ro_pickF (up_m rfl (u2 rfl hb_7)) up_h) rfl <| ar (ro_move up_h) rfl <| al_case up_h (fun hb_11 hq_11 => ?_) (fun hb_11 hq_11 => ?_)
  · cases hq_11
  replace hq_11 := bnf hq_11
  refine al_ro' (ro_eq (ro_ld_ptr y70_ty28 rfl mo1_3 (up_m rfl (u8 rfl s4_5)) (nle rfl)) (by simp only [pS, Value.cells, Nat.reduceAdd] <;> rfl)) ⟨_, rfl, hb_11⟩ rfl ?_
  refine al_ro' (ro_call (evL_cons up_h evL_nil) rfl ((rVehicleErr_ok L c u).mono (fun q h => show q = mA 0 from h.trans (by rw [hv]))) y70_hcf15) ⟨_, rfl, (up_m rfl hb_11)⟩ rfl ?_
  refine al_ro' (ro_neq up_h ev_c) ⟨_, rfl, (u2 rfl hb_11)⟩ rfl ?_
  refine ar (ro_pickF (up_m rfl (u2 rfl hb_11)) up_h) rfl <| ar (ro_move up_h) rfl <| al_case up_h (fun hb_15 hq_15 => ?_) (fun hb_15 hq_15 => ?_)
  · cases hq_15
  replace hq_15 := bnf hq_15
  refine al_ro' (ro_eq (ro_ld_ptr y70_ty26 rfl mo0_3 (u2 rfl (u4 rfl (u8 rfl s3_5))) (nle rfl)) (by simp only [pS, Value.cells, Nat.reduceAdd] <;> rfl)) ⟨_, rfl, hb_15⟩ rfl ?_
  refine al_ro' (ro_eq (ro_ld_ptr y70_ty28 rfl mo1_3 (up_m rfl (u2 rfl (u4 rfl (u8 rfl s4_5)))) (nle rfl)) (by simp only [pS, Value.cells, Nat.reduceAdd] <;> rfl)) ⟨_, rfl, (up_m rfl hb_15)⟩ rfl ?_
  refine al_ro' (ro_call (evL_cons (up_m rfl up_h) (evL_cons up_h evL_nil)) rfl ((lposes_ok l hr L c u (by omega)).mono (fun q h => show q = tbA true from h.trans (by rw [hq]))) y70_hcf16) ⟨_, rfl, (u2 rfl hb_15)⟩ rfl ?_
  refine al_ro' (ro_not up_h) ⟨_, rfl, (up_m rfl (u2 rfl hb_15))⟩ rfl ?_
  refine ar (ro_pickF (u4 rfl hb_15) up_h) rfl <| ar (ro_move up_h) rfl <| al_case up_h (fun hb_19 hq_19 => ?_) (fun hb_19 hq_19 => ?_)
  · cases hq_19
  replace hq_19 := bf' hq_19
  refine al_ro' (ro_ixa y70_ar85 (u4 rfl (u16 rfl s5_5)) ev_c rfl) ⟨_, rfl, hb_19⟩ rfl ?_
  refine al_ro' (ro_eq (ro_ld_ptr y70_ty3 rfl mo2_3 up_h (nle rfl)) (by simp only [pS, Value.cells, Nat.reduceAdd] <;> rfl)) ⟨_, rfl, (up_m rfl hb_19)⟩ rfl ?_
  refine al_ro' (ro_call (evL_cons up_h (evL_cons ev_c (evL_cons ev_c evL_nil))) rfl ((bWithin_ok _ _ _).mono (fun q h => show q = tbA true from h.trans (by rw [hx]))) y70_hcf30) ⟨_, rfl, (u2 rfl hb_19)⟩ rfl ?_
  refine al_ro' (ro_not up_h) ⟨_, rfl, (up_m rfl (u2 rfl hb_19))⟩ rfl ?_
  refine ar (ro_pickF (u4 rfl hb_19) up_h) rfl <| ar (ro_move up_h) rfl <| al_case up_h (fun hb_23 hq_23 => ?_) (fun hb_23 hq_23 => ?_)
  · cases hq_23
  replace hq_23 := bf' hq_23
  refine al_ro' (ro_ixa y70_ar85 (u2 rfl (u8 rfl (u16 rfl s5_5))) ev_c rfl) ⟨_, rfl, hb_23⟩ rfl ?_
  refine al_ro' (ro_eq (ro_ld_ptr y70_ty3 rfl mo2_3 up_h (nle rfl)) (by simp only [pS, Value.cells, Nat.reduceAdd] <;> rfl)) ⟨_, rfl, (up_m rfl hb_23)⟩ rfl ?_
  refine al_ro' (ro_call (evL_cons up_h (evL_cons ev_c (evL_cons ev_c evL_nil))) rfl ((bWithin_ok _ _ _).mono (fun q h => show q = tbA false from h.trans (by rw [hy]))) y70_hcf30) ⟨_, rfl, (u2 rfl hb_23)⟩ rfl ?_
  refine al_ro' (ro_not up_h) ⟨_, rfl, (up_m rfl (u2 rfl hb_23))⟩ rfl ?_
  refine ar (ro_pickF (u4 rfl hb_23) up_h) rfl <| ae4 (up_m rfl (u2 rfl (u4 rfl (u8 rfl (u16 rfl s3_5))))) (up_m rfl (u2 rfl (u4 rfl (u8 rfl (u16 rfl s4_5))))) (up_m rfl (u2 rfl (u4 rfl (u8 rfl (u16 rfl s5_5))))) up_h ?_; clear hb_11 hb_15 hb_19 hb_23 hb_7 s26_5 s3_5 s4_5 s5_5; intro e_27 s3_27 s4_27 s5_27 s57_27
  refine then_n <| aw_case s57_27 (fun hq_28 => ?_) (fun hq_28 => ?_)
  ·replace hq_28 := bt' hq_28
   refine aw_seq <| at_ <| ar (ro_assign ev_c) rfl <| ae1 up_h ?_; clear s3_27 s4_27 s57_27 s5_27; intro e_29 s6_29
   refine then_n <| aw_ret <| then_r <| ret1 (.inr rfl) (by kernel_rfl) (resV_tmp s6_29) (.ro _ rfl) ?_
   clear s6_29 mo2_3 mo1_3 mo0_3 ml_3
   first | rfl | (simp_all; done)
  · cases hq_28
set_option maxRecDepth 100000 in
set_option maxHeartbeats 4000000 in
theorem lineStraight_in (l : Lin) (hf : fewL l = true) (hg : (linM l).2 = 0) (L c u x y : Int) (hv : vehE L c u = 0) (hq : posB l u = true) (hx : withinB x (-40000) 40000 = true) (hy : withinB y (-20) 20 = true) (a1 b1 d1 e1 ee : Int) (hu : unA l L (fcA l L c u) = .agg [mA a1, mA b1, mA d1, mA e1]) (hE : unE (fcA l L c u) = ee) : FnOk Try.prog 9 [lnA l, vehA L c u, .agg [mA x, mA y]] (fun q => q = tbA true) := by
  refine fnOk_of (fn := Try.f9) 221 (by kernel_rfl) rfl (by kernel_rfl) (Nat.le_of_ble_eq_true rfl) ?_
  intro e_0 m_0 hA hm_0
  have s0_0 : evA e_0 (.tmp 0) = _ := hA 0 _ rfl
  have s1_0 : evA e_0 (.tmp 1) = _ := hA 1 _ rfl
  have s2_0 : evA e_0 (.tmp 2) = _ := hA 2 _ rfl
  have ml_0 : m_0.length = 0 := by rw [hm_0]; rfl
  clear hA hm_0
  have hl := fewL_sho hf; have hr := rgt_of hg; have hv2 := vehE_z.1 hv; have hx2 := withinB_iff.1 hx; have hy2 := withinB_iff.1 hy; have hjs := hr.js; have hn1 := hr.n1; have hn0 := hr.n0; have hS := strL_rgt hr hy2; have hSg := rgt_to hS; have hSl := strL_sho hl y; have hMl := movL_sho hl x; have hb0 := hr.bea 0 (by omega); have hofl : (ofN l.js).length = l.js.length := updN_len _ _ _; have hm1 := limL_len l 5000 (l.js.length - 2); have hm2 := limL_mov hr (x := x) (sd := 5000)
  refine aw_seq <| at_ <| al_stm (st_box s0_0 rfl ml_0) trivial rfl (fun m_1 hm_1 => ?_)
  have mo0_1 := m_push hm_1 ml_0
  have ml_1 := m_push_l hm_1 ml_0
  have ml_1 : _ = 1 := ml_1
  clear hm_1
  refine al_stm (st_box (up_m rfl s1_0) rfl ml_1) trivial rfl (fun m_2 hm_2 => ?_)
  have mo1_2 := m_push hm_2 ml_1
  have mo0_2 := m_push_o hm_2 mo0_1
  have ml_2 := m_push_l hm_2 ml_1
  have ml_2 : _ = 2 := ml_2
  clear hm_2 mo0_1
  refine al_stm (st_box (u2 rfl s2_0) rfl ml_2) trivial rfl (fun m_3 hm_3 => ?_)
  have mo2_3 := m_push hm_3 ml_2
  have mo1_3 := m_push_o hm_3 mo1_2
  have mo0_3 := m_push_o hm_3 mo0_2
  have ml_3 := m_push_l hm_3 ml_2
  have ml_3 : _ = 3 := ml_3
  clear hm_3 mo1_2 mo0_2
  refine ar (ro_assign ev_c) rfl <| ae3 (up_m rfl (u2 rfl up_h)) (u2 rfl up_h) (up_m rfl up_h) ?_; clear s0_0 s1_0 s2_0; intro e_4 s3_4 s4_4 s5_4
  refine then_n <| aw_seq <| aw_seq <| at_ <| ar (ro_call evL_nil rfl (awake_ok) y70_hcf12) rfl <| ar (ro_not up_h) rfl <| ae4 (u2 rfl s3_4) (u2 rfl s4_4) (u2 rfl s5_4) up_h ?_; clear s3_4 s4_4 s5_4; intro e_5 s3_5 s4_5 s5_5 s26_5
  refine then_n <| aw_case s26_5 (fun hq_6 => ?_) (fun hq_6 => ?_)
  · cases hq_6
  replace hq_6 := bf' hq_6
  refine aw_skip <| then_n <| aw_seq <| aw_seq <| at_ <| ar (ro_eq (ro_ld_ptr y70_ty26 rfl mo0_3 s3_5 (nle rfl)) (by simp only [pS, Value.cells, Nat.reduceAdd, jnE, beE, set_jn4, set_at, set_be, List.map_cons, List.map_nil, hoA, c2A] <;> rfl)) rfl ?_
  refine ar (ro_call (evL_cons up_h evL_nil) rfl ((fewL_ok l).mono (fun q h => show q = tbA true from h.trans (by rw [hf]))) y70_hcf13) rfl ?_
  refine ar (ro_not up_h) rfl <| ar (ro_move up_h) rfl <| al_case up_h (fun hb_7 hq_7 => ?_) (fun hb_7 hq_7 => ?_)
  · cases hq_7
  replace hq_7 := bf' hq_7
  refine al_ro' (ro_eq (ro_ld_ptr y70_ty26 rfl mo0_3 (u4 rfl s3_5) (nle rfl)) (by simp only [pS, Value.cells, Nat.reduceAdd, jnE, beE, set_jn4, set_at, set_be, List.map_cons, List.map_nil, hoA, c2A] <;> rfl)) ⟨_, rfl, hb_7⟩ rfl ?_
  refine al_ro' (ro_call (evL_cons up_h evL_nil) rfl ((lineErr_ok l hl).mono (fun q h => show q = mA 0 from h.trans (by rw [hg]))) y70_hcf14) ⟨_, rfl, (up_m rfl hb_7)⟩ rfl ?_
  refine al_ro' (ro_neq up_h ev_c) ⟨_, rfl, (u2 rfl hb_7)⟩ rfl ?_
  refine ar (ro_pickF (up_m rfl (u2 rfl hb_7)) up_h) rfl <| ar (ro_move up_h) rfl <| al_case up_h (fun hb_11 hq_11 => ?_) (fun hb_11 hq_11 => ?_)
  · cases hq_11
  replace hq_11 := bnf hq_11
  refine al_ro' (ro_eq (ro_ld_ptr y70_ty28 rfl mo1_3 (up_m rfl (u8 rfl s4_5)) (nle rfl)) (by simp only [pS, Value.cells, Nat.reduceAdd, jnE, beE, set_jn4, set_at, set_be, List.map_cons, List.map_nil, hoA, c2A] <;> rfl)) ⟨_, rfl, hb_11⟩ rfl ?_
  refine al_ro' (ro_call (evL_cons up_h evL_nil) rfl ((rVehicleErr_ok L c u).mono (fun q h => show q = mA 0 from h.trans (by rw [hv]))) y70_hcf15) ⟨_, rfl, (up_m rfl hb_11)⟩ rfl ?_
  refine al_ro' (ro_neq up_h ev_c) ⟨_, rfl, (u2 rfl hb_11)⟩ rfl ?_
  refine ar (ro_pickF (up_m rfl (u2 rfl hb_11)) up_h) rfl <| ar (ro_move up_h) rfl <| al_case up_h (fun hb_15 hq_15 => ?_) (fun hb_15 hq_15 => ?_)
  · cases hq_15
  replace hq_15 := bnf hq_15
  refine al_ro' (ro_eq (ro_ld_ptr y70_ty26 rfl mo0_3 (u2 rfl (u4 rfl (u8 rfl s3_5))) (nle rfl)) (by simp only [pS, Value.cells, Nat.reduceAdd, jnE, beE, set_jn4, set_at, set_be, List.map_cons, List.map_nil, hoA, c2A] <;> rfl)) ⟨_, rfl, hb_15⟩ rfl ?_
  refine al_ro' (ro_eq (ro_ld_ptr y70_ty28 rfl mo1_3 (up_m rfl (u2 rfl (u4 rfl (u8 rfl s4_5)))) (nle rfl)) (by simp only [pS, Value.cells, Nat.reduceAdd, jnE, beE, set_jn4, set_at, set_be, List.map_cons, List.map_nil, hoA, c2A] <;> rfl)) ⟨_, rfl, (up_m rfl hb_15)⟩ rfl ?_
  refine al_ro' (ro_call (evL_cons (up_m rfl up_h) (evL_cons up_h evL_nil)) rfl ((lposes_ok l hr L c u (by omega)).mono (fun q h => show q = tbA true from h.trans (by rw [hq]))) y70_hcf16) ⟨_, rfl, (u2 rfl hb_15)⟩ rfl ?_
  refine al_ro' (ro_not up_h) ⟨_, rfl, (up_m rfl (u2 rfl hb_15))⟩ rfl ?_
  refine ar (ro_pickF (u4 rfl hb_15) up_h) rfl <| ar (ro_move up_h) rfl <| al_case up_h (fun hb_19 hq_19 => ?_) (fun hb_19 hq_19 => ?_)
  · cases hq_19
  replace hq_19 := bf' hq_19
  refine al_ro' (ro_ixa y70_ar85 (u4 rfl (u16 rfl s5_5)) ev_c rfl) ⟨_, rfl, hb_19⟩ rfl ?_
  refine al_ro' (ro_eq (ro_ld_ptr y70_ty3 rfl mo2_3 up_h (nle rfl)) (by simp only [pS, Value.cells, Nat.reduceAdd, jnE, beE, set_jn4, set_at, set_be, List.map_cons, List.map_nil, hoA, c2A] <;> rfl)) ⟨_, rfl, (up_m rfl hb_19)⟩ rfl ?_
  refine al_ro' (ro_call (evL_cons up_h (evL_cons ev_c (evL_cons ev_c evL_nil))) rfl ((bWithin_ok _ _ _).mono (fun q h => show q = tbA true from h.trans (by rw [hx]))) y70_hcf30) ⟨_, rfl, (u2 rfl hb_19)⟩ rfl ?_
  refine al_ro' (ro_not up_h) ⟨_, rfl, (up_m rfl (u2 rfl hb_19))⟩ rfl ?_
  refine ar (ro_pickF (u4 rfl hb_19) up_h) rfl <| ar (ro_move up_h) rfl <| al_case up_h (fun hb_23 hq_23 => ?_) (fun hb_23 hq_23 => ?_)
  · cases hq_23
  replace hq_23 := bf' hq_23
  refine al_ro' (ro_ixa y70_ar85 (u2 rfl (u8 rfl (u16 rfl s5_5))) ev_c rfl) ⟨_, rfl, hb_23⟩ rfl ?_
  refine al_ro' (ro_eq (ro_ld_ptr y70_ty3 rfl mo2_3 up_h (nle rfl)) (by simp only [pS, Value.cells, Nat.reduceAdd, jnE, beE, set_jn4, set_at, set_be, List.map_cons, List.map_nil, hoA, c2A] <;> rfl)) ⟨_, rfl, (up_m rfl hb_23)⟩ rfl ?_
  refine al_ro' (ro_call (evL_cons up_h (evL_cons ev_c (evL_cons ev_c evL_nil))) rfl ((bWithin_ok _ _ _).mono (fun q h => show q = tbA true from h.trans (by rw [hy]))) y70_hcf30) ⟨_, rfl, (u2 rfl hb_23)⟩ rfl ?_
  refine al_ro' (ro_not up_h) ⟨_, rfl, (up_m rfl (u2 rfl hb_23))⟩ rfl ?_
  refine ar (ro_pickF (u4 rfl hb_23) up_h) rfl <| ae4 (up_m rfl (u2 rfl (u4 rfl (u8 rfl (u16 rfl s3_5))))) (up_m rfl (u2 rfl (u4 rfl (u8 rfl (u16 rfl s4_5))))) (up_m rfl (u2 rfl (u4 rfl (u8 rfl (u16 rfl s5_5))))) up_h ?_; clear hb_11 hb_15 hb_19 hb_23 hb_7 s26_5 s3_5 s4_5 s5_5; intro e_27 s3_27 s4_27 s5_27 s57_27
  refine then_n <| aw_case s57_27 (fun hq_28 => ?_) (fun hq_28 => ?_)
  · cases hq_28
  replace hq_28 := bf' hq_28
  refine aw_skip <| then_n <| aw_seq <| aw_drawK 6 6 ml_3 (by kernel_rfl) (by kernel_rfl) (by kernel_rfl) (by kernel_rfl) (fun m_29 hm_29 => ?_)
  have mo2_29 := m_room_o hm_29 mo2_3
  have mo1_29 := m_room_o hm_29 mo1_3
  have mo0_29 := m_room_o hm_29 mo0_3
  have mo3_29 : m_29[3]? = _ := m_room_g hm_29 ml_3 0 rfl rfl
  have mo4_29 : m_29[4]? = _ := m_room_g hm_29 ml_3 1 rfl rfl
  have mo5_29 : m_29[5]? = _ := m_room_g hm_29 ml_3 2 rfl rfl
  have mo6_29 : m_29[6]? = _ := m_room_g hm_29 ml_3 3 rfl rfl
  have mo7_29 : m_29[7]? = _ := m_room_g hm_29 ml_3 4 rfl rfl
  have mo8_29 : m_29[8]? = _ := m_room_g hm_29 ml_3 5 rfl rfl
  have ml_29 : _ = 9 := m_room_l (K := 6) hm_29 ml_3
  clear hm_29 mo2_3 mo1_3 mo0_3 ml_3
  refine dh_ld (0) (fun M_ hM_ => (ro_eq (ro_ld_ptr y70_ty26 rfl (agr hM_ mo0_29 (by simp)) s3_27 (nle rfl)) (by simp only [pS, Value.cells, Nat.reduceAdd, jnE, beE, set_jn4, set_at, set_be, List.map_cons, List.map_nil, hoA, c2A] <;> rfl))) trivial trivial ?_
  refine dh_tw (3) (4) (fun M_ hM_ => (tw_callL 1 rfl (evL_cons up_h evL_nil) rfl (copyOwn_ok l hl hr.jn0) y70_hcf18)) trivial mo3_29 mo4_29 rfl rfl trivial ⟨.inl (by simp <;> omega), trivial⟩ ⟨.inl (by simp <;> omega), trivial⟩ (fun m_30 hm_30 => ?_)
  have mo3_30 := m_tw1 hm_30 mo3_29 (by decide)
  have mo4_30 := m_tw2 hm_30 mo4_29
  have mo2_30 := m_tw_o hm_30 mo2_29 (by decide) (by decide)
  have mo1_30 := m_tw_o hm_30 mo1_29 (by decide) (by decide)
  have mo0_30 := m_tw_o hm_30 mo0_29 (by decide) (by decide)
  have mo5_30 := m_tw_o hm_30 mo5_29 (by decide) (by decide)
  have mo6_30 := m_tw_o hm_30 mo6_29 (by decide) (by decide)
  have mo7_30 := m_tw_o hm_30 mo7_29 (by decide) (by decide)
  have mo8_30 := m_tw_o hm_30 mo8_29 (by decide) (by decide)
  have ml_30 := m_tw_l hm_30 ml_29
  clear hm_30 mo2_29 mo1_29 mo0_29 mo3_29 mo4_29 mo5_29 mo6_29 mo7_29 mo8_29
  refine dh_ld (0) (fun M_ hM_ => (ro_eq (ro_ld_ptr y70_ty26 rfl (agr hM_ mo0_30 (by simp)) (u2 rfl s3_27) (nle rfl)) (by simp only [pS, Value.cells, Nat.reduceAdd, jnE, beE, set_jn4, set_at, set_be, List.map_cons, List.map_nil, hoA, c2A] <;> rfl))) trivial ⟨.inl (by simp <;> omega), ⟨.inl (by simp <;> omega), trivial⟩⟩ ?_
  refine dh_tw (5) (6) (fun M_ hM_ => (tw_call2 1 2 rfl rfl (evL_cons up_h evL_nil) rfl (copyTwo_ok l hl hr.ful) y70_hcf18)) trivial mo5_30 mo6_30 rfl rfl ⟨.inl (by simp <;> omega), ⟨.inl (by simp <;> omega), trivial⟩⟩ ⟨.inl (by simp <;> omega), ⟨.inl (by simp <;> omega), ⟨.inl (by simp <;> omega), trivial⟩⟩⟩ ⟨.inl (by simp <;> omega), ⟨.inl (by simp <;> omega), ⟨.inl (by simp <;> omega), trivial⟩⟩⟩ (fun m_31 hm_31 => ?_)
  have mo5_31 := m_tw1 hm_31 mo5_30 (by decide)
  have mo6_31 := m_tw2 hm_31 mo6_30
  have mo3_31 := m_tw_o hm_31 mo3_30 (by decide) (by decide)
  have mo2_31 := m_tw_o hm_31 mo2_30 (by decide) (by decide)
  have mo1_31 := m_tw_o hm_31 mo1_30 (by decide) (by decide)
  have mo0_31 := m_tw_o hm_31 mo0_30 (by decide) (by decide)
  have mo7_31 := m_tw_o hm_31 mo7_30 (by decide) (by decide)
  have mo8_31 := m_tw_o hm_31 mo8_30 (by decide) (by decide)
  have ml_31 := m_tw_l hm_31 ml_30
  clear hm_31 mo3_30 mo2_30 mo1_30 mo0_30 mo5_30 mo6_30 mo7_30 mo8_30
  refine dh_nw (7) (fun M_ hM_ => (nw_alloc y70_az26 rfl)) trivial mo7_31 rfl ⟨.inl (by simp <;> omega), ⟨.inl (by simp <;> omega), ⟨.inl (by simp <;> omega), ⟨.inl (by simp <;> omega), trivial⟩⟩⟩⟩ ⟨.inl (by simp <;> omega), ⟨.inl (by simp <;> omega), ⟨.inl (by simp <;> omega), ⟨.inl (by simp <;> omega), trivial⟩⟩⟩⟩ (fun m_32 hm_32 => ?_)
  have mo7_32 := m_set hm_32 mo7_31
  simp only [pS, Value.cells, Nat.reduceAdd, jnE, beE, set_jn4, set_at, set_be, List.map_cons, List.map_nil, hoA, c2A] at mo7_32
  have mo5_32 := m_set_o hm_32 mo5_31 (by decide)
  have mo6_32 := m_set_o hm_32 mo6_31 (by decide)
  have mo3_32 := m_set_o hm_32 mo3_31 (by decide)
  have mo2_32 := m_set_o hm_32 mo2_31 (by decide)
  have mo1_32 := m_set_o hm_32 mo1_31 (by decide)
  have mo0_32 := m_set_o hm_32 mo0_31 (by decide)
  have mo8_32 := m_set_o hm_32 mo8_31 (by decide)
  have ml_32 := m_set_l hm_32 ml_31
  clear hm_32 mo5_31 mo6_31 mo3_31 mo2_31 mo1_31 mo0_31 mo7_31 mo8_31
  refine dh_nw (8) (fun M_ hM_ => (nw_alloc y70_az26 rfl)) trivial mo8_32 rfl ⟨.inl (by simp <;> omega), ⟨.inl (by simp <;> omega), ⟨.inl (by simp <;> omega), ⟨.inl (by simp <;> omega), ⟨.inl (by simp <;> omega), trivial⟩⟩⟩⟩⟩ ⟨.inl (by simp <;> omega), ⟨.inl (by simp <;> omega), ⟨.inl (by simp <;> omega), ⟨.inl (by simp <;> omega), ⟨.inl (by simp <;> omega), trivial⟩⟩⟩⟩⟩ (fun m_33 hm_33 => ?_)
  have mo8_33 := m_set hm_33 mo8_32
  simp only [pS, Value.cells, Nat.reduceAdd, jnE, beE, set_jn4, set_at, set_be, List.map_cons, List.map_nil, hoA, c2A] at mo8_33
  have mo7_33 := m_set_o hm_33 mo7_32 (by decide)
  have mo5_33 := m_set_o hm_33 mo5_32 (by decide)
  have mo6_33 := m_set_o hm_33 mo6_32 (by decide)
  have mo3_33 := m_set_o hm_33 mo3_32 (by decide)
  have mo2_33 := m_set_o hm_33 mo2_32 (by decide)
  have mo1_33 := m_set_o hm_33 mo1_32 (by decide)
  have mo0_33 := m_set_o hm_33 mo0_32 (by decide)
  have ml_33 := m_set_l hm_33 ml_32
  clear hm_33 mo7_32 mo5_32 mo6_32 mo3_32 mo2_32 mo1_32 mo0_32 mo8_32
  refine dh_nil rfl ?_
  refine al_stm (st_storeO (up_m rfl up_h) (u4 rfl up_h) rfl (oneL_c rfl (oneL_o mo3_33 (oneL_c rfl (oneL_c rfl oneL_nil)))) mo7_33 y70_sz26 rfl (nle rfl)) trivial rfl (fun m_34 hm_34 => ?_)
  have mo7_34 := m_set hm_34 mo7_33
  simp only [pS, Value.cells, Nat.reduceAdd, jnE, beE, set_jn4, set_at, set_be, List.map_cons, List.map_nil, hoA, c2A] at mo7_34
  have mo8_34 := m_set_o hm_34 mo8_33 (by decide)
  have mo5_34 := m_set_o hm_34 mo5_33 (by decide)
  have mo6_34 := m_set_o hm_34 mo6_33 (by decide)
  have mo3_34 := m_set_o hm_34 mo3_33 (by decide)
  have mo2_34 := m_set_o hm_34 mo2_33 (by decide)
  have mo1_34 := m_set_o hm_34 mo1_33 (by decide)
  have mo0_34 := m_set_o hm_34 mo0_33 (by decide)
  have ml_34 := m_set_l hm_34 ml_33
  clear hm_34 mo8_33 mo7_33 mo5_33 mo6_33 mo3_33 mo2_33 mo1_33 mo0_33
  refine al_stm (st_storeO (up_n up_h) (up_n (u2 rfl up_h)) rfl (oneL_c rfl (oneL_o mo5_34 (oneL_o mo6_34 (oneL_c rfl oneL_nil)))) mo8_34 y70_sz26 rfl (nle rfl)) trivial rfl (fun m_35 hm_35 => ?_)
  have mo8_35 := m_set hm_35 mo8_34
  simp only [pS, Value.cells, Nat.reduceAdd, jnE, beE, set_jn4, set_at, set_be, List.map_cons, List.map_nil, hoA, c2A] at mo8_35
  have mo7_35 := m_set_o hm_35 mo7_34 (by decide)
  have mo5_35 := m_set_o hm_35 mo5_34 (by decide)
  have mo6_35 := m_set_o hm_35 mo6_34 (by decide)
  have mo3_35 := m_set_o hm_35 mo3_34 (by decide)
  have mo2_35 := m_set_o hm_35 mo2_34 (by decide)
  have mo1_35 := m_set_o hm_35 mo1_34 (by decide)
  have mo0_35 := m_set_o hm_35 mo0_34 (by decide)
  have ml_35 := m_set_l hm_35 ml_34
  clear hm_35 mo7_34 mo8_34 mo5_34 mo6_34 mo3_34 mo2_34 mo1_34 mo0_34
  refine ae5 (up_n (up_n (u2 rfl (u4 rfl s3_27)))) (up_n (up_n (u2 rfl (u4 rfl s4_27)))) (up_n (up_n (u2 rfl (u4 rfl s5_27)))) (up_n (up_n (up_m rfl up_h))) (up_n (up_n up_h)) ?_; clear s3_27 s4_27 s57_27 s5_27; intro e_36 s3_36 s4_36 s5_36 s7_36 s8_36
  refine then_n <| aw_seq <| at_ <| ar (ro_fld_ptr y70_fl26_3 rfl s7_36) rfl <| al_stm (st_store up_h ev_c rfl rfl mo7_35 y70_sz24 rfl (nle rfl)) trivial rfl (fun m_37 hm_37 => ?_)
  have mo7_37 := m_set hm_37 mo7_35
  simp only [pS, Value.cells, Nat.reduceAdd, jnE, beE, set_jn4, set_at, set_be, List.map_cons, List.map_nil, hoA, c2A] at mo7_37
  have mo8_37 := m_set_o hm_37 mo8_35 (by decide)
  have mo5_37 := m_set_o hm_37 mo5_35 (by decide)
  have mo6_37 := m_set_o hm_37 mo6_35 (by decide)
  have mo3_37 := m_set_o hm_37 mo3_35 (by decide)
  have mo2_37 := m_set_o hm_37 mo2_35 (by decide)
  have mo1_37 := m_set_o hm_37 mo1_35 (by decide)
  have mo0_37 := m_set_o hm_37 mo0_35 (by decide)
  have ml_37 := m_set_l hm_37 ml_35
  clear hm_37 mo8_35 mo7_35 mo5_35 mo6_35 mo3_35 mo2_35 mo1_35 mo0_35
  refine ar (ro_fld_ptr y70_fl26_3 rfl (up_n (up_m rfl s8_36))) rfl <| al_stm (st_store up_h ev_c rfl rfl mo8_37 y70_sz24 rfl (nle rfl)) trivial rfl (fun m_38 hm_38 => ?_)
  have mo8_38 := m_set hm_38 mo8_37
  simp only [pS, Value.cells, Nat.reduceAdd, jnE, beE, set_jn4, set_at, set_be, List.map_cons, List.map_nil, hoA, c2A] at mo8_38
  have mo7_38 := m_set_o hm_38 mo7_37 (by decide)
  have mo5_38 := m_set_o hm_38 mo5_37 (by decide)
  have mo6_38 := m_set_o hm_38 mo6_37 (by decide)
  have mo3_38 := m_set_o hm_38 mo3_37 (by decide)
  have mo2_38 := m_set_o hm_38 mo2_37 (by decide)
  have mo1_38 := m_set_o hm_38 mo1_37 (by decide)
  have mo0_38 := m_set_o hm_38 mo0_37 (by decide)
  have ml_38 := m_set_l hm_38 ml_37
  clear hm_38 mo7_37 mo8_37 mo5_37 mo6_37 mo3_37 mo2_37 mo1_37 mo0_37
  refine ae5 (up_n (up_m rfl (up_n (up_m rfl s3_36)))) (up_n (up_m rfl (up_n (up_m rfl s4_36)))) (up_n (up_m rfl (up_n (up_m rfl s5_36)))) (up_n (up_m rfl (up_n (up_m rfl s7_36)))) (up_n (up_m rfl (up_n (up_m rfl s8_36)))) ?_; clear s3_36 s4_36 s5_36 s7_36 s8_36; intro e_39 s3_39 s4_39 s5_39 s7_39 s8_39
  refine then_n <| aw_seq <| at_ <| ar (ro_assign ev_c) rfl <| ae6 (up_m rfl s3_39) (up_m rfl s4_39) (up_m rfl s5_39) (up_m rfl s7_39) (up_m rfl s8_39) up_h ?_; clear s3_39 s4_39 s5_39 s7_39 s8_39; intro e_40 s3_40 s4_40 s5_40 s7_40 s8_40 s9_40
  refine then_n <| aw_seq <| aw_seq <| at_ <| ar (ro_assign ev_c) rfl <| ae7 (up_m rfl s3_40) (up_m rfl s4_40) (up_m rfl s5_40) (up_m rfl s7_40) (up_m rfl s8_40) (up_m rfl s9_40) up_h ?_; clear s3_40 s4_40 s5_40 s7_40 s8_40 s9_40; intro e_41 s3_41 s4_41 s5_41 s7_41 s8_41 s9_41 s10_41
  refine then_n <| aw_block <| aw_loop (S := (Int × Bool × List Jnt × List Jnt)) (fun s e mem => match s with | ⟨i, r, xs, ys⟩ => (evA e (.tmp 10) = .v (.int .i64 i)) ∧ (evA e (.tmp 9) = .v (.bool r)) ∧ (evA e (.tmp 3) = evA e_41 (.tmp 3)) ∧ (evA e (.tmp 4) = evA e_41 (.tmp 4)) ∧ (evA e (.tmp 5) = evA e_41 (.tmp 5)) ∧ (evA e (.tmp 7) = evA e_41 (.tmp 7)) ∧ (evA e (.tmp 8) = evA e_41 (.tmp 8)) ∧ (mem[3]? = some (.row 70 4 (xs.map jnE))) ∧ (mem[5]? = some (.row 70 4 (ys.map jnE))) ∧ (mem[8]? = m_38[8]?) ∧ (mem[7]? = m_38[7]?) ∧ (mem[6]? = m_38[6]?) ∧ (mem[2]? = m_38[2]?) ∧ (mem[1]? = m_38[1]?) ∧ (mem[0]? = m_38[0]?) ∧ (mem.length = 9) ∧ ((0 ≤ i ∧ i ≤ l.js.length ∧ xs = updN (movF x) l.js i.toNat ∧ ys = updN ofF l.js i.toNat ∧ (r = true → ∀ j : Nat, j < i.toNat → -20000 ≤ (l.js.getD j default).acr + x ∧ (l.js.getD j default).acr + x ≤ 20000)))) (fun s => match s with | ⟨i, r, xs, ys⟩ => (l.js.length - i).toNat) ⟨_, _, l.js, l.js⟩ ⟨s10_41, s9_41, rfl, rfl, rfl, rfl, rfl, mo3_38, mo5_38, rfl, rfl, rfl, rfl, rfl, rfl, ml_38, ?_⟩ ?_
  · (exact ⟨by omega, by omega, rfl, rfl, fun _ j hj => absurd hj (by simp)⟩)
  · rintro ⟨i, r, xs, ys⟩ e_42 m_42 ⟨s10_42, s9_42, k3_42, k4_42, k5_42, k7_42, k8_42, mo3_42, mo5_42, mk8_42, mk7_42, mk6_42, mk2_42, mk1_42, mk0_42, ml_42, hinv⟩
    have s3_42 := k3_42.trans s3_41
    have s4_42 := k4_42.trans s4_41
    have s5_42 := k5_42.trans s5_41
    have s7_42 := k7_42.trans s7_41
    have s8_42 := k8_42.trans s8_41
    have mo8_42 := mk8_42.trans mo8_38
    have mo7_42 := mk7_42.trans mo7_38
    have mo6_42 := mk6_42.trans mo6_38
    have mo2_42 := mk2_42.trans mo2_38
    have mo1_42 := mk1_42.trans mo1_38
    have mo0_42 := mk0_42.trans mo0_38
    (obtain ⟨p1, p2, p3, p4, p5⟩ := hinv; have hxl : xs.length = l.js.length := (by rw [p3, updN_len]); have hyl : ys.length = l.js.length := (by rw [p4, updN_len]); have hgx : xs.getD i.toNat default = l.js.getD i.toNat default := (by rw [p3]; exact updN_ge _ _ (Nat.le_refl _)); have hgy : ys.getD i.toNat default = l.js.getD i.toNat default := (by rw [p4]; exact updN_ge _ _ (Nat.le_refl _)))
    refine aw_seq <| aw_seq <| at_ <| ar (ro_move s10_42) rfl <| ar (ro_fld_ptr y70_fl26_1 rfl (up_m rfl s3_42)) rfl <| ar (ro_eq (ro_ld_ptr y70_ty22 rfl mo0_42 up_h (nle rfl)) (by simp only [pS, Value.cells, Nat.reduceAdd, jnE, beE, set_jn4, set_at, set_be, List.map_cons, List.map_nil, hoA, c2A] <;> rfl)) rfl ?_
    refine ar (ro_eq (ro_len_row up_h rfl y70_sl22.1) (by simp only [lnS] <;> rfl)) rfl ?_
    refine ar (ro_lss (up_m rfl (u2 rfl up_h)) up_h) rfl <| ae8 (up_m rfl (u4 rfl s3_42)) (up_m rfl (u4 rfl s4_42)) (up_m rfl (u4 rfl s5_42)) (up_m rfl (u4 rfl s7_42)) (up_m rfl (u4 rfl s8_42)) (up_m rfl (u4 rfl s9_42)) (up_m rfl (u4 rfl s10_42)) up_h ?_; clear s10_42 s3_42 s4_42 s5_42 s7_42 s8_42 s9_42; intro e_43 s3_43 s4_43 s5_43 s7_43 s8_43 s9_43 s10_43 s68_43
    refine then_n <| aw_case s68_43 (fun hq_44 => ?_) (fun hq_44 => ?_)
    ·replace hq_44 := bt hq_44
     (have hj := hr.jnt i.toNat (by omega))
     refine aw_skip <| then_n <| aw_seq <| aw_block <| aw_seq <| aw_draw 14 (by kernel_rfl) (by kernel_rfl) (by kernel_rfl) (by kernel_rfl) ?_
     refine dr (ro_fld_ptr y70_fl26_1 rfl s7_43) rfl <| dr (ro_eq (ro_ld_ptr y70_ty22 rfl mo7_42 up_h (nle rfl)) (by simp only [pS, Value.cells, Nat.reduceAdd, jnE, beE, set_jn4, set_at, set_be, List.map_cons, List.map_nil, hoA, c2A] <;> rfl)) rfl ?_
     refine dr (ro_move (u2 rfl s10_43)) rfl <| dr (ro_fld_ptr y70_fl26_1 rfl (up_m rfl (u2 rfl s3_43))) rfl <| dr (ro_eq (ro_ld_ptr y70_ty22 rfl mo0_42 up_h (nle rfl)) (by simp only [pS, Value.cells, Nat.reduceAdd, jnE, beE, set_jn4, set_at, set_be, List.map_cons, List.map_nil, hoA, c2A] <;> rfl)) rfl ?_
     refine dr (ro_move (up_m rfl (u4 rfl s10_43))) rfl <| dr (ro_eq (ro_ix y70_sl22 (up_m rfl up_h) up_h (by omega) (by first | (refine idx_map ?_; first | omega | (simp only [lnS]; omega)) | (refine idx_mapI ?_; first | omega | (simp only [lnS]; omega)) | (refine idx_mapN ?_; first | omega | (simp only [lnS]; omega)) | rfl)) (by simp only [pS, Value.cells, Nat.reduceAdd, jnE, beE, set_jn4, set_at, set_be, List.map_cons, List.map_nil, hoA, c2A] <;> rfl)) rfl ?_
     refine dr (ro_eq (ro_fld_ref y70_fl70_0 rfl up_h) (by simp only [pS, Value.cells, Nat.reduceAdd, jnE, beE, set_jn4, set_at, set_be, List.map_cons, List.map_nil, hoA, c2A] <;> rfl)) rfl ?_
     refine dr (ro_eq (ro_ld_ref y70_ty3 rfl up_h (nle rfl)) (by simp only [pS, Value.cells, Nat.reduceAdd, jnE, beE, set_jn4, set_at, set_be, List.map_cons, List.map_nil, hoA, c2A] <;> rfl)) rfl ?_
     refine dr (ro_ixa y70_ar85 (up_m rfl (u8 rfl s5_43)) ev_c rfl) rfl <| dr (ro_eq (ro_ld_ptr y70_ty3 rfl mo2_42 up_h (nle rfl)) (by simp only [pS, Value.cells, Nat.reduceAdd, jnE, beE, set_jn4, set_at, set_be, List.map_cons, List.map_nil, hoA, c2A] <;> rfl)) rfl ?_
     (refine dr (ro_add' (u2 rfl up_h) up_h ?_) rfl ?_; · (unfold In64; omega))
     refine dr (ro_ix_own y70_sl22 mo3_42 (u2 rfl (u8 rfl up_h)) (up_m rfl (u8 rfl up_h)) (by omega) (by simp only [lnS] <;> omega)) rfl ?_
     refine dr (ro_fld_ptr y70_fl70_0 rfl up_h) rfl <| ds_nil <| al_stm (st_store_el up_h (u2 rfl up_h) rfl rfl rfl mo3_42 (Nat.add_zero _).symm (by first | (refine idx_map ?_; first | omega | (simp only [lnS]; omega)) | (refine idx_mapI ?_; first | omega | (simp only [lnS]; omega)) | (refine idx_mapN ?_; first | omega | (simp only [lnS]; omega)) | rfl) y70_sz3 rfl (nle rfl)) trivial rfl (fun m_45 hm_45 => ?_)
     have mo3_45 := m_set hm_45 mo3_42
     simp only [pS, Value.cells, Nat.reduceAdd, jnE, beE, set_jn4, set_at, set_be, List.map_cons, List.map_nil, hoA, c2A] at mo3_45
     have mo5_45 := m_set_o hm_45 mo5_42 (by decide)
     have mo8_45 := m_set_o hm_45 mo8_42 (by decide)
     have mo7_45 := m_set_o hm_45 mo7_42 (by decide)
     have mo6_45 := m_set_o hm_45 mo6_42 (by decide)
     have mo2_45 := m_set_o hm_45 mo2_42 (by decide)
     have mo1_45 := m_set_o hm_45 mo1_42 (by decide)
     have mo0_45 := m_set_o hm_45 mo0_42 (by decide)
     have ml_45 := m_set_l hm_45 ml_42
     clear hm_45 mo3_42 mo5_42 mo8_42 mo7_42 mo6_42 mo2_42 mo1_42 mo0_42
     refine ae7 (up_n (u2 rfl (u4 rfl (u8 rfl s3_43)))) (up_n (u2 rfl (u4 rfl (u8 rfl s4_43)))) (up_n (u2 rfl (u4 rfl (u8 rfl s5_43)))) (up_n (u2 rfl (u4 rfl (u8 rfl s7_43)))) (up_n (u2 rfl (u4 rfl (u8 rfl s8_43)))) (up_n (u2 rfl (u4 rfl (u8 rfl s9_43)))) (up_n (u2 rfl (u4 rfl (u8 rfl s10_43)))) ?_; clear s10_43 s3_43 s4_43 s5_43 s68_43 s7_43 s8_43 s9_43; intro e_46 s3_46 s4_46 s5_46 s7_46 s8_46 s9_46 s10_46
     refine then_n <| aw_seq <| at_ <| ar (ro_move s9_46) rfl <| ar (ro_move up_h) rfl <| al_case up_h (fun hb_47 hq_47 => ?_) (fun hb_47 hq_47 => ?_)
     ·skip
      refine al_ro' (ro_fld_ptr y70_fl26_1 rfl (u2 rfl s7_46)) ⟨_, rfl, hb_47⟩ rfl ?_
      refine al_ro' (ro_eq (ro_ld_ptr y70_ty22 rfl mo7_45 up_h (nle rfl)) (by simp only [pS, Value.cells, Nat.reduceAdd, jnE, beE, set_jn4, set_at, set_be, List.map_cons, List.map_nil, hoA, c2A] <;> rfl)) ⟨_, rfl, (up_m rfl hb_47)⟩ rfl ?_
      refine al_ro' (ro_move (u4 rfl s10_46)) ⟨_, rfl, (u2 rfl hb_47)⟩ rfl ?_
      refine al_ro' (ro_ix_own y70_sl22 mo3_45 (up_m rfl up_h) up_h (by omega) (by simp only [lnS] <;> omega)) ⟨_, rfl, (up_m rfl (u2 rfl hb_47))⟩ rfl ?_
      refine al_ro' (ro_fld_ptr y70_fl70_0 rfl up_h) ⟨_, rfl, (u4 rfl hb_47)⟩ rfl ?_
      refine al_ro' (ro_eq (ro_ld_el y70_ty3 rfl mo3_45 up_h (nle rfl) (by refine idx_mapI ?_; first | omega | (simp only [lnS]; omega))) (by simp only [pS, Value.cells, Nat.reduceAdd, jnE, beE, set_jn4, set_at, set_be, List.map_cons, List.map_nil, hoA, c2A] <;> rfl)) ⟨_, rfl, (up_m rfl (u4 rfl hb_47))⟩ rfl ?_
      refine al_ro' (ro_call (evL_cons up_h (evL_cons ev_c (evL_cons ev_c evL_nil))) rfl (bWithin_ok _ _ _) y70_hcf30) ⟨_, rfl, (u2 rfl (u4 rfl hb_47))⟩ rfl ?_
      refine ar (ro_pickT (up_m rfl (u2 rfl (u4 rfl hb_47))) up_h) rfl <| ar (ro_assign up_h) rfl <| ae7 (up_m rfl (u2 rfl (u8 rfl s3_46))) (up_m rfl (u2 rfl (u8 rfl s4_46))) (up_m rfl (u2 rfl (u8 rfl s5_46))) (up_m rfl (u2 rfl (u8 rfl s7_46))) (up_m rfl (u2 rfl (u8 rfl s8_46))) up_h (up_m rfl (u2 rfl (u8 rfl s10_46))) ?_; clear hb_47 s10_46 s3_46 s4_46 s5_46 s7_46 s8_46 s9_46; intro e_48 s3_48 s4_48 s5_48 s7_48 s8_48 s9_48 s10_48
      refine then_n <| at_ <| ar (ro_fld_ptr y70_fl26_1 rfl s8_48) rfl <| ar (ro_eq (ro_ld_ptr y70_ty22 rfl mo8_45 up_h (nle rfl)) (by simp only [pS, Value.cells, Nat.reduceAdd, jnE, beE, set_jn4, set_at, set_be, List.map_cons, List.map_nil, hoA, c2A] <;> rfl)) rfl ?_
      refine ar (ro_move (u2 rfl s10_48)) rfl <| ar (ro_build evP_nil y70_bz39 y70_bu39 y70_bp39 rfl) rfl ?_
      refine ar (ro_ix_own y70_sl22 mo5_45 (u2 rfl up_h) (up_m rfl up_h) (by omega) (by simp only [lnS] <;> omega)) rfl ?_
      refine ar (ro_fld_el (o := 0) y70_fl70_2 rfl up_h) rfl <| al_stm (st_store_el up_h (u2 rfl up_h) rfl rfl rfl mo5_45 rfl (by first | (refine idx_map ?_; first | omega | (simp only [lnS]; omega)) | (refine idx_mapI ?_; first | omega | (simp only [lnS]; omega)) | (refine idx_mapN ?_; first | omega | (simp only [lnS]; omega)) | rfl) y70_sz39 rfl (nle rfl)) trivial rfl (fun m_49 hm_49 => ?_)
      have mo5_49 := m_set hm_49 mo5_45
      simp only [pS, Value.cells, Nat.reduceAdd, jnE, beE, set_jn4, set_at, set_be, List.map_cons, List.map_nil, hoA, c2A] at mo5_49
      have mo3_49 := m_set_o hm_49 mo3_45 (by decide)
      have mo8_49 := m_set_o hm_49 mo8_45 (by decide)
      have mo7_49 := m_set_o hm_49 mo7_45 (by decide)
      have mo6_49 := m_set_o hm_49 mo6_45 (by decide)
      have mo2_49 := m_set_o hm_49 mo2_45 (by decide)
      have mo1_49 := m_set_o hm_49 mo1_45 (by decide)
      have mo0_49 := m_set_o hm_49 mo0_45 (by decide)
      have ml_49 := m_set_l hm_49 ml_45
      clear hm_49 mo3_45 mo5_45 mo8_45 mo7_45 mo6_45 mo2_45 mo1_45 mo0_45
      refine ae7 (up_n (u2 rfl (u4 rfl s3_48))) (up_n (u2 rfl (u4 rfl s4_48))) (up_n (u2 rfl (u4 rfl s5_48))) (up_n (u2 rfl (u4 rfl s7_48))) (up_n (u2 rfl (u4 rfl s8_48))) (up_n (u2 rfl (u4 rfl s9_48))) (up_n (u2 rfl (u4 rfl s10_48))) ?_; clear s10_48 s3_48 s4_48 s5_48 s7_48 s8_48 s9_48; intro e_50 s3_50 s4_50 s5_50 s7_50 s8_50 s9_50 s10_50
      refine block_n <| then_n <| at_ <| ar (ro_move s10_50) rfl ?_
      (refine ar (ro_add' up_h ev_c ?_) rfl ?_; · (unfold In64; omega))
      refine ar (ro_assign up_h) rfl <| ae7 (up_m rfl (u2 rfl s3_50)) (up_m rfl (u2 rfl s4_50)) (up_m rfl (u2 rfl s5_50)) (up_m rfl (u2 rfl s7_50)) (up_m rfl (u2 rfl s8_50)) (up_m rfl (u2 rfl s9_50)) up_h ?_; clear s10_50 s3_50 s4_50 s5_50 s7_50 s8_50 s9_50; intro e_51 s3_51 s4_51 s5_51 s7_51 s8_51 s9_51 s10_51
      refine then_n <| ⟨⟨_, _, _, _⟩, ⟨s10_51, s9_51, (s3_51.trans s3_41.symm), (s4_51.trans s4_41.symm), (s5_51.trans s5_41.symm), (s7_51.trans s7_41.symm), (s8_51.trans s8_41.symm), mo3_49, mo5_49, (mo8_49.trans mo8_38.symm), (mo7_49.trans mo7_38.symm), (mo6_49.trans mo6_38.symm), (mo2_49.trans mo2_38.symm), (mo1_49.trans mo1_38.symm), (mo0_49.trans mo0_38.symm), ml_49, ?_⟩, ?_⟩
      · (refine ⟨by omega, by omega, ?_, ?_, ?_⟩; (rw [show (i + 1).toNat = i.toNat + 1 by omega]; simp only [updN]; rw [← p3, ← hgx]; rfl); (rw [show (i + 1).toNat = i.toNat + 1 by omega]; simp only [updN]; rw [← p4]; rfl); first | (intro hw; cases hw; done) | (intro hw j hj; by_cases hji : j < i.toNat; (exact p5 (by assumption) j hji); (obtain rfl : j = i.toNat := (by omega); rw [getD_set_s (by omega)] at hw; exact withinB_iff.1 hw)))
      · ((try dsimp only); omega)
     refine al_skip' ⟨_, rfl, .inl hb_47⟩ rfl ?_
     refine al_skip' ⟨_, rfl, .inl (up_m rfl hb_47)⟩ rfl ?_
     refine al_skip' ⟨_, rfl, .inl (u2 rfl hb_47)⟩ rfl ?_
     refine al_skip' ⟨_, rfl, .inl (up_m rfl (u2 rfl hb_47))⟩ rfl ?_
     refine al_skip' ⟨_, rfl, .inl (u4 rfl hb_47)⟩ rfl ?_
     refine al_skip' ⟨_, rfl, .inl (up_m rfl (u4 rfl hb_47))⟩ rfl ?_
     refine al_skip' ⟨_, rfl, .inl (u2 rfl (u4 rfl hb_47))⟩ rfl ?_
     refine ar (ro_pickF (up_m rfl (u2 rfl (u4 rfl hb_47))) ev_c) rfl <| ar (ro_assign up_h) rfl <| ae7 (up_m rfl (u2 rfl (u8 rfl s3_46))) (up_m rfl (u2 rfl (u8 rfl s4_46))) (up_m rfl (u2 rfl (u8 rfl s5_46))) (up_m rfl (u2 rfl (u8 rfl s7_46))) (up_m rfl (u2 rfl (u8 rfl s8_46))) up_h (up_m rfl (u2 rfl (u8 rfl s10_46))) ?_; clear hb_47 s10_46 s3_46 s4_46 s5_46 s7_46 s8_46 s9_46; intro e_52 s3_52 s4_52 s5_52 s7_52 s8_52 s9_52 s10_52
     refine then_n <| at_ <| ar (ro_fld_ptr y70_fl26_1 rfl s8_52) rfl <| ar (ro_eq (ro_ld_ptr y70_ty22 rfl mo8_45 up_h (nle rfl)) (by simp only [pS, Value.cells, Nat.reduceAdd, jnE, beE, set_jn4, set_at, set_be, List.map_cons, List.map_nil, hoA, c2A] <;> rfl)) rfl ?_
     refine ar (ro_move (u2 rfl s10_52)) rfl <| ar (ro_build evP_nil y70_bz39 y70_bu39 y70_bp39 rfl) rfl ?_
     refine ar (ro_ix_own y70_sl22 mo5_45 (u2 rfl up_h) (up_m rfl up_h) (by omega) (by simp only [lnS] <;> omega)) rfl ?_
     refine ar (ro_fld_el (o := 0) y70_fl70_2 rfl up_h) rfl <| al_stm (st_store_el up_h (u2 rfl up_h) rfl rfl rfl mo5_45 rfl (by first | (refine idx_map ?_; first | omega | (simp only [lnS]; omega)) | (refine idx_mapI ?_; first | omega | (simp only [lnS]; omega)) | (refine idx_mapN ?_; first | omega | (simp only [lnS]; omega)) | rfl) y70_sz39 rfl (nle rfl)) trivial rfl (fun m_53 hm_53 => ?_)
     have mo5_53 := m_set hm_53 mo5_45
     simp only [pS, Value.cells, Nat.reduceAdd, jnE, beE, set_jn4, set_at, set_be, List.map_cons, List.map_nil, hoA, c2A] at mo5_53
     have mo3_53 := m_set_o hm_53 mo3_45 (by decide)
     have mo8_53 := m_set_o hm_53 mo8_45 (by decide)
     have mo7_53 := m_set_o hm_53 mo7_45 (by decide)
     have mo6_53 := m_set_o hm_53 mo6_45 (by decide)
     have mo2_53 := m_set_o hm_53 mo2_45 (by decide)
     have mo1_53 := m_set_o hm_53 mo1_45 (by decide)
     have mo0_53 := m_set_o hm_53 mo0_45 (by decide)
     have ml_53 := m_set_l hm_53 ml_45
     clear hm_53 mo3_45 mo5_45 mo8_45 mo7_45 mo6_45 mo2_45 mo1_45 mo0_45
     refine ae7 (up_n (u2 rfl (u4 rfl s3_52))) (up_n (u2 rfl (u4 rfl s4_52))) (up_n (u2 rfl (u4 rfl s5_52))) (up_n (u2 rfl (u4 rfl s7_52))) (up_n (u2 rfl (u4 rfl s8_52))) (up_n (u2 rfl (u4 rfl s9_52))) (up_n (u2 rfl (u4 rfl s10_52))) ?_; clear s10_52 s3_52 s4_52 s5_52 s7_52 s8_52 s9_52; intro e_54 s3_54 s4_54 s5_54 s7_54 s8_54 s9_54 s10_54
     refine block_n <| then_n <| at_ <| ar (ro_move s10_54) rfl ?_
     (refine ar (ro_add' up_h ev_c ?_) rfl ?_; · (unfold In64; omega))
     refine ar (ro_assign up_h) rfl <| ae7 (up_m rfl (u2 rfl s3_54)) (up_m rfl (u2 rfl s4_54)) (up_m rfl (u2 rfl s5_54)) (up_m rfl (u2 rfl s7_54)) (up_m rfl (u2 rfl s8_54)) (up_m rfl (u2 rfl s9_54)) up_h ?_; clear s10_54 s3_54 s4_54 s5_54 s7_54 s8_54 s9_54; intro e_55 s3_55 s4_55 s5_55 s7_55 s8_55 s9_55 s10_55
     refine then_n <| ⟨⟨_, _, _, _⟩, ⟨s10_55, s9_55, (s3_55.trans s3_41.symm), (s4_55.trans s4_41.symm), (s5_55.trans s5_41.symm), (s7_55.trans s7_41.symm), (s8_55.trans s8_41.symm), mo3_53, mo5_53, (mo8_53.trans mo8_38.symm), (mo7_53.trans mo7_38.symm), (mo6_53.trans mo6_38.symm), (mo2_53.trans mo2_38.symm), (mo1_53.trans mo1_38.symm), (mo0_53.trans mo0_38.symm), ml_53, ?_⟩, ?_⟩
     · (refine ⟨by omega, by omega, ?_, ?_, ?_⟩; (rw [show (i + 1).toNat = i.toNat + 1 by omega]; simp only [updN]; rw [← p3, ← hgx]; rfl); (rw [show (i + 1).toNat = i.toNat + 1 by omega]; simp only [updN]; rw [← p4]; rfl); first | (intro hw; cases hw; done) | (intro hw j hj; by_cases hji : j < i.toNat; (exact p5 (by assumption) j hji); (obtain rfl : j = i.toNat := (by omega); rw [getD_set_s (by omega)] at hw; exact withinB_iff.1 hw)))
     · ((try dsimp only); omega)
    replace hq_44 := bf hq_44
    (have hxm : xs = updN (movF x) l.js l.js.length := (by rw [p3, show i.toNat = l.js.length by omega]); have hym : ys = ofN l.js := (by rw [p4, show i.toNat = l.js.length by omega]; rfl); clear p3 p4; subst hxm; subst hym)
    refine aw_exit <| then_x <| then_x <| block_hit <| then_n <| aw_seq <| aw_seq <| at_ <| ar (ro_assign ev_c) rfl <| ae7 (up_m rfl s3_43) (up_m rfl s4_43) (up_m rfl s5_43) (up_m rfl s7_43) (up_m rfl s8_43) (up_m rfl s9_43) up_h ?_; clear s10_43 s3_43 s4_43 s5_43 s68_43 s7_43 s8_43 s9_43; intro e_56 s3_56 s4_56 s5_56 s7_56 s8_56 s9_56 s11_56
    refine then_n <| aw_block <| aw_loop (S := (Int × List Jnt × List Bea)) (fun s e mem => match s with | ⟨i, ys, zs⟩ => (evA e (.tmp 11) = .v (.int .i64 i)) ∧ (evA e (.tmp 3) = evA e_56 (.tmp 3)) ∧ (evA e (.tmp 4) = evA e_56 (.tmp 4)) ∧ (evA e (.tmp 5) = evA e_56 (.tmp 5)) ∧ (evA e (.tmp 7) = evA e_56 (.tmp 7)) ∧ (evA e (.tmp 8) = evA e_56 (.tmp 8)) ∧ (evA e (.tmp 9) = evA e_56 (.tmp 9)) ∧ (mem[5]? = some (.row 70 4 (ys.map jnE))) ∧ (mem[6]? = some (.row 87 2 (zs.map beE))) ∧ (mem[3]? = m_42[3]?) ∧ (mem[8]? = m_42[8]?) ∧ (mem[7]? = m_42[7]?) ∧ (mem[2]? = m_42[2]?) ∧ (mem[1]? = m_42[1]?) ∧ (mem[0]? = m_42[0]?) ∧ (mem.length = 9) ∧ ((0 ≤ i ∧ i ≤ l.js.length ∧ ys = updN (strF y) (ofN l.js) i.toNat ∧ zs = updN (lenF (l.bs.getD 0 default).len) l.bs (min i.toNat l.bs.length)))) (fun s => match s with | ⟨i, ys, zs⟩ => (l.js.length - i).toNat) ⟨_, ofN l.js, l.bs⟩ ⟨s11_56, rfl, rfl, rfl, rfl, rfl, rfl, mo5_42, mo6_42, rfl, rfl, rfl, rfl, rfl, rfl, ml_42, ?_⟩ ?_
    · (exact ⟨by omega, by omega, rfl, rfl⟩)
    · rintro ⟨i, ys, zs⟩ e_57 m_57 ⟨s11_57, k3_57, k4_57, k5_57, k7_57, k8_57, k9_57, mo5_57, mo6_57, mk3_57, mk8_57, mk7_57, mk2_57, mk1_57, mk0_57, ml_57, hinv⟩
      have s3_57 := k3_57.trans s3_56
      have s4_57 := k4_57.trans s4_56
      have s5_57 := k5_57.trans s5_56
      have s7_57 := k7_57.trans s7_56
      have s8_57 := k8_57.trans s8_56
      have s9_57 := k9_57.trans s9_56
      have mo3_57 := mk3_57.trans mo3_42
      have mo8_57 := mk8_57.trans mo8_42
      have mo7_57 := mk7_57.trans mo7_42
      have mo2_57 := mk2_57.trans mo2_42
      have mo1_57 := mk1_57.trans mo1_42
      have mo0_57 := mk0_57.trans mo0_42
      (obtain ⟨i1, i2, i3, i4⟩ := hinv; have hyl2 : ys.length = l.js.length := (by rw [i3, updN_len]; exact hofl); have hzl : zs.length = l.bs.length := (by rw [i4, updN_len]); have hmy := mul_in (x := y) (y := i) 20 41 (by omega) (by omega))
      refine aw_seq <| aw_seq <| at_ <| ar (ro_move s11_57) rfl <| ar (ro_fld_ptr y70_fl26_1 rfl (up_m rfl s3_57)) rfl <| ar (ro_eq (ro_ld_ptr y70_ty22 rfl mo0_57 up_h (nle rfl)) (by simp only [pS, Value.cells, Nat.reduceAdd, jnE, beE, set_jn4, set_at, set_be, List.map_cons, List.map_nil, hoA, c2A] <;> rfl)) rfl ?_
      refine ar (ro_eq (ro_len_row up_h rfl y70_sl22.1) (by simp only [lnS] <;> rfl)) rfl ?_
      refine ar (ro_lss (up_m rfl (u2 rfl up_h)) up_h) rfl <| ae8 (up_m rfl (u4 rfl s3_57)) (up_m rfl (u4 rfl s4_57)) (up_m rfl (u4 rfl s5_57)) (up_m rfl (u4 rfl s7_57)) (up_m rfl (u4 rfl s8_57)) (up_m rfl (u4 rfl s9_57)) (up_m rfl (u4 rfl s11_57)) up_h ?_; clear s11_57 s3_57 s4_57 s5_57 s7_57 s8_57 s9_57; intro e_58 s3_58 s4_58 s5_58 s7_58 s8_58 s9_58 s11_58 s105_58
      refine then_n <| aw_case s105_58 (fun hq_59 => ?_) (fun hq_59 => ?_)
      ·replace hq_59 := bt hq_59
       refine aw_skip <| then_n <| aw_seq <| aw_block <| aw_seq <| at_ <| ar (ro_fld_ptr y70_fl26_1 rfl s8_58) rfl <| ar (ro_eq (ro_ld_ptr y70_ty22 rfl mo8_57 up_h (nle rfl)) (by simp only [pS, Value.cells, Nat.reduceAdd, jnE, beE, set_jn4, set_at, set_be, List.map_cons, List.map_nil, hoA, c2A] <;> rfl)) rfl ?_
       refine ar (ro_move (u2 rfl s11_58)) rfl <| ar (ro_ixa y70_ar85 (up_m rfl (u2 rfl s5_58)) ev_c rfl) rfl <| ar (ro_eq (ro_ld_ptr y70_ty3 rfl mo2_57 up_h (nle rfl)) (by simp only [pS, Value.cells, Nat.reduceAdd, jnE, beE, set_jn4, set_at, set_be, List.map_cons, List.map_nil, hoA, c2A] <;> rfl)) rfl ?_
       refine ar (ro_move (up_m rfl (u4 rfl s11_58))) rfl ?_
       (refine ar (ro_mul' (up_m rfl up_h) up_h ?_) rfl ?_; · (unfold In64; omega))
       refine ar (ro_ix_own y70_sl22 mo5_57 (up_m rfl (u4 rfl up_h)) (u4 rfl up_h) (by omega) (by simp only [lnS] <;> omega)) rfl ?_
       refine ar (ro_fld_ptr y70_fl70_0 rfl up_h) rfl <| al_stm (st_store_el up_h (u2 rfl up_h) rfl rfl rfl mo5_57 (Nat.add_zero _).symm (by first | (refine idx_map ?_; first | omega | (simp only [lnS]; omega)) | (refine idx_mapI ?_; first | omega | (simp only [lnS]; omega)) | (refine idx_mapN ?_; first | omega | (simp only [lnS]; omega)) | rfl) y70_sz3 rfl (nle rfl)) trivial rfl (fun m_60 hm_60 => ?_)
       have mo5_60 := m_set hm_60 mo5_57
       simp only [pS, Value.cells, Nat.reduceAdd, jnE, beE, set_jn4, set_at, set_be, List.map_cons, List.map_nil, hoA, c2A] at mo5_60
       have mo6_60 := m_set_o hm_60 mo6_57 (by decide)
       have mo3_60 := m_set_o hm_60 mo3_57 (by decide)
       have mo8_60 := m_set_o hm_60 mo8_57 (by decide)
       have mo7_60 := m_set_o hm_60 mo7_57 (by decide)
       have mo2_60 := m_set_o hm_60 mo2_57 (by decide)
       have mo1_60 := m_set_o hm_60 mo1_57 (by decide)
       have mo0_60 := m_set_o hm_60 mo0_57 (by decide)
       have ml_60 := m_set_l hm_60 ml_57
       clear hm_60 mo5_57 mo6_57 mo3_57 mo8_57 mo7_57 mo2_57 mo1_57 mo0_57
       refine ae7 (up_n (up_m rfl (u8 rfl s3_58))) (up_n (up_m rfl (u8 rfl s4_58))) (up_n (up_m rfl (u8 rfl s5_58))) (up_n (up_m rfl (u8 rfl s7_58))) (up_n (up_m rfl (u8 rfl s8_58))) (up_n (up_m rfl (u8 rfl s9_58))) (up_n (up_m rfl (u8 rfl s11_58))) ?_; clear s105_58 s11_58 s3_58 s4_58 s5_58 s7_58 s8_58 s9_58; intro e_61 s3_61 s4_61 s5_61 s7_61 s8_61 s9_61 s11_61
       refine then_n <| aw_seq <| at_ <| ar (ro_move s11_61) rfl <| ar (ro_fld_ptr y70_fl26_2 rfl (up_m rfl s3_61)) rfl <| ar (ro_eq (ro_ld_ptr y70_ty23 rfl mo0_60 up_h (nle rfl)) (by simp only [pS, Value.cells, Nat.reduceAdd, jnE, beE, set_jn4, set_at, set_be, List.map_cons, List.map_nil, hoA, c2A] <;> rfl)) rfl ?_
       refine ar (ro_eq (ro_len_row up_h rfl y70_sl23.1) (by simp only [lnS] <;> rfl)) rfl ?_
       refine ar (ro_lss (up_m rfl (u2 rfl up_h)) up_h) rfl <| ae8 (up_m rfl (u4 rfl s3_61)) (up_m rfl (u4 rfl s4_61)) (up_m rfl (u4 rfl s5_61)) (up_m rfl (u4 rfl s7_61)) (up_m rfl (u4 rfl s8_61)) (up_m rfl (u4 rfl s9_61)) (up_m rfl (u4 rfl s11_61)) up_h ?_; clear s11_61 s3_61 s4_61 s5_61 s7_61 s8_61 s9_61; intro e_62 s3_62 s4_62 s5_62 s7_62 s8_62 s9_62 s11_62 s121_62
       refine then_n <| aw_case s121_62 (fun hq_63 => ?_) (fun hq_63 => ?_)
       ·replace hq_63 := bt hq_63
        refine aw_draw 10 (by kernel_rfl) (by kernel_rfl) (by kernel_rfl) (by kernel_rfl) ?_
        refine dr (ro_fld_ptr y70_fl26_2 rfl s8_62) rfl <| dr (ro_eq (ro_ld_ptr y70_ty23 rfl mo8_60 up_h (nle rfl)) (by simp only [pS, Value.cells, Nat.reduceAdd, jnE, beE, set_jn4, set_at, set_be, List.map_cons, List.map_nil, hoA, c2A] <;> rfl)) rfl ?_
        refine dr (ro_move (u2 rfl s11_62)) rfl <| dr (ro_fld_ptr y70_fl26_2 rfl (up_m rfl (u2 rfl s3_62))) rfl <| dr (ro_eq (ro_ld_ptr y70_ty23 rfl mo0_60 up_h (nle rfl)) (by simp only [pS, Value.cells, Nat.reduceAdd, jnE, beE, set_jn4, set_at, set_be, List.map_cons, List.map_nil, hoA, c2A] <;> rfl)) rfl ?_
        refine dr (ro_eq (ro_ix y70_sl23 up_h ev_c (by decide) (by refine idx_map ?_; first | omega | (simp only [lnS]; omega))) (by simp only [pS, Value.cells, Nat.reduceAdd, jnE, beE, set_jn4, set_at, set_be, List.map_cons, List.map_nil, hoA, c2A] <;> rfl)) rfl ?_
        refine dr (ro_eq (ro_fld_ref y70_fl87_0 rfl up_h) (by simp only [pS, Value.cells, Nat.reduceAdd, jnE, beE, set_jn4, set_at, set_be, List.map_cons, List.map_nil, hoA, c2A] <;> rfl)) rfl ?_
        refine dr (ro_eq (ro_ld_ref y70_ty3 rfl up_h (nle rfl)) (by simp only [pS, Value.cells, Nat.reduceAdd, jnE, beE, set_jn4, set_at, set_be, List.map_cons, List.map_nil, hoA, c2A] <;> rfl)) rfl ?_
        refine dr (ro_ix_own y70_sl23 mo6_60 (u2 rfl (u4 rfl up_h)) (up_m rfl (u4 rfl up_h)) (by omega) (by simp only [lnS] <;> omega)) rfl ?_
        refine dr (ro_fld_ptr y70_fl87_0 rfl up_h) rfl <| ds_nil <| al_stm (st_store_el up_h (u2 rfl up_h) rfl rfl rfl mo6_60 (Nat.add_zero _).symm (by first | (refine idx_map ?_; first | omega | (simp only [lnS]; omega)) | (refine idx_mapI ?_; first | omega | (simp only [lnS]; omega)) | (refine idx_mapN ?_; first | omega | (simp only [lnS]; omega)) | rfl) y70_sz3 rfl (nle rfl)) trivial rfl (fun m_64 hm_64 => ?_)
        have mo6_64 := m_set hm_64 mo6_60
        simp only [pS, Value.cells, Nat.reduceAdd, jnE, beE, set_jn4, set_at, set_be, List.map_cons, List.map_nil, hoA, c2A] at mo6_64
        have mo5_64 := m_set_o hm_64 mo5_60 (by decide)
        have mo3_64 := m_set_o hm_64 mo3_60 (by decide)
        have mo8_64 := m_set_o hm_64 mo8_60 (by decide)
        have mo7_64 := m_set_o hm_64 mo7_60 (by decide)
        have mo2_64 := m_set_o hm_64 mo2_60 (by decide)
        have mo1_64 := m_set_o hm_64 mo1_60 (by decide)
        have mo0_64 := m_set_o hm_64 mo0_60 (by decide)
        have ml_64 := m_set_l hm_64 ml_60
        clear hm_64 mo5_60 mo6_60 mo3_60 mo8_60 mo7_60 mo2_60 mo1_60 mo0_60
        refine ae7 (up_n (u2 rfl (u8 rfl s3_62))) (up_n (u2 rfl (u8 rfl s4_62))) (up_n (u2 rfl (u8 rfl s5_62))) (up_n (u2 rfl (u8 rfl s7_62))) (up_n (u2 rfl (u8 rfl s8_62))) (up_n (u2 rfl (u8 rfl s9_62))) (up_n (u2 rfl (u8 rfl s11_62))) ?_; clear s11_62 s121_62 s3_62 s4_62 s5_62 s7_62 s8_62 s9_62; intro e_65 s3_65 s4_65 s5_65 s7_65 s8_65 s9_65 s11_65
        refine block_n <| then_n <| at_ <| ar (ro_move s11_65) rfl ?_
        (refine ar (ro_add' up_h ev_c ?_) rfl ?_; · (unfold In64; omega))
        refine ar (ro_assign up_h) rfl <| ae7 (up_m rfl (u2 rfl s3_65)) (up_m rfl (u2 rfl s4_65)) (up_m rfl (u2 rfl s5_65)) (up_m rfl (u2 rfl s7_65)) (up_m rfl (u2 rfl s8_65)) (up_m rfl (u2 rfl s9_65)) up_h ?_; clear s11_65 s3_65 s4_65 s5_65 s7_65 s8_65 s9_65; intro e_66 s3_66 s4_66 s5_66 s7_66 s8_66 s9_66 s11_66
        refine then_n <| ⟨⟨_, _, _⟩, ⟨s11_66, (s3_66.trans s3_56.symm), (s4_66.trans s4_56.symm), (s5_66.trans s5_56.symm), (s7_66.trans s7_56.symm), (s8_66.trans s8_56.symm), (s9_66.trans s9_56.symm), mo5_64, mo6_64, (mo3_64.trans mo3_42.symm), (mo8_64.trans mo8_42.symm), (mo7_64.trans mo7_42.symm), (mo2_64.trans mo2_42.symm), (mo1_64.trans mo1_42.symm), (mo0_64.trans mo0_42.symm), ml_64, ?_⟩, ?_⟩
        · (refine ⟨by omega, by omega, ?_, ?_⟩; (rw [show (i + 1).toNat = i.toNat + 1 by omega]; simp only [updN]; rw [← i3]; have e9 : ((i.toNat : Nat) : Int) = i := (by omega); unfold strF; rw [e9]; rfl); first | (have e0 : min i.toNat l.bs.length = i.toNat := (by omega); rw [e0] at i4; rw [show min (i + 1).toNat l.bs.length = i.toNat + 1 by omega]; simp only [updN]; rw [← i4]; rfl) | (rw [show min (i + 1).toNat l.bs.length = min i.toNat l.bs.length by omega]; exact i4))
        · ((try dsimp only); omega)
       replace hq_63 := bf hq_63
       refine aw_skip <| block_n <| then_n <| at_ <| ar (ro_move s11_62) rfl ?_
       (refine ar (ro_add' up_h ev_c ?_) rfl ?_; · (unfold In64; omega))
       refine ar (ro_assign up_h) rfl <| ae7 (up_m rfl (u2 rfl s3_62)) (up_m rfl (u2 rfl s4_62)) (up_m rfl (u2 rfl s5_62)) (up_m rfl (u2 rfl s7_62)) (up_m rfl (u2 rfl s8_62)) (up_m rfl (u2 rfl s9_62)) up_h ?_; clear s11_62 s121_62 s3_62 s4_62 s5_62 s7_62 s8_62 s9_62; intro e_67 s3_67 s4_67 s5_67 s7_67 s8_67 s9_67 s11_67
       refine then_n <| ⟨⟨_, _, _⟩, ⟨s11_67, (s3_67.trans s3_56.symm), (s4_67.trans s4_56.symm), (s5_67.trans s5_56.symm), (s7_67.trans s7_56.symm), (s8_67.trans s8_56.symm), (s9_67.trans s9_56.symm), mo5_60, mo6_60, (mo3_60.trans mo3_42.symm), (mo8_60.trans mo8_42.symm), (mo7_60.trans mo7_42.symm), (mo2_60.trans mo2_42.symm), (mo1_60.trans mo1_42.symm), (mo0_60.trans mo0_42.symm), ml_60, ?_⟩, ?_⟩
       · (refine ⟨by omega, by omega, ?_, ?_⟩; (rw [show (i + 1).toNat = i.toNat + 1 by omega]; simp only [updN]; rw [← i3]; have e9 : ((i.toNat : Nat) : Int) = i := (by omega); unfold strF; rw [e9]; rfl); first | (have e0 : min i.toNat l.bs.length = i.toNat := (by omega); rw [e0] at i4; rw [show min (i + 1).toNat l.bs.length = i.toNat + 1 by omega]; simp only [updN]; rw [← i4]; rfl) | (rw [show min (i + 1).toNat l.bs.length = min i.toNat l.bs.length by omega]; exact i4))
       · ((try dsimp only); omega)
      replace hq_59 := bf hq_59
      (have hym2 : ys = updN (strF y) (ofN l.js) l.js.length := (by rw [i3, show i.toNat = l.js.length by omega]); have hzm : zs = updN (lenF (l.bs.getD 0 default).len) l.bs l.bs.length := (by rw [i4, show min i.toNat l.bs.length = l.bs.length by omega]); clear i3 i4; subst hym2; subst hzm)
      refine aw_exit <| then_x <| then_x <| block_hit <| then_n <| aw_seq <| aw_seq <| aw_freezeF 1 mo7_57 mo3_57 (by decide) rfl (fun m_68 hm_68 => ?_)
      have mo5_68 := m_set_o hm_68 (m_set_o rfl mo5_57 (by decide)) (by decide)
      have mo6_68 := m_set_o hm_68 (m_set_o rfl mo6_57 (by decide)) (by decide)
      have mo8_68 := m_set_o hm_68 (m_set_o rfl mo8_57 (by decide)) (by decide)
      have mo7_68 := m_set hm_68 (m_set_o rfl mo7_57 (by decide))
      simp only [List.set_cons_zero, List.set_cons_succ] at mo7_68
      have mo2_68 := m_set_o hm_68 (m_set_o rfl mo2_57 (by decide)) (by decide)
      have mo1_68 := m_set_o hm_68 (m_set_o rfl mo1_57 (by decide)) (by decide)
      have mo0_68 := m_set_o hm_68 (m_set_o rfl mo0_57 (by decide)) (by decide)
      have ml_68 := m_set_l hm_68 (m_set_l rfl ml_57)
      clear hm_68 mo5_57 mo6_57 mo3_57 mo8_57 mo7_57 mo2_57 mo1_57 mo0_57
      refine aw_freezeF 1 mo8_68 mo5_68 (by decide) rfl (fun m_69 hm_69 => ?_)
      have mo6_69 := m_set_o hm_69 (m_set_o rfl mo6_68 (by decide)) (by decide)
      have mo8_69 := m_set hm_69 (m_set_o rfl mo8_68 (by decide))
      simp only [List.set_cons_zero, List.set_cons_succ] at mo8_69
      have mo7_69 := m_set_o hm_69 (m_set_o rfl mo7_68 (by decide)) (by decide)
      have mo2_69 := m_set_o hm_69 (m_set_o rfl mo2_68 (by decide)) (by decide)
      have mo1_69 := m_set_o hm_69 (m_set_o rfl mo1_68 (by decide)) (by decide)
      have mo0_69 := m_set_o hm_69 (m_set_o rfl mo0_68 (by decide)) (by decide)
      have ml_69 := m_set_l hm_69 (m_set_l rfl ml_68)
      clear hm_69 mo5_68 mo6_68 mo8_68 mo7_68 mo2_68 mo1_68 mo0_68
      refine aw_freezeF 2 mo8_69 mo6_69 (by decide) rfl (fun m_70 hm_70 => ?_)
      have mo8_70 := m_set hm_70 (m_set_o rfl mo8_69 (by decide))
      simp only [List.set_cons_zero, List.set_cons_succ] at mo8_70
      have mo7_70 := m_set_o hm_70 (m_set_o rfl mo7_69 (by decide)) (by decide)
      have mo2_70 := m_set_o hm_70 (m_set_o rfl mo2_69 (by decide)) (by decide)
      have mo1_70 := m_set_o hm_70 (m_set_o rfl mo1_69 (by decide)) (by decide)
      have mo0_70 := m_set_o hm_70 (m_set_o rfl mo0_69 (by decide)) (by decide)
      have ml_70 := m_set_l hm_70 (m_set_l rfl ml_69)
      clear hm_70 mo6_69 mo8_69 mo7_69 mo2_69 mo1_69 mo0_69
      refine aw_drawK 13 1 ml_70 (by kernel_rfl) (by kernel_rfl) (by kernel_rfl) (by kernel_rfl) (fun m_71 hm_71 => ?_)
      have mo8_71 := m_room_o hm_71 mo8_70
      have mo7_71 := m_room_o hm_71 mo7_70
      have mo2_71 := m_room_o hm_71 mo2_70
      have mo1_71 := m_room_o hm_71 mo1_70
      have mo0_71 := m_room_o hm_71 mo0_70
      have mo9_71 : m_71[9]? = _ := m_room_g hm_71 ml_70 0 rfl rfl
      have ml_71 : _ = 10 := m_room_l (K := 1) hm_71 ml_70
      clear hm_71 mo8_70 mo7_70 mo2_70 mo1_70 mo0_70 ml_70
      refine dh_ld (8) (fun M_ hM_ => (ro_eq (ro_ld_ptr y70_ty26 rfl (agr hM_ mo8_71 (by simp)) s8_58 (nle rfl)) (by simp only [pS, Value.cells, Nat.reduceAdd, jnE, beE, set_jn4, set_at, set_be, List.map_cons, List.map_nil, hoA, c2A] <;> rfl))) trivial trivial ?_
      refine dh_ro (fun M_ hM_ => (ro_call (evL_cons up_h evL_nil) rfl (copyN_ok (strL l y) hSl rfl) y70_hcf18)) trivial ?_
      refine dh_ro (fun M_ hM_ => (ro_fld_ptr y70_fl28_0 rfl (u2 rfl s4_58))) trivial ?_
      refine dh_ld (1) (fun M_ hM_ => (ro_eq (ro_ld_ptr y70_ty3 rfl (agr hM_ mo1_71 (by simp)) up_h (nle rfl)) (by simp only [pS, Value.cells, Nat.reduceAdd, jnE, beE, set_jn4, set_at, set_be, List.map_cons, List.map_nil, hoA, c2A] <;> rfl))) trivial trivial ?_
      refine dh_ro (fun M_ hM_ => (ro_fld_ptr y70_fl28_2 rfl (u4 rfl s4_58))) trivial ?_
      refine dh_ld (1) (fun M_ hM_ => (ro_eq (ro_ld_ptr y70_ty3 rfl (agr hM_ mo1_71 (by simp)) up_h (nle rfl)) (by simp only [pS, Value.cells, Nat.reduceAdd, jnE, beE, set_jn4, set_at, set_be, List.map_cons, List.map_nil, hoA, c2A] <;> rfl))) trivial trivial ?_
      refine dh_ro (fun M_ hM_ => (ro_build (evP_cons (u2 rfl up_h) (evP_cons up_h evP_nil)) y70_bz28 y70_bu28 y70_bp28 rfl)) trivial ?_
      refine dh_ro (fun M_ hM_ => (ro_call (evL_cons (up_m rfl (u4 rfl up_h)) (evL_cons up_h evL_nil)) rfl ((firstUnclear_good (strL l y) hSl hSg L 0 u (vehE_z.2 (by omega))).mono (fun q h => show q = .tuple [.agg [mA 0, mA 0, mA 0, mA 0], mA 12] from h.trans (by rw [fcA_str hr hy2 hv2.1 (by omega)]; rfl))) y70_hcf19)) trivial ?_
      refine dh_ro (fun M_ hM_ => (ro_move up_h)) trivial ?_
      refine dh_ro (fun M_ hM_ => (ro_extract up_h rfl)) trivial ?_
      refine dh_ro (fun M_ hM_ => (ro_extract (up_m rfl up_h) rfl)) trivial ?_
      refine dh_nw (9) (fun M_ hM_ => (nw_alloc y70_az41 rfl)) trivial mo9_71 rfl trivial ⟨.inl (by simp <;> omega), ⟨.inl (by simp <;> omega), ⟨.inl (by simp <;> omega), trivial⟩⟩⟩ (fun m_72 hm_72 => ?_)
      have mo9_72 := m_set hm_72 mo9_71
      simp only [pS, Value.cells, Nat.reduceAdd, jnE, beE, set_jn4, set_at, set_be, List.map_cons, List.map_nil, hoA, c2A] at mo9_72
      have mo8_72 := m_set_o hm_72 mo8_71 (by decide)
      have mo7_72 := m_set_o hm_72 mo7_71 (by decide)
      have mo2_72 := m_set_o hm_72 mo2_71 (by decide)
      have mo1_72 := m_set_o hm_72 mo1_71 (by decide)
      have mo0_72 := m_set_o hm_72 mo0_71 (by decide)
      have ml_72 := m_set_l hm_72 ml_71
      clear hm_72 mo8_71 mo7_71 mo2_71 mo1_71 mo0_71 mo9_71
      refine dh_set (9) (fun M_ hM_ => (se_store up_h (u2 rfl up_h) rfl rfl (agr hM_ mo9_72 (by simp)) y70_sz41 rfl (nle rfl))) trivial ⟨.inr (wt_one 12 11 (by kernel_rfl)), trivial⟩ ⟨.inl (by simp <;> omega), ⟨.inl (by simp <;> omega), ⟨.inl (by simp <;> omega), ⟨.inr (wt_one 12 11 (by kernel_rfl)), trivial⟩⟩⟩⟩ (fun m_73 hm_73 => ?_)
      have mo9_73 := m_set hm_73 mo9_72
      simp only [pS, Value.cells, Nat.reduceAdd, jnE, beE, set_jn4, set_at, set_be, List.map_cons, List.map_nil, hoA, c2A] at mo9_73
      have mo8_73 := m_set_o hm_73 mo8_72 (by decide)
      have mo7_73 := m_set_o hm_73 mo7_72 (by decide)
      have mo2_73 := m_set_o hm_73 mo2_72 (by decide)
      have mo1_73 := m_set_o hm_73 mo1_72 (by decide)
      have mo0_73 := m_set_o hm_73 mo0_72 (by decide)
      have ml_73 := m_set_l hm_73 ml_72
      clear hm_73 mo9_72 mo8_72 mo7_72 mo2_72 mo1_72 mo0_72
      refine dh_nil rfl ?_
      refine ar (ro_assign (up_n (up_m rfl up_h))) rfl <| ae7 (up_m rfl (up_n (u4 rfl (u8 rfl s3_58)))) (up_m rfl (up_n (u4 rfl (u8 rfl s4_58)))) (up_m rfl (up_n (u4 rfl (u8 rfl s7_58)))) (up_m rfl (up_n (u4 rfl (u8 rfl s8_58)))) (up_m rfl (up_n (u4 rfl (u8 rfl s9_58)))) (up_m rfl (up_n up_h)) up_h ?_; clear s105_58 s11_58 s3_58 s4_58 s5_58 s7_58 s8_58 s9_58; intro e_74 s3_74 s4_74 s7_74 s8_74 s9_74 s12_74 s13_74
      refine then_n <| aw_seq <| at_ <| ar (ro_move s13_74) rfl <| ar (ro_neq up_h ev_c) rfl <| ar (ro_move up_h) rfl <| al_case up_h (fun hb_75 hq_75 => ?_) (fun hb_75 hq_75 => ?_)
      · cases hq_75
      replace hq_75 := bnf hq_75
      refine al_ro' (ro_eq (ro_ld_ptr y70_ty41 rfl mo9_73 (up_m rfl (u2 rfl s12_74)) (nle rfl)) (by simp only [pS, Value.cells, Nat.reduceAdd, jnE, beE, set_jn4, set_at, set_be, List.map_cons, List.map_nil, hoA, c2A] <;> rfl)) ⟨_, rfl, hb_75⟩ rfl ?_
      refine al_ro' (ro_build evP_nil y70_bz41 y70_bu41 y70_bp41 rfl) ⟨_, rfl, (up_m rfl hb_75)⟩ rfl ?_
      refine al_ro' (ro_sqneq (up_m rfl up_h) up_h rfl rfl y70_gq41 y70_sq41 (by decide)) ⟨_, rfl, (u2 rfl hb_75)⟩ rfl ?_
      refine ar (ro_pickF (up_m rfl (u2 rfl hb_75)) up_h) rfl <| ae6 (up_m rfl (u2 rfl (u4 rfl s3_74))) (up_m rfl (u2 rfl (u4 rfl s4_74))) (up_m rfl (u2 rfl (u4 rfl s7_74))) (up_m rfl (u2 rfl (u4 rfl s8_74))) (up_m rfl (u2 rfl (u4 rfl s9_74))) up_h ?_; clear hb_75 s12_74 s13_74 s3_74 s4_74 s7_74 s8_74 s9_74; intro e_79 s3_79 s4_79 s7_79 s8_79 s9_79 s149_79
      refine then_n <| aw_case s149_79 (fun hq_80 => ?_) (fun hq_80 => ?_)
      · cases hq_80
      replace hq_80 := bf' hq_80
      refine aw_skip <| then_n <| aw_seq <| aw_seq <| at_ <| ar (ro_assign ev_c) rfl <| ae6 (up_m rfl s3_79) (up_m rfl s4_79) (up_m rfl s7_79) (up_m rfl s8_79) (up_m rfl s9_79) up_h ?_; clear s149_79 s3_79 s4_79 s7_79 s8_79 s9_79; intro e_82 s3_82 s4_82 s7_82 s8_82 s9_82 s14_82
      refine then_n <| aw_block <| aw_loop (S := Int) (fun i e mem => (evA e (.tmp 14) = .v (.int .i64 i)) ∧ (evA e (.tmp 3) = evA e_82 (.tmp 3)) ∧ (evA e (.tmp 4) = evA e_82 (.tmp 4)) ∧ (evA e (.tmp 7) = evA e_82 (.tmp 7)) ∧ (evA e (.tmp 8) = evA e_82 (.tmp 8)) ∧ (evA e (.tmp 9) = evA e_82 (.tmp 9)) ∧ (mem[9]? = m_73[9]?) ∧ (mem[8]? = m_73[8]?) ∧ (mem[7]? = m_73[7]?) ∧ (mem[2]? = m_73[2]?) ∧ (mem[1]? = m_73[1]?) ∧ (mem[0]? = m_73[0]?) ∧ (∃ n, mem.length = n ∧ 10 ≤ n) ∧ ((1 ≤ i ∧ i ≤ l.js.length))) (fun i => (l.js.length - i).toNat) _ ⟨s14_82, rfl, rfl, rfl, rfl, rfl, rfl, rfl, rfl, rfl, rfl, rfl, ⟨_, ml_73, Nat.le_refl _⟩, ?_⟩ ?_
      · (exact ⟨by omega, by omega⟩)
      · rintro i e_83 m_83 ⟨s14_83, k3_83, k4_83, k7_83, k8_83, k9_83, mk9_83, mk8_83, mk7_83, mk2_83, mk1_83, mk0_83, ⟨n_83, ml_83, hn_83⟩, hinv⟩
        have s3_83 := k3_83.trans s3_82
        have s4_83 := k4_83.trans s4_82
        have s7_83 := k7_83.trans s7_82
        have s8_83 := k8_83.trans s8_82
        have s9_83 := k9_83.trans s9_82
        have mo9_83 := mk9_83.trans mo9_73
        have mo8_83 := mk8_83.trans mo8_73
        have mo7_83 := mk7_83.trans mo7_73
        have mo2_83 := mk2_83.trans mo2_73
        have mo1_83 := mk1_83.trans mo1_73
        have mo0_83 := mk0_83.trans mo0_73
        (obtain ⟨k1, k2⟩ := hinv)
        refine aw_seq <| aw_seq <| at_ <| ar (ro_move s14_83) rfl ?_
        (refine ar (ro_add' up_h ev_c ?_) rfl ?_; · (unfold In64; omega))
        refine ar (ro_fld_ptr y70_fl26_1 rfl (u2 rfl s3_83)) rfl <| ar (ro_eq (ro_ld_ptr y70_ty22 rfl mo0_83 up_h (nle rfl)) (by simp only [pS, Value.cells, Nat.reduceAdd, jnE, beE, set_jn4, set_at, set_be, List.map_cons, List.map_nil, hoA, c2A] <;> rfl)) rfl ?_
        refine ar (ro_eq (ro_len_row up_h rfl y70_sl22.1) (by simp only [lnS] <;> rfl)) rfl ?_
        refine ar (ro_lss (up_m rfl (u2 rfl up_h)) up_h) rfl <| ae7 (u2 rfl (u4 rfl s3_83)) (u2 rfl (u4 rfl s4_83)) (u2 rfl (u4 rfl s7_83)) (u2 rfl (u4 rfl s8_83)) (u2 rfl (u4 rfl s9_83)) (u2 rfl (u4 rfl s14_83)) up_h ?_; clear s14_83 s3_83 s4_83 s7_83 s8_83 s9_83; intro e_84 s3_84 s4_84 s7_84 s8_84 s9_84 s14_84 s155_84
        refine then_n <| aw_case s155_84 (fun hq_85 => ?_) (fun hq_85 => ?_)
        ·replace hq_85 := bt hq_85
         refine aw_skip <| then_n <| aw_seq <| aw_block <| aw_seq <| at_ <| ar (ro_eq (ro_ld_ptr y70_ty26 rfl mo8_83 s8_84 (nle rfl)) (by simp only [pS, Value.cells, Nat.reduceAdd, jnE, beE, set_jn4, set_at, set_be, List.map_cons, List.map_nil, hoA, c2A] <;> rfl)) rfl ?_
         refine ar (ro_call (evL_cons up_h evL_nil) rfl (copyN_ok (strL l y) hSl rfl) y70_hcf18) rfl <| ar (ro_move (u2 rfl s14_84)) rfl <| ar (ro_call (evL_cons (up_m rfl up_h) (evL_cons up_h evL_nil)) rfl (bend_str l hl hr hy2 i (by omega)) y70_hcf47) rfl ?_
         refine ar (ro_move up_h) rfl <| ar (ro_extract up_h rfl) rfl <| ar (ro_extract (up_m rfl up_h) rfl) rfl <| al_stm (st_alloc y70_az81 rfl ml_83) trivial rfl (fun m_86 hm_86 => ?_)
         have mon_83_86 := m_push hm_86 ml_83
         simp only [pS, Value.cells, Nat.reduceAdd, jnE, beE, set_jn4, set_at, set_be, List.map_cons, List.map_nil, hoA, c2A] at mon_83_86
         have mo9_86 := m_push_o hm_86 mo9_83
         have mo8_86 := m_push_o hm_86 mo8_83
         have mo7_86 := m_push_o hm_86 mo7_83
         have mo2_86 := m_push_o hm_86 mo2_83
         have mo1_86 := m_push_o hm_86 mo1_83
         have mo0_86 := m_push_o hm_86 mo0_83
         have ml_86 := m_push_l hm_86 ml_83
         clear hm_86 mo9_83 mo8_83 mo7_83 mo2_83 mo1_83 mo0_83
         refine al_stm (st_store up_h (u2 rfl up_h) rfl rfl mon_83_86 y70_sz81 rfl (nle rfl)) trivial rfl (fun m_87 hm_87 => ?_)
         have mon_83_87 := m_set hm_87 mon_83_86
         simp only [pS, Value.cells, Nat.reduceAdd, jnE, beE, set_jn4, set_at, set_be, List.map_cons, List.map_nil, hoA, c2A] at mon_83_87
         have mo9_87 := m_set_o hm_87 mo9_86 (by omega)
         have mo8_87 := m_set_o hm_87 mo8_86 (by omega)
         have mo7_87 := m_set_o hm_87 mo7_86 (by omega)
         have mo2_87 := m_set_o hm_87 mo2_86 (by omega)
         have mo1_87 := m_set_o hm_87 mo1_86 (by omega)
         have mo0_87 := m_set_o hm_87 mo0_86 (by omega)
         have ml_87 := m_set_l hm_87 ml_86
         clear hm_87 mon_83_86 mo9_86 mo8_86 mo7_86 mo2_86 mo1_86 mo0_86
         refine ar (ro_assign (up_n (up_m rfl up_h))) rfl <| ae8 (up_m rfl (up_n (u8 rfl s3_84))) (up_m rfl (up_n (u8 rfl s4_84))) (up_m rfl (up_n (u8 rfl s7_84))) (up_m rfl (up_n (u8 rfl s8_84))) (up_m rfl (up_n (u8 rfl s9_84))) (up_m rfl (up_n (u8 rfl s14_84))) (up_m rfl (up_n up_h)) up_h ?_; clear s14_84 s155_84 s3_84 s4_84 s7_84 s8_84 s9_84; intro e_88 s3_88 s4_88 s7_88 s8_88 s9_88 s14_88 s15_88 s16_88
         refine then_n <| aw_seq <| aw_draw 7 (by kernel_rfl) (by kernel_rfl) (by kernel_rfl) (by kernel_rfl) ?_
         refine dr (ro_move s16_88) rfl <| dr (ro_neq up_h ev_c) rfl <| dr (ro_move up_h) rfl <| ds_case up_h (fun hb_89 hq_89 => ?_) (fun hb_89 hq_89 => ?_)
         · cases hq_89
         replace hq_89 := bnf hq_89
         refine ds_ro' (ro_eq (ro_ld_ptr y70_ty81 rfl mon_83_87 (up_m rfl (u2 rfl s15_88)) (nle rfl)) (by simp only [pS, Value.cells, Nat.reduceAdd, jnE, beE, set_jn4, set_at, set_be, List.map_cons, List.map_nil, hoA, c2A] <;> rfl)) ⟨_, rfl, hb_89⟩ rfl ?_
         refine ds_ro' (ro_call (evL_cons ev_c evL_nil) rfl (whole_ok 0) y70_hcf48) ⟨_, rfl, (up_m rfl hb_89)⟩ rfl ?_
         refine ds_ro' (ro_sqneq (up_m rfl up_h) up_h rfl rfl y70_gq81 y70_sq81 (by decide)) ⟨_, rfl, (u2 rfl hb_89)⟩ rfl ?_
         refine dr (ro_pickF (up_m rfl (u2 rfl hb_89)) up_h) rfl <| ds_nil <| ae7 (up_m rfl (u2 rfl (u4 rfl s3_88))) (up_m rfl (u2 rfl (u4 rfl s4_88))) (up_m rfl (u2 rfl (u4 rfl s7_88))) (up_m rfl (u2 rfl (u4 rfl s8_88))) (up_m rfl (u2 rfl (u4 rfl s9_88))) (up_m rfl (u2 rfl (u4 rfl s14_88))) up_h ?_; clear hb_89 s14_88 s15_88 s16_88 s3_88 s4_88 s7_88 s8_88 s9_88; intro e_93 s3_93 s4_93 s7_93 s8_93 s9_93 s14_93 s171_93
         refine then_n <| aw_case s171_93 (fun hq_94 => ?_) (fun hq_94 => ?_)
         · cases hq_94
         replace hq_94 := bf' hq_94
         refine aw_skip <| block_n <| then_n <| at_ <| ar (ro_move s14_93) rfl ?_
         (refine ar (ro_add' up_h ev_c ?_) rfl ?_; · (unfold In64; omega))
         refine ar (ro_assign up_h) rfl <| ae6 (up_m rfl (u2 rfl s3_93)) (up_m rfl (u2 rfl s4_93)) (up_m rfl (u2 rfl s7_93)) (up_m rfl (u2 rfl s8_93)) (up_m rfl (u2 rfl s9_93)) up_h ?_; clear s14_93 s171_93 s3_93 s4_93 s7_93 s8_93 s9_93; intro e_96 s3_96 s4_96 s7_96 s8_96 s9_96 s14_96
         refine then_n <| ⟨_, ⟨s14_96, (s3_96.trans s3_82.symm), (s4_96.trans s4_82.symm), (s7_96.trans s7_82.symm), (s8_96.trans s8_82.symm), (s9_96.trans s9_82.symm), (mo9_87.trans mo9_73.symm), (mo8_87.trans mo8_73.symm), (mo7_87.trans mo7_73.symm), (mo2_87.trans mo2_73.symm), (mo1_87.trans mo1_73.symm), (mo0_87.trans mo0_73.symm), ⟨_, ml_87, by omega⟩, ?_⟩, ?_⟩
         · (exact ⟨by omega, by omega⟩)
         · ((try dsimp only); omega)
        replace hq_85 := bf hq_85
        refine aw_exit <| then_x <| then_x <| block_hit <| then_n <| aw_seq <| aw_seq <| at_ <| ar (ro_move s9_84) rfl <| ar (ro_not up_h) rfl <| ae4 (u2 rfl s3_84) (u2 rfl s4_84) (u2 rfl s7_84) up_h ?_; clear s14_84 s155_84 s3_84 s4_84 s7_84 s8_84 s9_84; intro e_97 s3_97 s4_97 s7_97 s173_97
        refine then_n <| aw_case s173_97 (fun hq_98 => ?_) (fun hq_98 => ?_)
        ·replace hq_98 := bt' hq_98
         refine aw_seq <| at_ <| ar (ro_assign ev_c) rfl <| ae1 up_h ?_; clear s173_97 s3_97 s4_97 s7_97; intro e_99 s6_99
         refine then_n <| aw_ret <| then_r <| ret1 (.inr rfl) (by kernel_rfl) (resV_tmp s6_99) (.ro _ rfl) ?_
         clear s6_99 mo9_83 mo8_83 mo7_83 mo2_83 mo1_83 mo0_83 ml_83
         first | rfl | (simp_all; done)
        replace hq_98 := bf' hq_98
        (have hM := movL_rgt hr (x := x) (fun j hj => p5 (by assumption) j (by omega)); have hMg := rgt_to hM)
        refine aw_skip <| then_n <| aw_seq <| aw_drawK 9 1 ml_83 (by kernel_rfl) (by kernel_rfl) (by kernel_rfl) (by kernel_rfl) (fun m_100 hm_100 => ?_)
        have mo9_100 := m_room_o hm_100 mo9_83
        have mo8_100 := m_room_o hm_100 mo8_83
        have mo7_100 := m_room_o hm_100 mo7_83
        have mo2_100 := m_room_o hm_100 mo2_83
        have mo1_100 := m_room_o hm_100 mo1_83
        have mo0_100 := m_room_o hm_100 mo0_83
        have mon_83_100 : m_100[n_83]? = _ := m_room_g hm_100 ml_83 0 rfl rfl
        have ml_100 : _ = n_83 + 1 := m_room_l (K := 1) hm_100 ml_83
        clear hm_100 mo9_83 mo8_83 mo7_83 mo2_83 mo1_83 mo0_83 ml_83
        refine dh_ld (0) (fun M_ hM_ => (ro_eq (ro_ld_ptr y70_ty26 rfl (agr hM_ mo0_100 (by simp)) s3_97 (nle rfl)) (by simp only [pS, Value.cells, Nat.reduceAdd, jnE, beE, set_jn4, set_at, set_be, List.map_cons, List.map_nil, hoA, c2A] <;> rfl))) trivial trivial ?_
        refine dh_ro (fun M_ hM_ => (ro_call (evL_cons up_h evL_nil) rfl (yCopy_ok l hl) y70_hcf18)) trivial ?_
        refine dh_ld (1) (fun M_ hM_ => (ro_eq (ro_ld_ptr y70_ty28 rfl (agr hM_ mo1_100 (by simp)) (u2 rfl s4_97) (nle rfl)) (by simp only [pS, Value.cells, Nat.reduceAdd, jnE, beE, set_jn4, set_at, set_be, List.map_cons, List.map_nil, hoA, c2A] <;> rfl))) trivial trivial ?_
        refine dh_ro (fun M_ hM_ => (ro_call (evL_cons (up_m rfl up_h) (evL_cons up_h evL_nil)) rfl ((firstUnclear_good l hl hg L c u hv).mono (fun q h => show q = .tuple [.agg [mA a1, mA b1, mA d1, mA e1], mA ee] from h.trans (by rw [hu, hE]))) y70_hcf19)) trivial ?_
        refine dh_ro (fun M_ hM_ => (ro_move up_h)) trivial ?_
        refine dh_ro (fun M_ hM_ => (ro_extract up_h rfl)) trivial ?_
        refine dh_ro (fun M_ hM_ => (ro_extract (up_m rfl up_h) rfl)) trivial ?_
        refine dh_nw (n_83) (fun M_ hM_ => (nw_alloc y70_az41 rfl)) trivial mon_83_100 rfl trivial ⟨.inl (by simp <;> omega), ⟨.inl (by simp <;> omega), trivial⟩⟩ (fun m_101 hm_101 => ?_)
        have mon_83_101 := m_set hm_101 mon_83_100
        simp only [pS, Value.cells, Nat.reduceAdd, jnE, beE, set_jn4, set_at, set_be, List.map_cons, List.map_nil, hoA, c2A] at mon_83_101
        have mo9_101 := m_set_o hm_101 mo9_100 (by omega)
        have mo8_101 := m_set_o hm_101 mo8_100 (by omega)
        have mo7_101 := m_set_o hm_101 mo7_100 (by omega)
        have mo2_101 := m_set_o hm_101 mo2_100 (by omega)
        have mo1_101 := m_set_o hm_101 mo1_100 (by omega)
        have mo0_101 := m_set_o hm_101 mo0_100 (by omega)
        have ml_101 := m_set_l hm_101 ml_100
        clear hm_101 mo9_100 mo8_100 mo7_100 mo2_100 mo1_100 mo0_100 mon_83_100
        refine dh_set (n_83) (fun M_ hM_ => (se_store up_h (u2 rfl up_h) rfl rfl (agr hM_ mon_83_101 (by simp)) y70_sz41 rfl (nle rfl))) trivial ⟨.inr (wt_one 8 7 (by kernel_rfl)), trivial⟩ ⟨.inl (by simp <;> omega), ⟨.inl (by simp <;> omega), ⟨.inr (wt_one 8 7 (by kernel_rfl)), trivial⟩⟩⟩ (fun m_102 hm_102 => ?_)
        have mon_83_102 := m_set hm_102 mon_83_101
        simp only [pS, Value.cells, Nat.reduceAdd, jnE, beE, set_jn4, set_at, set_be, List.map_cons, List.map_nil, hoA, c2A] at mon_83_102
        have mo9_102 := m_set_o hm_102 mo9_101 (by omega)
        have mo8_102 := m_set_o hm_102 mo8_101 (by omega)
        have mo7_102 := m_set_o hm_102 mo7_101 (by omega)
        have mo2_102 := m_set_o hm_102 mo2_101 (by omega)
        have mo1_102 := m_set_o hm_102 mo1_101 (by omega)
        have mo0_102 := m_set_o hm_102 mo0_101 (by omega)
        have ml_102 := m_set_l hm_102 ml_101
        clear hm_102 mon_83_101 mo9_101 mo8_101 mo7_101 mo2_101 mo1_101 mo0_101
        refine dh_nil rfl ?_
        refine ar (ro_assign (up_n (up_m rfl up_h))) rfl <| ae5 (up_m rfl (up_n (u8 rfl s3_97))) (up_m rfl (up_n (u8 rfl s4_97))) (up_m rfl (up_n (u8 rfl s7_97))) (up_m rfl (up_n up_h)) up_h ?_; clear s173_97 s3_97 s4_97 s7_97; intro e_103 s3_103 s4_103 s7_103 s17_103 s18_103
        refine then_n <| aw_seq <| aw_drawK 9 1 ml_102 (by kernel_rfl) (by kernel_rfl) (by kernel_rfl) (by kernel_rfl) (fun m_104 hm_104 => ?_)
        have mon_83_104 := m_room_o hm_104 mon_83_102
        have mo9_104 := m_room_o hm_104 mo9_102
        have mo8_104 := m_room_o hm_104 mo8_102
        have mo7_104 := m_room_o hm_104 mo7_102
        have mo2_104 := m_room_o hm_104 mo2_102
        have mo1_104 := m_room_o hm_104 mo1_102
        have mo0_104 := m_room_o hm_104 mo0_102
        have mon_83_1_104 : m_104[n_83 + 1]? = _ := m_room_g hm_104 ml_102 0 rfl rfl
        have ml_104 : _ = n_83 + 1 + 1 := m_room_l (K := 1) hm_104 ml_102
        clear hm_104 mon_83_102 mo9_102 mo8_102 mo7_102 mo2_102 mo1_102 mo0_102 ml_102
        refine dh_ld (7) (fun M_ hM_ => (ro_eq (ro_ld_ptr y70_ty26 rfl (agr hM_ mo7_104 (by simp)) s7_103 (nle rfl)) (by simp only [pS, Value.cells, Nat.reduceAdd, jnE, beE, set_jn4, set_at, set_be, List.map_cons, List.map_nil, hoA, c2A] <;> rfl))) trivial trivial ?_
        refine dh_ro (fun M_ hM_ => (ro_call (evL_cons up_h evL_nil) rfl (copyN_ok (movL l x) hMl rfl) y70_hcf18)) trivial ?_
        refine dh_ld (1) (fun M_ hM_ => (ro_eq (ro_ld_ptr y70_ty28 rfl (agr hM_ mo1_104 (by simp)) (u2 rfl s4_103) (nle rfl)) (by simp only [pS, Value.cells, Nat.reduceAdd, jnE, beE, set_jn4, set_at, set_be, List.map_cons, List.map_nil, hoA, c2A] <;> rfl))) trivial trivial ?_
        refine dh_ro (fun M_ hM_ => (ro_call (evL_cons (up_m rfl up_h) (evL_cons up_h evL_nil)) rfl ((firstUnclear_good (movL l x) hMl hMg L c u hv).mono (fun q h => show q = .tuple [.agg [mA a1, mA b1, mA d1, mA e1], mA ee] from h.trans (by rw [fcA_mov hr hv2.1 (by omega), unA_mov hr hv2.1 (by omega), hu, hE]))) y70_hcf19)) trivial ?_
        refine dh_ro (fun M_ hM_ => (ro_move up_h)) trivial ?_
        refine dh_ro (fun M_ hM_ => (ro_extract up_h rfl)) trivial ?_
        refine dh_ro (fun M_ hM_ => (ro_extract (up_m rfl up_h) rfl)) trivial ?_
        refine dh_nw (n_83 + 1) (fun M_ hM_ => (nw_alloc y70_az41 rfl)) trivial mon_83_1_104 rfl trivial ⟨.inl (by simp <;> omega), ⟨.inl (by simp <;> omega), trivial⟩⟩ (fun m_105 hm_105 => ?_)
        have mon_83_1_105 := m_set hm_105 mon_83_1_104
        simp only [pS, Value.cells, Nat.reduceAdd, jnE, beE, set_jn4, set_at, set_be, List.map_cons, List.map_nil, hoA, c2A] at mon_83_1_105
        have mon_83_105 := m_set_o hm_105 mon_83_104 (by omega)
        have mo9_105 := m_set_o hm_105 mo9_104 (by omega)
        have mo8_105 := m_set_o hm_105 mo8_104 (by omega)
        have mo7_105 := m_set_o hm_105 mo7_104 (by omega)
        have mo2_105 := m_set_o hm_105 mo2_104 (by omega)
        have mo1_105 := m_set_o hm_105 mo1_104 (by omega)
        have mo0_105 := m_set_o hm_105 mo0_104 (by omega)
        have ml_105 := m_set_l hm_105 ml_104
        clear hm_105 mon_83_104 mo9_104 mo8_104 mo7_104 mo2_104 mo1_104 mo0_104 mon_83_1_104
        refine dh_set (n_83 + 1) (fun M_ hM_ => (se_store up_h (u2 rfl up_h) rfl rfl (agr hM_ mon_83_1_105 (by simp)) y70_sz41 rfl (nle rfl))) trivial ⟨.inr (wt_one 8 7 (by kernel_rfl)), trivial⟩ ⟨.inl (by simp <;> omega), ⟨.inl (by simp <;> omega), ⟨.inr (wt_one 8 7 (by kernel_rfl)), trivial⟩⟩⟩ (fun m_106 hm_106 => ?_)
        have mon_83_1_106 := m_set hm_106 mon_83_1_105
        simp only [pS, Value.cells, Nat.reduceAdd, jnE, beE, set_jn4, set_at, set_be, List.map_cons, List.map_nil, hoA, c2A] at mon_83_1_106
        have mon_83_106 := m_set_o hm_106 mon_83_105 (by omega)
        have mo9_106 := m_set_o hm_106 mo9_105 (by omega)
        have mo8_106 := m_set_o hm_106 mo8_105 (by omega)
        have mo7_106 := m_set_o hm_106 mo7_105 (by omega)
        have mo2_106 := m_set_o hm_106 mo2_105 (by omega)
        have mo1_106 := m_set_o hm_106 mo1_105 (by omega)
        have mo0_106 := m_set_o hm_106 mo0_105 (by omega)
        have ml_106 := m_set_l hm_106 ml_105
        clear hm_106 mon_83_1_105 mon_83_105 mo9_105 mo8_105 mo7_105 mo2_105 mo1_105 mo0_105
        refine dh_nil rfl ?_
        refine ar (ro_assign (up_n (up_m rfl up_h))) rfl <| ae6 (up_m rfl (up_n (u8 rfl s3_103))) (up_m rfl (up_n (u8 rfl s7_103))) (up_m rfl (up_n (u8 rfl s17_103))) (up_m rfl (up_n (u8 rfl s18_103))) (up_m rfl (up_n up_h)) up_h ?_; clear s17_103 s18_103 s3_103 s4_103 s7_103; intro e_107 s3_107 s7_107 s17_107 s18_107 s19_107 s20_107
        refine then_n <| aw_seq <| at_ <| ar (ro_eq (ro_ld_ptr y70_ty26 rfl mo0_106 s3_107 (nle rfl)) (by simp only [pS, Value.cells, Nat.reduceAdd, jnE, beE, set_jn4, set_at, set_be, List.map_cons, List.map_nil, hoA, c2A] <;> rfl)) rfl ?_
        refine ar (ro_call (evL_cons up_h evL_nil) rfl (yCopy_ok l hl) y70_hcf18) rfl <| ar (ro_call (evL_cons up_h (evL_cons ev_c evL_nil)) rfl (limitsOf_good l hl hg 5000 (by decide)) y70_hcf24) rfl ?_
        refine ar (ro_move up_h) rfl <| ar (ro_extract up_h rfl) rfl <| ar (ro_extract (up_m rfl up_h) rfl) rfl <| ar (ro_assign (up_m rfl up_h)) rfl <| ar (ro_assign (up_m rfl up_h)) rfl <| ae7 (u8 rfl s7_107) (u8 rfl s17_107) (u8 rfl s18_107) (u8 rfl s19_107) (u8 rfl s20_107) (up_m rfl up_h) up_h ?_; clear s17_107 s18_107 s19_107 s20_107 s3_107 s7_107; intro e_108 s7_108 s17_108 s18_108 s19_108 s20_108 s21_108 s22_108
        refine then_n <| aw_seq <| at_ <| ar (ro_eq (ro_ld_ptr y70_ty26 rfl mo7_106 s7_108 (nle rfl)) (by simp only [pS, Value.cells, Nat.reduceAdd, jnE, beE, set_jn4, set_at, set_be, List.map_cons, List.map_nil, hoA, c2A] <;> rfl)) rfl ?_
        refine ar (ro_call (evL_cons up_h evL_nil) rfl (copyN_ok (movL l x) hMl rfl) y70_hcf18) rfl <| ar (ro_call (evL_cons up_h (evL_cons ev_c evL_nil)) rfl ((limitsOf_good (movL l x) hMl hMg 5000 (by decide)).mono (fun q h => show q = .tuple [.row 1 ((limL l 5000 (l.js.length - 2)).map iE), mA 0] from h.trans (by rw [hm2]))) y70_hcf24) rfl ?_
        refine ar (ro_move up_h) rfl <| ar (ro_extract up_h rfl) rfl <| ar (ro_extract (up_m rfl up_h) rfl) rfl <| ar (ro_assign (up_m rfl up_h)) rfl <| ar (ro_assign (up_m rfl up_h)) rfl <| ae8 (u8 rfl s17_108) (u8 rfl s18_108) (u8 rfl s19_108) (u8 rfl s20_108) (u8 rfl s21_108) (u8 rfl s22_108) (up_m rfl up_h) up_h ?_; clear s17_108 s18_108 s19_108 s20_108 s21_108 s22_108 s7_108; intro e_109 s17_109 s18_109 s19_109 s20_109 s21_109 s22_109 s23_109 s24_109
        refine then_n <| aw_seq <| at_ <| ar (ro_move s18_109) rfl <| ar (ro_move (up_m rfl s20_109)) rfl <| ar (ro_eql (up_m rfl up_h) up_h) rfl ?_
        refine ar (ro_move up_h) rfl <| al_case up_h (fun hb_110 hq_110 => ?_) (fun hb_110 hq_110 => ?_)
        ·replace hq_110 := bt hq_110
         refine al_ro' (ro_eq (ro_ld_ptr y70_ty41 rfl mon_83_106 (u4 rfl s17_109) (nle rfl)) (by simp only [pS, Value.cells, Nat.reduceAdd, jnE, beE, set_jn4, set_at, set_be, List.map_cons, List.map_nil, hoA, c2A] <;> rfl)) ⟨_, rfl, hb_110⟩ rfl ?_
         refine al_ro' (ro_eq (ro_ld_ptr y70_ty41 rfl mon_83_1_106 (up_m rfl (u4 rfl s19_109)) (nle rfl)) (by simp only [pS, Value.cells, Nat.reduceAdd, jnE, beE, set_jn4, set_at, set_be, List.map_cons, List.map_nil, hoA, c2A] <;> rfl)) ⟨_, rfl, (up_m rfl hb_110)⟩ rfl ?_
         refine al_ro' (ro_sqeql (up_m rfl up_h) up_h rfl rfl y70_gq41 y70_sq41 (by decide)) ⟨_, rfl, (u2 rfl hb_110)⟩ rfl ?_
         refine ar (ro_pickT (up_m rfl (u2 rfl hb_110)) up_h) rfl <| ar (ro_move up_h) rfl <| al_case up_h (fun hb_111 hq_111 => ?_) (fun hb_111 hq_111 => ?_)
         ·skip
          refine al_ro' (ro_move (up_m rfl (u8 rfl s22_109))) ⟨_, rfl, hb_111⟩ rfl ?_
          refine al_ro' (ro_eql up_h ev_c) ⟨_, rfl, (up_m rfl hb_111)⟩ rfl ?_
          refine ar (ro_pickT (u2 rfl hb_111) up_h) rfl <| ar (ro_move up_h) rfl <| al_case up_h (fun hb_112 hq_112 => ?_) (fun hb_112 hq_112 => ?_)
          ·replace hq_112 := bt hq_112
           refine al_ro' (ro_move (up_m rfl (u4 rfl (u8 rfl s24_109)))) ⟨_, rfl, hb_112⟩ rfl ?_
           refine al_ro' (ro_eql up_h ev_c) ⟨_, rfl, (up_m rfl hb_112)⟩ rfl ?_
           refine ar (ro_pickT (u2 rfl hb_112) up_h) rfl <| ar (ro_move up_h) rfl <| al_case up_h (fun hb_113 hq_113 => ?_) (fun hb_113 hq_113 => ?_)
           ·replace hq_113 := bt hq_113
            refine al_ro' (ro_move (up_m rfl (u16 rfl s21_109))) ⟨_, rfl, hb_113⟩ rfl ?_
            refine al_ro' (ro_move (u2 rfl (u16 rfl s23_109))) ⟨_, rfl, (up_m rfl hb_113)⟩ rfl ?_
            refine al_ro' (ro_call (evL_cons (up_m rfl up_h) (evL_cons up_h evL_nil)) rfl ((bIntsY_ok _ _ (by omega) (by omega)).mono (fun q h => show q = tbA true from h.trans (by simp))) y70_hcf26) ⟨_, rfl, (u2 rfl hb_113)⟩ rfl ?_
            refine ar (ro_pickT (up_m rfl (u2 rfl hb_113)) up_h) rfl <| ar (ro_assign up_h) rfl <| ae1 up_h ?_; clear hb_110 hb_111 hb_112 hb_113 s17_109 s18_109 s19_109 s20_109 s21_109 s22_109 s23_109 s24_109; intro e_114 s6_114
            refine then_n <| aw_ret <| ret1 (.inr rfl) (by kernel_rfl) (resV_tmp s6_114) (.ro _ rfl) ?_
            clear s6_114 mon_83_1_106 mon_83_106 mo9_106 mo8_106 mo7_106 mo2_106 mo1_106 mo0_106 ml_106
            first | rfl | (simp_all; done)
           · cases hq_113
          · cases hq_112
         · first | (simp at hq_111; done) | (exact absurd hq_111 hb) | (exact absurd (by simpa using hq_111) hb) | (exact absurd hq_111 hg) | (exact absurd hg hq_111) | (exact absurd hq_111 hv) | (exact absurd hv hq_111) | (exact absurd (by simpa using hq_111) hv)
        · replace hq_110 := bf hq_110; exfalso; omega
theorem lineStraight_ok (l : Lin) (L c u x y : Int) : FnOk Try.prog 9 [lnA l, vehA L c u, .agg [mA x, mA y]] (fun q => q = tbA true) := by
  cases hf : fewL l with
  | false => exact lineStraight_many l hf L c u x y
  | true =>
  by_cases hg : (linM l).2 = 0
  · by_cases hv : vehE L c u = 0
    · cases hq : posB l u with
      | false => exact lineStraight_far l hf hg L c u x y hv hq
      | true =>
      cases hx : withinB x (-40000) 40000 with
      | false => exact lineStraight_out l hf hg L c u x y hv hq hx
      | true =>
      cases hy : withinB y (-20) 20 with
      | false => exact lineStraight_out2 l hf hg L c u x y hv hq hx hy
      | true =>
      obtain ⟨a1, b1, d1, e1, hu⟩ : ∃ a1 b1 d1 e1, unA l L (fcA l L c u) = .agg [mA a1, mA b1, mA d1, mA e1] := by
        cases hA : fcA l L c u with
        | none => exact ⟨0, 0, 0, 0, rfl⟩
        | some r => exact ⟨r.1, r.2, _, _, rfl⟩
      exact lineStraight_in l hf hg L c u x y hv hq hx hy a1 b1 d1 e1 _ hu rfl
    · exact lineStraight_veh l hf hg L c u x y hv
  · exact lineStraight_bad l hf hg L c u x y
end Go.Proofs.Ytonjcljnpcmenaa

