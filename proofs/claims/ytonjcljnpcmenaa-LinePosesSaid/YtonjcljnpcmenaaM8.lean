/- Texts of this claim, one behind the other: lemmas for the statement. -/
import Derived.Test.YtonjcljnpcmenaaM7
import Derived.Test.YtonjcljnpcmenaaA25
import Derived.Test.YtonjcljnpcmenaaA26
/- Contracts of chapter 1: the places of all poses; whether a pose is clear. No conditions on a program. -/
namespace Go.Proofs.Ytonjcljnpcmenaa
open Go Go.RowKit Go.Proofs
set_option linter.unusedSimpArgs false
set_option linter.unusedVariables false
theorem y39_az124 : (Try.prog.info? 124).bind (·.zero) = some (.pointer none) := by kernel_rfl
theorem y39_az3 : (Try.prog.info? 3).bind (·.zero) = some (.int .i64 0) := by kernel_rfl
theorem y39_fl28_0 : FldIs Try.prog 28 0 0 false 1 := by unfold FldIs; kernel_rfl
theorem y39_fl28_1 : FldIs Try.prog 28 1 1 false 1 := by unfold FldIs; kernel_rfl
theorem y39_fl28_2 : FldIs Try.prog 28 2 2 false 1 := by unfold FldIs; kernel_rfl
theorem y39_fl39_0 : FldIs Try.prog 39 0 0 false 1 := by unfold FldIs; kernel_rfl
theorem y39_fl39_1 : FldIs Try.prog 39 1 1 false 1 := by unfold FldIs; kernel_rfl
theorem y39_hcf130 : ∀ args w, (callFunc 130 args).run Try.prog w = .ok (.enter 130 args) w := fun _ _ => by kernel_rfl
theorem y39_hcf71 : ∀ args w, (callFunc 71 args).run Try.prog w = .ok (.enter 71 args) w := fun _ _ => by kernel_rfl
theorem y39_hcf72 : ∀ args w, (callFunc 72 args).run Try.prog w = .ok (.enter 72 args) w := fun _ _ => by kernel_rfl
theorem y39_hcf73 : ∀ args w, (callFunc 73 args).run Try.prog w = .ok (.enter 73 args) w := fun _ _ => by kernel_rfl
theorem y39_hcf74 : ∀ args w, (callFunc 74 args).run Try.prog w = .ok (.enter 74 args) w := fun _ _ => by kernel_rfl
theorem y39_hcf98 : ∀ args w, (callFunc 98 args).run Try.prog w = .ok (.enter 98 args) w := fun _ _ => by kernel_rfl
theorem y39_sz124 : (Try.prog.info? 124).map (·.size) = some 1 := by kernel_rfl
theorem y39_sz3 : (Try.prog.info? 3).map (·.size) = some 1 := by kernel_rfl
theorem y39_ty124 : TyIs Try.prog 124 false 1 := ⟨by kernel_rfl, by kernel_rfl⟩
theorem y39_ty26 : TyIs Try.prog 26 true 4 := ⟨by kernel_rfl, by kernel_rfl⟩
theorem y39_ty28 : TyIs Try.prog 28 true 3 := ⟨by kernel_rfl, by kernel_rfl⟩
theorem y39_ty3 : TyIs Try.prog 3 false 1 := ⟨by kernel_rfl, by kernel_rfl⟩

/-- How many poses there are, their places. -/
def posN (l : Lin) (L s : Int) : Nat := ((plaP l.bs l.bs.length - L) / s + 1).toNat
def posY (l : Lin) (L s : Int) : List (List AV) := (List.range (posN l L s)).map fun (i : Nat) => [mA ((i : Int) * s)]
theorem posY_len {l : Lin} {L s : Int} : (posY l L s).length = posN l L s := by simp [posY]
theorem posY_one {l : Lin} {L s : Int} : ∀ y ∈ posY l L s, y.length = 1 := by
  intro y hy
  obtain ⟨_, _, rfl⟩ := List.mem_map.1 hy; rfl
theorem pos_lt {l : Lin} {L s : Int} (hs : 1 ≤ s) (k : Nat) : k < posN l L s ↔ (k : Int) * s + L ≤ plaP l.bs l.bs.length := by
  unfold posN
  have h : (k : Int) ≤ (plaP l.bs l.bs.length - L) / s ↔ (k : Int) * s ≤ plaP l.bs l.bs.length - L := Int.le_ediv_iff_mul_le (by omega)
  constructor
  · intro h1; have := h.1 (by omega); omega
  · intro h1; have := h.2 (by omega); omega
theorem posY_at {l : Lin} {L s : Int} {k i : Nat} (hk : k < posN l L s) (hi : i = k) : (posY l L s)[i]? = some [mA ((k : Int) * s)] := by
  subst hi
  simp [posY, hk]
theorem posY_of {l : Lin} {L s : Int} {i : Nat} {y : AV} (h : (posY l L s)[i]? = some [y]) : i < posN l L s ∧ y = mA ((i : Int) * s) := by
  unfold posY at h
  rw [List.getElem?_map] at h
  by_cases hi : i < posN l L s
  · rw [List.getElem?_range hi] at h
    simp at h
    exact ⟨hi, h.symm⟩
  · rw [List.getElem?_eq_none (by simp; omega)] at h; cases h
set_option maxRecDepth 100000 in
set_option maxHeartbeats 4000000 in
theorem poses1_gen (l : Lin) (h : Rgt l) (L c u : Int) (hL : 1000 ≤ L ∧ L ≤ 30000) (hu : 1 ≤ u ∧ u ≤ 30000) : GenOk Try.prog 134 [] [.ref [mA L, mA c, mA u], .ref [tkA l]] (posY l L u) := by
  refine gen_of (fn := Try.f134) 21 (by kernel_rfl) rfl (by kernel_rfl) (Nat.le_of_ble_eq_true rfl) (fun _ _ => ⟨.tuple #[], by kernel_rfl⟩) ?_
  intro lb_ e_0 hA
  have s0_0 : evA e_0 (.tmp 0) = _ := hA 0 _ rfl
  have s1_0 : evA e_0 (.tmp 1) = _ := hA 1 _ rfl
  have s2_0 : evA e_0 (.tmp 2) = _ := hA 2 _ rfl
  clear hA
  have hpb := h.pla (n := l.bs.length) (Nat.le_refl _)
  refine iw_seq <| iw_text ?_
  refine il_ro (fun _ => (ro_assign ev_c)) trivial rfl ?_
  refine il_end (fun e_1 he_1 => ?_)
  have s0_1 := ef 0 he_1 (up_m rfl s0_0)
  have s1_1 := ef 1 he_1 (up_m rfl s1_0)
  have s2_1 := ef 2 he_1 (up_m rfl s2_0)
  have s4_1 := ef 4 he_1 up_h
  clear he_1 s0_0 s1_0 s2_0
  refine theni_n <| iw_block <| iw_loop (S := (Int × Nat)) (fun s e b i => match s with | ⟨p, k⟩ => (evA e (.tmp 4) = .v (.int .i64 p)) ∧ (evA e (.tmp 0) = evA e_1 (.tmp 0)) ∧ (evA e (.tmp 1) = evA e_1 (.tmp 1)) ∧ (evA e (.tmp 2) = evA e_1 (.tmp 2)) ∧ (b = true) ∧ (i = k) ∧ ((p = (k : Int) * u ∧ 0 ≤ p ∧ p ≤ 1300000 ∧ k ≤ posN l L u))) (fun s => match s with | ⟨p, k⟩ => (1300000 - p).toNat) ⟨_, 0⟩ ⟨s4_1, rfl, rfl, rfl, rfl, (by rfl), ?_⟩ ?_
  · (exact ⟨by omega, by omega, by omega, by omega⟩)
  · rintro ⟨p, k⟩ e_2 _ i_2 ⟨s4_2, k0_2, k1_2, k2_2, rfl, hix, hinv⟩
    have s0_2 := k0_2.trans s0_1
    have s1_2 := k1_2.trans s1_1
    have s2_2 := k2_2.trans s2_1
    (obtain ⟨q1, q2, q3, q4⟩ := hinv)
    refine iw_seq <| iw_seq <| iw_draw 10 (by kernel_rfl) (by kernel_rfl) (by kernel_rfl) (by kernel_rfl) ?_
    refine dsi_ro' (fun _ => (ro_move s4_2)) trivial rfl ?_
    refine dsi_ro' (fun _ => (ro_eq (ro_fld_ref y39_fl28_0 rfl (up_m rfl s1_2)) (by simp only [pS, Value.cells, Nat.reduceAdd] <;> rfl))) trivial rfl ?_
    refine dsi_ro' (fun _ => (ro_eq (ro_ld_ref y39_ty3 rfl up_h (nle rfl)) (by simp only [pS, Value.cells, Nat.reduceAdd] <;> rfl))) trivial rfl ?_
    (refine dsi_ro' (fun _ => (ro_add' (u2 rfl up_h) up_h ?_)) trivial rfl ?_; · (unfold In64; omega))
    refine dsi_ro' (fun _ => (ro_eq (ro_ld_ref y39_ty124 rfl (u4 rfl s2_2) (nle rfl)) (by simp only [pS, Value.cells, Nat.reduceAdd] <;> rfl))) trivial rfl ?_
    refine dsi_ro' (fun _ => (ro_call (evL_cons up_h evL_nil) rfl (length_ok l h) y39_hcf98)) trivial rfl ?_
    refine dsi_ro' (fun _ => (ro_leq (u2 rfl up_h) up_h)) trivial rfl ?_
    refine dsi_ro' (fun _ => (ro_move up_h)) trivial rfl ?_
    refine dsi_case up_h (fun hb_3 hq_3 => ?_) (fun hb_3 hq_3 => ?_)
    ·replace hq_3 := bt hq_3
     refine dsi_ro' (fun _ => (ro_move (u8 rfl s0_2))) ⟨_, rfl, hb_3⟩ rfl ?_
     refine dsi_ro' (fun _ => (ro_move (up_m rfl (u8 rfl s4_2)))) ⟨_, rfl, (up_m rfl hb_3)⟩ rfl ?_
     refine dsi_nil ?_
     refine il_yield2 (up_m rfl up_h) (evL_cons up_h evL_nil) rfl ⟨_, rfl, (u2 rfl hb_3)⟩ rfl (by (rw [q1]; exact posY_at ((pos_lt hu.1 k).2 (by omega)) hix)) ?_ ?_
     ·
       refine il_ro (fun _ => (ro_pickT (up_m rfl (u2 rfl hb_3)) up_h)) trivial rfl ?_
       refine il_end (fun e_4 he_4 => ?_)
       have s0_4 := ef 0 he_4 (u4 rfl (u8 rfl s0_2))
       have s1_4 := ef 1 he_4 (u4 rfl (u8 rfl s1_2))
       have s2_4 := ef 2 he_4 (u4 rfl (u8 rfl s2_2))
       have s4_4 := ef 4 he_4 (u4 rfl (u8 rfl s4_2))
       have s16_4 := ef 16 he_4 up_h
       clear he_4 hb_3 s0_2 s1_2 s2_2 s4_2
       refine theni_n <| iw_true s16_4 ?_
       refine iw_skip <| theni_n <| iw_seq <| iw_block <| iw_skip <| blocki_n <| theni_n <| iw_text ?_
       refine il_ro (fun _ => (ro_move s4_4)) trivial rfl ?_
       refine il_ro (fun _ => (ro_eq (ro_fld_ref y39_fl28_2 rfl (up_m rfl s1_4)) (by simp only [pS, Value.cells, Nat.reduceAdd] <;> rfl))) trivial rfl ?_
       refine il_ro (fun _ => (ro_eq (ro_ld_ref y39_ty3 rfl up_h (nle rfl)) (by simp only [pS, Value.cells, Nat.reduceAdd] <;> rfl))) trivial rfl ?_
       (refine il_ro (fun _ => (ro_add' (u2 rfl up_h) up_h ?_)) trivial rfl ?_; · (unfold In64; omega))
       refine il_ro (fun _ => (ro_assign up_h)) trivial rfl ?_
       refine il_end (fun e_6 he_6 => ?_)
       have s0_6 := ef 0 he_6 (up_m rfl (u4 rfl s0_4))
       have s1_6 := ef 1 he_6 (up_m rfl (u4 rfl s1_4))
       have s2_6 := ef 2 he_6 (up_m rfl (u4 rfl s2_4))
       have s4_6 := ef 4 he_6 up_h
       clear he_6 s0_4 s16_4 s1_4 s2_4 s4_4
       refine theni_n <| ⟨⟨_, k + 1⟩, ⟨s4_6, (s0_6.trans s0_1.symm), (s1_6.trans s1_1.symm), (s2_6.trans s2_1.symm), rfl, (by (rw [hix])), ?_⟩, ?_⟩
       · (have hk := (pos_lt (l := l) (L := L) hu.1 k).2 (by omega); refine ⟨?_, by omega, by omega, by omega⟩; rw [q1]; show _ = ((k : Int) + 1) * u; rw [Int.add_mul, Int.one_mul])
       · ((try dsimp only); omega)
     ·
       refine il_ro (fun _ => (ro_pickT (up_m rfl (u2 rfl hb_3)) up_h)) trivial rfl ?_
       refine il_end (fun e_7 he_7 => ?_)
       have s0_7 := ef 0 he_7 (u4 rfl (u8 rfl s0_2))
       have s1_7 := ef 1 he_7 (u4 rfl (u8 rfl s1_2))
       have s2_7 := ef 2 he_7 (u4 rfl (u8 rfl s2_2))
       have s4_7 := ef 4 he_7 (u4 rfl (u8 rfl s4_2))
       have s16_7 := ef 16 he_7 up_h
       clear he_7 hb_3 s0_2 s1_2 s2_2 s4_2
       refine theni_n <| iw_false s16_7 ?_
       refine iw_exit <| theni_x <| theni_x <| blocki_hit ?_
       refine gen_n (fun hb_ => (by cases hb_))
    replace hq_3 := bf hq_3
    refine dsi_skip' ⟨_, rfl, .inl hb_3⟩ rfl ?_
    refine dsi_skip' ⟨_, rfl, .inl (up_m rfl hb_3)⟩ rfl ?_
    refine dsi_nil ?_
    refine il_skip ⟨_, rfl, .inl (u2 rfl hb_3)⟩ rfl ?_
    refine il_ro (fun _ => (ro_pickF (up_m rfl (u2 rfl hb_3)) ev_c)) trivial rfl ?_
    refine il_end (fun e_9 he_9 => ?_)
    have s0_9 := ef 0 he_9 (u4 rfl (u8 rfl s0_2))
    have s1_9 := ef 1 he_9 (u4 rfl (u8 rfl s1_2))
    have s2_9 := ef 2 he_9 (u4 rfl (u8 rfl s2_2))
    have s4_9 := ef 4 he_9 (u4 rfl (u8 rfl s4_2))
    have s16_9 := ef 16 he_9 up_h
    clear he_9 hb_3 s0_2 s1_2 s2_2 s4_2
    refine theni_n <| iw_false s16_9 ?_
    refine iw_exit <| theni_x <| theni_x <| blocki_hit ?_
    refine gen_n (fun hb_ => ?_)
    (rw [hix, posY_len]; have hn : ¬ k < posN l L u := (fun hh => by have := (pos_lt hu.1 k).1 hh; omega); omega)
set_option maxRecDepth 100000 in
set_option maxHeartbeats 4000000 in
theorem poses_ok (l : Lin) (L c u : Int) : FnOk Try.prog 79 [tkA l, vehA L c u] (fun q => q = .clo (.func 134) [] [.ref [mA L, mA c, mA u], .ref [tkA l]]) := by
  refine fnOk_of (fn := Try.f79) 6 (by kernel_rfl) rfl (by kernel_rfl) (Nat.le_of_ble_eq_true rfl) ?_
  intro e_0 m_0 hA hm_0
  have s0_0 : evA e_0 (.tmp 0) = _ := hA 0 _ rfl
  have s1_0 : evA e_0 (.tmp 1) = _ := hA 1 _ rfl
  have ml_0 : m_0.length = 0 := by rw [hm_0]; rfl
  clear hA hm_0
  refine aw_seq <| at_ <| al_stm (st_box s0_0 rfl ml_0) trivial rfl (fun m_1 hm_1 => ?_)
  have mo0_1 := m_push hm_1 ml_0
  (first | (simp only [pS, Value.cells, Nat.reduceAdd] at mo0_1; trace "W2.N.1.1") | skip)
  have ml_1 := m_push_l hm_1 ml_0
  have ml_1 : _ = 1 := ml_1
  clear hm_1
  refine al_stm (st_box (up_m rfl s1_0) rfl ml_1) trivial rfl (fun m_2 hm_2 => ?_)
  have mo1_2 := m_push hm_2 ml_1
  (first | (simp only [pS, Value.cells, Nat.reduceAdd] at mo1_2; trace "W2.N.2.1") | skip)
  have mo0_2 := m_push_o hm_2 mo0_1
  have ml_2 := m_push_l hm_2 ml_1
  have ml_2 : _ = 2 := ml_2
  clear hm_2 mo0_1
  refine ar (ro_assign ev_c) rfl <| ae2 (u2 rfl up_h) (up_m rfl up_h) ?_; clear s0_0 s1_0; intro e_3 s2_3 s3_3
  refine then_n <| aw_seq <| at_ <| ar (ro_makeFunc evL_nil (evL_cons s3_3 (evL_cons s2_3 evL_nil))) rfl <| ar (ro_assign up_h) rfl <| ae1 up_h ?_; clear s2_3 s3_3; intro e_4 s4_4
  refine then_n <| aw_ret <| ret1 (.inr rfl) (by kernel_rfl) (resV_tmp s4_4) (vw_clo vwl_nil (vwl_cons (vw_ptr mo1_2 (vwl_cons (.ro _ rfl) (vwl_cons (.ro _ rfl) (vwl_cons (.ro _ rfl) vwl_nil)))) (vwl_cons (vw_ptr mo0_2 (vwl_cons (.ro _ rfl) vwl_nil)) vwl_nil))) ?_
  clear s4_4 mo1_2 mo0_2 ml_2
  rfl
/-- Whether a deviation is clear: 2 yes, 1 maybe, 0 no. -/
def ansV (c lo hi : Int) : Int := if -c ≤ lo ∧ hi ≤ c then 2 else if hi < -c ∨ c < lo then 0 else 1
set_option maxRecDepth 100000 in
set_option maxHeartbeats 4000000 in
theorem answer_ok (L c u lo hi : Int) (hc : 0 ≤ c ∧ c ≤ 1000) : FnOk Try.prog 73 [vehA L c u, .agg [mA lo, mA hi]] (fun q => q = mA (ansV c lo hi)) := by
  refine fnOk_of (fn := Try.f73) 31 (by kernel_rfl) rfl (by kernel_rfl) (Nat.le_of_ble_eq_true rfl) ?_
  intro e_0 m_0 hA hm_0
  have s0_0 : evA e_0 (.tmp 0) = _ := hA 0 _ rfl
  have s1_0 : evA e_0 (.tmp 1) = _ := hA 1 _ rfl
  have ml_0 : m_0.length = 0 := by rw [hm_0]; rfl
  clear hA hm_0
  refine aw_seq <| at_ <| al_stm (st_box s0_0 rfl ml_0) trivial rfl (fun m_1 hm_1 => ?_)
  have mo0_1 := m_push hm_1 ml_0
  have ml_1 := m_push_l hm_1 ml_0
  have ml_1 : _ = 1 := ml_1
  clear hm_1
  refine al_stm (st_box (up_m rfl s1_0) rfl ml_1) trivial rfl (fun m_2 hm_2 => ?_)
  have mo1_2 := m_push hm_2 ml_1
  have mo0_2 := m_push_o hm_2 mo0_1
  have ml_2 := m_push_l hm_2 ml_1
  have ml_2 : _ = 2 := ml_2
  clear hm_2 mo0_1
  refine ar (ro_assign ev_c) rfl <| ae2 (u2 rfl up_h) (up_m rfl up_h) ?_; clear s0_0 s1_0; intro e_3 s2_3 s3_3
  refine then_n <| aw_seq <| aw_block <| aw_seq <| at_ <| ar (ro_fld_ptr y39_fl39_0 rfl s3_3) rfl <| ar (ro_eq (ro_ld_ptr y39_ty3 rfl mo1_2 up_h (nle rfl)) (by simp only [pS, Value.cells, Nat.reduceAdd] <;> rfl)) rfl ?_
  refine ar (ro_fld_ptr y39_fl28_1 rfl (u2 rfl s2_3)) rfl <| ar (ro_eq (ro_ld_ptr y39_ty3 rfl mo0_2 up_h (nle rfl)) (by simp only [pS, Value.cells, Nat.reduceAdd] <;> rfl)) rfl ?_
  (refine ar (ro_neg' up_h ?_) rfl ?_; · (unfold In64; omega))
  refine ar (ro_geq (up_m rfl (u2 rfl up_h)) up_h) rfl <| ar (ro_move up_h) rfl <| al_case up_h (fun hb_4 hq_4 => ?_) (fun hb_4 hq_4 => ?_)
  ·replace hq_4 := bt hq_4
   refine al_ro' (ro_fld_ptr y39_fl39_1 rfl (up_m rfl (u2 rfl (u4 rfl s3_3)))) ⟨_, rfl, hb_4⟩ rfl ?_
   refine al_ro' (ro_eq (ro_ld_ptr y39_ty3 rfl mo1_2 up_h (nle rfl)) (by simp only [pS, Value.cells, Nat.reduceAdd] <;> rfl)) ⟨_, rfl, (up_m rfl hb_4)⟩ rfl ?_
   refine al_ro' (ro_fld_ptr y39_fl28_1 rfl (up_m rfl (u8 rfl s2_3))) ⟨_, rfl, (u2 rfl hb_4)⟩ rfl ?_
   refine al_ro' (ro_eq (ro_ld_ptr y39_ty3 rfl mo0_2 up_h (nle rfl)) (by simp only [pS, Value.cells, Nat.reduceAdd] <;> rfl)) ⟨_, rfl, (up_m rfl (u2 rfl hb_4))⟩ rfl ?_
   refine al_ro' (ro_leq (u2 rfl up_h) up_h) ⟨_, rfl, (u4 rfl hb_4)⟩ rfl ?_
   refine ar (ro_pickT (up_m rfl (u4 rfl hb_4)) up_h) rfl <| ar (ro_assign up_h) rfl <| ae3 (u2 rfl (u4 rfl (u8 rfl s2_3))) (u2 rfl (u4 rfl (u8 rfl s3_3))) up_h ?_; clear hb_4 s2_3 s3_3; intro e_5 s2_5 s3_5 s5_5
   refine then_n <| aw_case s5_5 (fun hq_6 => ?_) (fun hq_6 => ?_)
   ·replace hq_6 := bt hq_6
    refine aw_seq <| at_ <| ar (ro_assign ev_c) rfl <| ae1 up_h ?_; clear s2_5 s3_5 s5_5; intro e_7 s4_7
    refine then_n <| aw_ret <| block_r <| then_r <| ret1 (.inr rfl) (by kernel_rfl) (resV_tmp s4_7) (.ro _ rfl) ?_
    clear s4_7 mo1_2 mo0_2 ml_2
    (refine avj ?_; unfold ansV; (repeat' split) <;> first | rfl | omega)
   replace hq_6 := bf hq_6
   refine aw_seq <| aw_seq <| at_ <| ar (ro_fld_ptr y39_fl39_1 rfl s3_5) rfl <| ar (ro_eq (ro_ld_ptr y39_ty3 rfl mo1_2 up_h (nle rfl)) (by simp only [pS, Value.cells, Nat.reduceAdd] <;> rfl)) rfl ?_
   refine ar (ro_fld_ptr y39_fl28_1 rfl (u2 rfl s2_5)) rfl <| ar (ro_eq (ro_ld_ptr y39_ty3 rfl mo0_2 up_h (nle rfl)) (by simp only [pS, Value.cells, Nat.reduceAdd] <;> rfl)) rfl ?_
   (refine ar (ro_neg' up_h ?_) rfl ?_; · (unfold In64; omega))
   refine ar (ro_lss (up_m rfl (u2 rfl up_h)) up_h) rfl <| ar (ro_assign up_h) rfl <| ae3 (up_m rfl (u2 rfl (u4 rfl s2_5))) (up_m rfl (u2 rfl (u4 rfl s3_5))) up_h ?_; clear s2_5 s3_5 s5_5; intro e_8 s2_8 s3_8 s19_8
   refine then_n <| aw_case s19_8 (fun hq_9 => ?_) (fun hq_9 => ?_)
   · replace hq_9 := bt hq_9; exfalso; omega
   replace hq_9 := bf hq_9
   refine at_ <| ar (ro_fld_ptr y39_fl39_0 rfl s3_8) rfl <| ar (ro_eq (ro_ld_ptr y39_ty3 rfl mo1_2 up_h (nle rfl)) (by simp only [pS, Value.cells, Nat.reduceAdd] <;> rfl)) rfl ?_
   refine ar (ro_fld_ptr y39_fl28_1 rfl (u2 rfl s2_8)) rfl <| ar (ro_eq (ro_ld_ptr y39_ty3 rfl mo0_2 up_h (nle rfl)) (by simp only [pS, Value.cells, Nat.reduceAdd] <;> rfl)) rfl ?_
   refine ar (ro_gtr (u2 rfl up_h) up_h) rfl <| ar (ro_assign up_h) rfl <| ae1 up_h ?_; clear s19_8 s2_8 s3_8; intro e_13 s19_13
   refine then_n <| aw_case s19_13 (fun hq_14 => ?_) (fun hq_14 => ?_)
   ·replace hq_14 := bt hq_14
    refine aw_seq <| at_ <| ar (ro_assign ev_c) rfl <| ae1 up_h ?_; clear s19_13; intro e_15 s4_15
    refine then_n <| aw_ret <| block_r <| then_r <| ret1 (.inr rfl) (by kernel_rfl) (resV_tmp s4_15) (.ro _ rfl) ?_
    clear s4_15 mo1_2 mo0_2 ml_2
    (refine avj ?_; unfold ansV; (repeat' split) <;> first | rfl | omega)
   replace hq_14 := bf hq_14
   refine aw_skip <| block_n <| then_n <| aw_seq <| at_ <| ar (ro_assign ev_c) rfl <| ae1 up_h ?_; clear s19_13; intro e_16 s4_16
   refine then_n <| aw_ret <| ret1 (.inr rfl) (by kernel_rfl) (resV_tmp s4_16) (.ro _ rfl) ?_
   clear s4_16 mo1_2 mo0_2 ml_2
   (refine avj ?_; unfold ansV; (repeat' split) <;> first | rfl | omega)
  replace hq_4 := bf hq_4
  refine al_skip' ⟨_, rfl, .inl hb_4⟩ rfl ?_
  refine al_skip' ⟨_, rfl, .inl (up_m rfl hb_4)⟩ rfl ?_
  refine al_skip' ⟨_, rfl, .inl (u2 rfl hb_4)⟩ rfl ?_
  refine al_skip' ⟨_, rfl, .inl (up_m rfl (u2 rfl hb_4))⟩ rfl ?_
  refine al_skip' ⟨_, rfl, .inl (u4 rfl hb_4)⟩ rfl ?_
  refine ar (ro_pickF (up_m rfl (u4 rfl hb_4)) ev_c) rfl <| ar (ro_assign up_h) rfl <| ae3 (u2 rfl (u4 rfl (u8 rfl s2_3))) (u2 rfl (u4 rfl (u8 rfl s3_3))) up_h ?_; clear hb_4 s2_3 s3_3; intro e_17 s2_17 s3_17 s5_17
  refine then_n <| aw_false s5_17 <| aw_seq <| aw_seq <| at_ <| ar (ro_fld_ptr y39_fl39_1 rfl s3_17) rfl <| ar (ro_eq (ro_ld_ptr y39_ty3 rfl mo1_2 up_h (nle rfl)) (by simp only [pS, Value.cells, Nat.reduceAdd] <;> rfl)) rfl ?_
  refine ar (ro_fld_ptr y39_fl28_1 rfl (u2 rfl s2_17)) rfl <| ar (ro_eq (ro_ld_ptr y39_ty3 rfl mo0_2 up_h (nle rfl)) (by simp only [pS, Value.cells, Nat.reduceAdd] <;> rfl)) rfl ?_
  (refine ar (ro_neg' up_h ?_) rfl ?_; · (unfold In64; omega))
  refine ar (ro_lss (up_m rfl (u2 rfl up_h)) up_h) rfl <| ar (ro_assign up_h) rfl <| ae3 (up_m rfl (u2 rfl (u4 rfl s2_17))) (up_m rfl (u2 rfl (u4 rfl s3_17))) up_h ?_; clear s2_17 s3_17 s5_17; intro e_19 s2_19 s3_19 s19_19
  refine then_n <| aw_case s19_19 (fun hq_20 => ?_) (fun hq_20 => ?_)
  ·replace hq_20 := bt hq_20
   refine aw_skip <| then_n <| aw_case s19_19 (fun hq_21 => ?_) (fun hq_21 => ?_)
   ·replace hq_21 := bt hq_21
    refine aw_seq <| at_ <| ar (ro_assign ev_c) rfl <| ae1 up_h ?_; clear s19_19 s2_19 s3_19; intro e_22 s4_22
    refine then_n <| aw_ret <| block_r <| then_r <| ret1 (.inr rfl) (by kernel_rfl) (resV_tmp s4_22) (.ro _ rfl) ?_
    clear s4_22 mo1_2 mo0_2 ml_2
    (refine avj ?_; unfold ansV; (repeat' split) <;> first | rfl | omega)
   · replace hq_21 := bf hq_21; exfalso; omega
  replace hq_20 := bf hq_20
  refine at_ <| ar (ro_fld_ptr y39_fl39_0 rfl s3_19) rfl <| ar (ro_eq (ro_ld_ptr y39_ty3 rfl mo1_2 up_h (nle rfl)) (by simp only [pS, Value.cells, Nat.reduceAdd] <;> rfl)) rfl ?_
  refine ar (ro_fld_ptr y39_fl28_1 rfl (u2 rfl s2_19)) rfl <| ar (ro_eq (ro_ld_ptr y39_ty3 rfl mo0_2 up_h (nle rfl)) (by simp only [pS, Value.cells, Nat.reduceAdd] <;> rfl)) rfl ?_
  refine ar (ro_gtr (u2 rfl up_h) up_h) rfl <| ar (ro_assign up_h) rfl <| ae1 up_h ?_; clear s19_19 s2_19 s3_19; intro e_24 s19_24
  refine then_n <| aw_case s19_24 (fun hq_25 => ?_) (fun hq_25 => ?_)
  · replace hq_25 := bt hq_25; exfalso; omega
  replace hq_25 := bf hq_25
  refine aw_skip <| block_n <| then_n <| aw_seq <| at_ <| ar (ro_assign ev_c) rfl <| ae1 up_h ?_; clear s19_24; intro e_27 s4_27
  refine then_n <| aw_ret <| ret1 (.inr rfl) (by kernel_rfl) (resV_tmp s4_27) (.ro _ rfl) ?_
  clear s4_27 mo1_2 mo0_2 ml_2
  (refine avj ?_; unfold ansV; (repeat' split) <;> first | rfl | omega)
set_option maxRecDepth 100000 in
set_option maxHeartbeats 4000000 in
theorem inside0_ok (L c u lo hi : Int) (hc : 0 ≤ c ∧ c ≤ 1000) : FnOk Try.prog 82 [vehA L c u, .agg [mA lo, mA hi]] (fun q => q = tbA (decide (-c ≤ lo ∧ hi ≤ c))) := by
  refine fnOk_of (fn := Try.f82) 18 (by kernel_rfl) rfl (by kernel_rfl) (Nat.le_of_ble_eq_true rfl) ?_
  intro e_0 m_0 hA hm_0
  have s0_0 : evA e_0 (.tmp 0) = _ := hA 0 _ rfl
  have s1_0 : evA e_0 (.tmp 1) = _ := hA 1 _ rfl
  have ml_0 : m_0.length = 0 := by rw [hm_0]; rfl
  clear hA hm_0
  refine aw_seq <| at_ <| al_stm (st_box s0_0 rfl ml_0) trivial rfl (fun m_1 hm_1 => ?_)
  have mo0_1 := m_push hm_1 ml_0
  have ml_1 := m_push_l hm_1 ml_0
  have ml_1 : _ = 1 := ml_1
  clear hm_1
  refine al_stm (st_box (up_m rfl s1_0) rfl ml_1) trivial rfl (fun m_2 hm_2 => ?_)
  have mo1_2 := m_push hm_2 ml_1
  have mo0_2 := m_push_o hm_2 mo0_1
  have ml_2 := m_push_l hm_2 ml_1
  have ml_2 : _ = 2 := ml_2
  clear hm_2 mo0_1
  refine ar (ro_assign ev_c) rfl <| ae2 (u2 rfl up_h) (up_m rfl up_h) ?_; clear s0_0 s1_0; intro e_3 s2_3 s3_3
  refine then_n <| aw_seq <| at_ <| ar (ro_fld_ptr y39_fl28_1 rfl s2_3) rfl <| ar (ro_eq (ro_ld_ptr y39_ty3 rfl mo0_2 up_h (nle rfl)) (by simp only [pS, Value.cells, Nat.reduceAdd] <;> rfl)) rfl ?_
  (refine ar (ro_neg' up_h ?_) rfl ?_; · (unfold In64; omega))
  refine ar (ro_fld_ptr y39_fl39_0 rfl (up_m rfl (u2 rfl s3_3))) rfl <| ar (ro_eq (ro_ld_ptr y39_ty3 rfl mo1_2 up_h (nle rfl)) (by simp only [pS, Value.cells, Nat.reduceAdd] <;> rfl)) rfl ?_
  refine ar (ro_leq (u2 rfl up_h) up_h) rfl <| ar (ro_move up_h) rfl <| al_case up_h (fun hb_4 hq_4 => ?_) (fun hb_4 hq_4 => ?_)
  ·replace hq_4 := bt hq_4
   refine al_ro' (ro_fld_ptr y39_fl39_1 rfl (up_m rfl (u2 rfl (u4 rfl s3_3)))) ⟨_, rfl, hb_4⟩ rfl ?_
   refine al_ro' (ro_eq (ro_ld_ptr y39_ty3 rfl mo1_2 up_h (nle rfl)) (by simp only [pS, Value.cells, Nat.reduceAdd] <;> rfl)) ⟨_, rfl, (up_m rfl hb_4)⟩ rfl ?_
   refine al_ro' (ro_fld_ptr y39_fl28_1 rfl (up_m rfl (u8 rfl s2_3))) ⟨_, rfl, (u2 rfl hb_4)⟩ rfl ?_
   refine al_ro' (ro_eq (ro_ld_ptr y39_ty3 rfl mo0_2 up_h (nle rfl)) (by simp only [pS, Value.cells, Nat.reduceAdd] <;> rfl)) ⟨_, rfl, (up_m rfl (u2 rfl hb_4))⟩ rfl ?_
   refine al_ro' (ro_leq (u2 rfl up_h) up_h) ⟨_, rfl, (u4 rfl hb_4)⟩ rfl ?_
   refine ar (ro_pickT (up_m rfl (u4 rfl hb_4)) up_h) rfl <| ar (ro_assign up_h) rfl <| ae1 up_h ?_; clear hb_4 s2_3 s3_3; intro e_5 s4_5
   refine then_n <| aw_ret <| ret1 (.inr rfl) (by kernel_rfl) (resV_tmp s4_5) (.ro _ rfl) ?_
   clear s4_5 mo1_2 mo0_2 ml_2
   (refine avb ?_; simp only [decide_eq_true_eq, Bool.false_eq_true, true_iff, false_iff]; omega)
  replace hq_4 := bf hq_4
  refine al_skip' ⟨_, rfl, .inl hb_4⟩ rfl ?_
  refine al_skip' ⟨_, rfl, .inl (up_m rfl hb_4)⟩ rfl ?_
  refine al_skip' ⟨_, rfl, .inl (u2 rfl hb_4)⟩ rfl ?_
  refine al_skip' ⟨_, rfl, .inl (up_m rfl (u2 rfl hb_4))⟩ rfl ?_
  refine al_skip' ⟨_, rfl, .inl (u4 rfl hb_4)⟩ rfl ?_
  refine ar (ro_pickF (up_m rfl (u4 rfl hb_4)) ev_c) rfl <| ar (ro_assign up_h) rfl <| ae1 up_h ?_; clear hb_4 s2_3 s3_3; intro e_6 s4_6
  refine then_n <| aw_ret <| ret1 (.inr rfl) (by kernel_rfl) (resV_tmp s4_6) (.ro _ rfl) ?_
  clear s4_6 mo1_2 mo0_2 ml_2
  (refine avb ?_; simp only [decide_eq_true_eq, Bool.false_eq_true, true_iff, false_iff]; omega)
/-- The worst answer at the first joints beneath a pose. -/
def worL (l : Lin) (L c p : Int) : List Nat → Int := List.foldl (fun w n => min w (ansV c (devLo l L p n) (devHi l L p n))) 2
theorem worL_next {l : Lin} {L c p : Int} {js : List Nat} {i n : Nat} (h : js[i]? = some n) : worL l L c p (js.take (i + 1)) = min (worL l L c p (js.take i)) (ansV c (devLo l L p n) (devHi l L p n)) := by
  unfold worL
  rw [List.take_add_one, h]
  simp [List.foldl_append]
theorem ben_pos {l : Lin} {L p : Int} {n : Nat} (hL : 1000 ≤ L ∧ L ≤ 30000) (hp : 0 ≤ p ∧ p + L ≤ plaP l.bs l.bs.length) (n1 : n < l.js.length) (n2 : p < plaP l.bs n) (n3 : plaP l.bs n < p + L) : Pos l L p n := ⟨by omega, by omega, by omega, by omega, by omega, by omega, n1⟩
set_option maxRecDepth 100000 in
set_option maxHeartbeats 4000000 in
theorem clearAt_good (l : Lin) (hl : Sho l) (hg : (linM l).2 = 0) (L c u p : Int) (hv : vehE L c u = 0) (hp : posE l L u p = 0) : FnOk Try.prog 17 [lnA l, vehA L c u, mA p] (fun q => q = .tuple [mA (worL l L c p (benL l L p)), mA 0]) := by
  refine fnOk_of (fn := Try.f17) 37 (by kernel_rfl) rfl (by kernel_rfl) (Nat.le_of_ble_eq_true rfl) ?_
  intro e_0 m_0 hA hm_0
  have s0_0 : evA e_0 (.tmp 0) = _ := hA 0 _ rfl
  have s1_0 : evA e_0 (.tmp 1) = _ := hA 1 _ rfl
  have s2_0 : evA e_0 (.tmp 2) = _ := hA 2 _ rfl
  have ml_0 : m_0.length = 0 := by rw [hm_0]; rfl
  clear hA hm_0
  have h := rgt_of hg; have hv2 := vehE_z.1 hv; have hp2 := posE_z.1 hp; have hpb := h.pla (n := l.bs.length) (Nat.le_refl _)
  refine aw_seq <| at_ <| al_stm (st_box s0_0 rfl ml_0) trivial rfl (fun m_1 hm_1 => ?_)
  have mo0_1 := m_push hm_1 ml_0
  have ml_1 := m_push_l hm_1 ml_0
  have ml_1 : _ = 1 := ml_1
  clear hm_1
  refine al_stm (st_box (up_m rfl s1_0) rfl ml_1) trivial rfl (fun m_2 hm_2 => ?_)
  have mo1_2 := m_push hm_2 ml_1
  have mo0_2 := m_push_o hm_2 mo0_1
  have ml_2 := m_push_l hm_2 ml_1
  have ml_2 : _ = 2 := ml_2
  clear hm_2 mo0_1
  refine al_stm (st_box (u2 rfl s2_0) rfl ml_2) trivial rfl (fun m_3 hm_3 => ?_)
  have mo2_3 := m_push hm_3 ml_2
  have mo1_3 := m_push_o hm_3 mo1_2
  have mo0_3 := m_push_o hm_3 mo0_2
  have ml_3 := m_push_l hm_3 ml_2
  have ml_3 : _ = 3 := ml_3
  clear hm_3 mo1_2 mo0_2
  refine ar (ro_assign ev_c) rfl <| ar (ro_assign ev_c) rfl <| ae3 (u4 rfl up_h) (up_m rfl (u2 rfl up_h)) (u2 rfl up_h) ?_; clear s0_0 s1_0 s2_0; intro e_4 s3_4 s4_4 s5_4
  refine then_n <| aw_seq <| at_ <| ar (ro_eq (ro_ld_ptr y39_ty26 rfl mo0_3 s3_4 (nle rfl)) (by simp only [pS, Value.cells, Nat.reduceAdd] <;> rfl)) rfl ?_
  refine ar (ro_eq (ro_ld_ptr y39_ty28 rfl mo1_3 (up_m rfl s4_4) (nle rfl)) (by simp only [pS, Value.cells, Nat.reduceAdd] <;> rfl)) rfl ?_
  refine ar (ro_eq (ro_ld_ptr y39_ty3 rfl mo2_3 (u2 rfl s5_4) (nle rfl)) (by simp only [pS, Value.cells, Nat.reduceAdd] <;> rfl)) rfl ?_
  refine ar (ro_call (evL_cons (u2 rfl up_h) (evL_cons (up_m rfl up_h) (evL_cons up_h evL_nil))) rfl (openPose_good l hl hg L c u p hv) y39_hcf71) rfl <| ar (ro_move up_h) rfl <| ar (ro_extract up_h rfl) rfl <| ar (ro_extract (up_m rfl up_h) rfl) rfl <| al_stm (st_alloc y39_az124 rfl ml_3) trivial rfl (fun m_5 hm_5 => ?_)
  have mo3_5 := m_push hm_5 ml_3
  simp only [pS, Value.cells, Nat.reduceAdd] at mo3_5
  have mo2_5 := m_push_o hm_5 mo2_3
  have mo1_5 := m_push_o hm_5 mo1_3
  have mo0_5 := m_push_o hm_5 mo0_3
  have ml_5 := m_push_l hm_5 ml_3
  have ml_5 : _ = 4 := ml_5
  clear hm_5 mo2_3 mo1_3 mo0_3
  refine al_stm (st_store up_h (u2 rfl up_h) rfl rfl mo3_5 y39_sz124 rfl (nle rfl)) trivial rfl (fun m_6 hm_6 => ?_)
  have mo3_6 := m_set hm_6 mo3_5
  simp only [pS, Value.cells, Nat.reduceAdd] at mo3_6
  have mo2_6 := m_set_o hm_6 mo2_5 (by decide)
  have mo1_6 := m_set_o hm_6 mo1_5 (by decide)
  have mo0_6 := m_set_o hm_6 mo0_5 (by decide)
  have ml_6 := m_set_l hm_6 ml_5
  clear hm_6 mo3_5 mo2_5 mo1_5 mo0_5
  refine ar (ro_assign (up_n (up_m rfl up_h))) rfl <| ae4 (up_m rfl (up_n (u8 rfl s4_4))) (up_m rfl (up_n (u8 rfl s5_4))) (up_m rfl (up_n up_h)) up_h ?_; clear s3_4 s4_4 s5_4; intro e_7 s4_7 s5_7 s8_7 s9_7
  refine then_n <| aw_seq <| aw_seq <| at_ <| ar (ro_move s9_7) rfl <| ar (ro_neq up_h ev_c) rfl <| ae5 (u2 rfl s4_7) (u2 rfl s5_7) (u2 rfl s8_7) (u2 rfl s9_7) up_h ?_; clear s4_7 s5_7 s8_7 s9_7; intro e_8 s4_8 s5_8 s8_8 s9_8 s20_8
  refine then_n <| aw_case s20_8 (fun hq_9 => ?_) (fun hq_9 => ?_)
  · replace hq_9 := bnt hq_9; exfalso; omega
  replace hq_9 := bnf hq_9
  refine aw_skip <| then_n <| aw_seq <| at_ <| al_stm (st_alloc y39_az3 rfl ml_6) trivial rfl (fun m_10 hm_10 => ?_)
  have mo4_10 := m_push hm_10 ml_6
  simp only [pS, Value.cells, Nat.reduceAdd] at mo4_10
  have mo3_10 := m_push_o hm_10 mo3_6
  have mo2_10 := m_push_o hm_10 mo2_6
  have mo1_10 := m_push_o hm_10 mo1_6
  have mo0_10 := m_push_o hm_10 mo0_6
  have ml_10 := m_push_l hm_10 ml_6
  have ml_10 : _ = 5 := ml_10
  clear hm_10 mo3_6 mo2_6 mo1_6 mo0_6
  refine al_stm (st_store up_h ev_c rfl rfl mo4_10 y39_sz3 rfl (nle rfl)) trivial rfl (fun m_11 hm_11 => ?_)
  have mo4_11 := m_set hm_11 mo4_10
  simp only [pS, Value.cells, Nat.reduceAdd] at mo4_11
  have mo3_11 := m_set_o hm_11 mo3_10 (by decide)
  have mo2_11 := m_set_o hm_11 mo2_10 (by decide)
  have mo1_11 := m_set_o hm_11 mo1_10 (by decide)
  have mo0_11 := m_set_o hm_11 mo0_10 (by decide)
  have ml_11 := m_set_l hm_11 ml_10
  clear hm_11 mo4_10 mo3_10 mo2_10 mo1_10 mo0_10
  refine ae4 (up_n (up_m rfl s4_8)) (up_n (up_m rfl s5_8)) (up_n (up_m rfl s8_8)) (up_n up_h) ?_; clear s20_8 s4_8 s5_8 s8_8 s9_8; intro e_12 s4_12 s5_12 s8_12 s10_12
  refine then_n <| aw_seq <| aw_seq <| at_ <| ar (ro_eq (ro_ld_ptr y39_ty124 rfl mo3_11 s8_12 (nle rfl)) (by simp only [pS, Value.cells, Nat.reduceAdd] <;> rfl)) rfl ?_
  refine ar (ro_eq (ro_ld_ptr y39_ty28 rfl mo1_11 (up_m rfl s4_12) (nle rfl)) (by simp only [pS, Value.cells, Nat.reduceAdd] <;> rfl)) rfl ?_
  refine ar (ro_eq (ro_ld_ptr y39_ty3 rfl mo2_11 (u2 rfl s5_12) (nle rfl)) (by simp only [pS, Value.cells, Nat.reduceAdd] <;> rfl)) rfl ?_
  refine ar (ro_call (evL_cons (u2 rfl up_h) (evL_cons (up_m rfl up_h) (evL_cons up_h evL_nil))) rfl (beneath_ok l L c u p) y39_hcf72) rfl <| ae5 (u4 rfl s4_12) (u4 rfl s5_12) (u4 rfl s8_12) (u4 rfl s10_12) up_h ?_; clear s10_12 s4_12 s5_12 s8_12; intro e_13 s4_13 s5_13 s8_13 s10_13 s25_13
  refine then_n <| aw_block <| aw_range1 s25_13 (beneath1_gen l h L c u p hv2.1 (by omega)) y39_hcf130 (by exact benY_one) (Nat.le_of_ble_eq_true rfl) (fun i mem => ∃ s : Int, match s with | w => (mem[4]? = some (.box 3 [mA w])) ∧ (mem[3]? = m_11[3]?) ∧ (mem[2]? = m_11[2]?) ∧ (mem[1]? = m_11[1]?) ∧ (mem[0]? = m_11[0]?) ∧ (mem.length = 5) ∧ ((w = worL l L c p ((benL l L p).take i)))) ⟨_, mo4_11, rfl, rfl, rfl, rfl, ml_11, ?_⟩ ?_ ?_
  · rfl
  · rintro i_14 y0_14 m_14 hy_14 ⟨w, mo4_14, mk3_14, mk2_14, mk1_14, mk0_14, ml_14, hinv⟩
    (obtain ⟨n, hn, rfl, n1, n2, n3⟩ := benY_of hy_14; have hq : Pos l L p n := ben_pos hv2.1 (by omega) n1 n2 n3)
    have mo3_14 := mk3_14.trans mo3_11
    have mo2_14 := mk2_14.trans mo2_11
    have mo1_14 := mk1_14.trans mo1_11
    have mo0_14 := mk0_14.trans mo0_11
    refine aw_env (fun e_14 he_14 => ?_)
    have s4_14 := ef 4 he_14 (up_m rfl s4_13)
    have s5_14 := ef 5 he_14 (up_m rfl s5_13)
    have s8_14 := ef 8 he_14 (up_m rfl s8_13)
    have s10_14 := ef 10 he_14 (up_m rfl s10_13)
    have s25_14 := ef 25 he_14 (up_m rfl s25_13)
    have s26_14 := ef 26 he_14 up_h
    clear he_14
    refine at_ <| ar (ro_assign s26_14) rfl <| ae5 (up_m rfl s4_14) (up_m rfl s5_14) (up_m rfl s8_14) (up_m rfl s10_14) up_h ?_; clear s10_14 s25_14 s26_14 s4_14 s5_14 s8_14; intro e_15 s4_15 s5_15 s8_15 s10_15 s11_15
    refine fallb_n ?_
    refine aw_block <| aw_draw 9 (by kernel_rfl) (by kernel_rfl) (by kernel_rfl) (by kernel_rfl) ?_
    refine dr (ro_eq (ro_ld_ptr y39_ty3 rfl mo4_14 s10_15 (nle rfl)) (by simp only [pS, Value.cells, Nat.reduceAdd] <;> rfl)) rfl ?_
    refine dr (ro_eq (ro_ld_ptr y39_ty28 rfl mo1_14 (up_m rfl s4_15) (nle rfl)) (by simp only [pS, Value.cells, Nat.reduceAdd] <;> rfl)) rfl ?_
    refine dr (ro_eq (ro_ld_ptr y39_ty124 rfl mo3_14 (u2 rfl s8_15) (nle rfl)) (by simp only [pS, Value.cells, Nat.reduceAdd] <;> rfl)) rfl ?_
    refine dr (ro_eq (ro_ld_ptr y39_ty28 rfl mo1_14 (up_m rfl (u2 rfl s4_15)) (nle rfl)) (by simp only [pS, Value.cells, Nat.reduceAdd] <;> rfl)) rfl ?_
    refine dr (ro_eq (ro_ld_ptr y39_ty3 rfl mo2_14 (u4 rfl s5_15) (nle rfl)) (by simp only [pS, Value.cells, Nat.reduceAdd] <;> rfl)) rfl ?_
    refine dr (ro_move (up_m rfl (u4 rfl s11_15))) rfl <| dr (ro_call (evL_cons (up_m rfl (u2 rfl up_h)) (evL_cons (u2 rfl up_h) (evL_cons (up_m rfl up_h) (evL_cons up_h evL_nil)))) rfl (deviation_ok l h L c u p n hq) y39_hcf74) rfl <| dr (ro_call (evL_cons (up_m rfl (u4 rfl up_h)) (evL_cons up_h evL_nil)) rfl (answer_ok L c u _ _ hv2.2.1) y39_hcf73) rfl <| dr (ro_min (up_m rfl (u2 rfl (u4 rfl up_h))) up_h) rfl <| ds_nil <| al_stm (st_store (up_m rfl (u8 rfl s10_15)) up_h rfl rfl mo4_14 y39_sz3 rfl (nle rfl)) trivial rfl (fun m_16 hm_16 => ?_)
    have mo4_16 := m_set hm_16 mo4_14
    simp only [pS, Value.cells, Nat.reduceAdd] at mo4_16
    have mo3_16 := m_set_o hm_16 mo3_14 (by decide)
    have mo2_16 := m_set_o hm_16 mo2_14 (by decide)
    have mo1_16 := m_set_o hm_16 mo1_14 (by decide)
    have mo0_16 := m_set_o hm_16 mo0_14 (by decide)
    have ml_16 := m_set_l hm_16 ml_14
    clear hm_16 mo4_14 mo3_14 mo2_14 mo1_14 mo0_14
    refine ae1 (up_n (up_m rfl (u8 rfl s10_15))) ?_; clear s10_15 s11_15 s4_15 s5_15 s8_15; intro e_17 s10_17
    refine block_n <| rnd_n ⟨_, mo4_16, (mo3_16.trans mo3_11.symm), (mo2_16.trans mo2_11.symm), (mo1_16.trans mo1_11.symm), (mo0_16.trans mo0_11.symm), ml_16, ?_⟩
    (rw [hinv, worL_next hn])
  · rintro m_14 ⟨w, mo4_14, mk3_14, mk2_14, mk1_14, mk0_14, ml_14, hinv⟩
    have mo3_14 := mk3_14.trans mo3_11
    have mo2_14 := mk2_14.trans mo2_11
    have mo1_14 := mk1_14.trans mo1_11
    have mo0_14 := mk0_14.trans mo0_11
    (rw [benY_len, List.take_length] at hinv)
    refine block_n <| then_n <| aw_seq <| at_ <| ar (ro_eq (ro_ld_ptr y39_ty3 rfl mo4_14 s10_13 (nle rfl)) (by simp only [pS, Value.cells, Nat.reduceAdd] <;> rfl)) rfl ?_
    refine ar (ro_assign up_h) rfl <| ar (ro_assign ev_c) rfl <| ae2 (up_m rfl up_h) up_h ?_; clear s10_13 s25_13 s4_13 s5_13 s8_13; intro e_18 s6_18 s7_18
    refine then_n <| aw_ret <| ret2 (.inr rfl) (by kernel_rfl) (resV_tmp s6_18) (resV_tmp s7_18) (.ro _ rfl) (.ro _ rfl) ?_
    clear s6_18 s7_18 mo4_14 mo3_14 mo2_14 mo1_14 mo0_14 ml_14
    (rw [hinv])
set_option maxRecDepth 100000 in
set_option maxHeartbeats 4000000 in
theorem clearAt_bad (l : Lin) (hl : Sho l) (hb : (linM l).2 ≠ 0) (L c u p : Int) : FnOk Try.prog 17 [lnA l, vehA L c u, mA p] (fun q => q = .tuple [mA 0, mA (linM l).2]) := by
  refine fnOk_of (fn := Try.f17) 37 (by kernel_rfl) rfl (by kernel_rfl) (Nat.le_of_ble_eq_true rfl) ?_
  intro e_0 m_0 hA hm_0
  have s0_0 : evA e_0 (.tmp 0) = _ := hA 0 _ rfl
  have s1_0 : evA e_0 (.tmp 1) = _ := hA 1 _ rfl
  have s2_0 : evA e_0 (.tmp 2) = _ := hA 2 _ rfl
  have ml_0 : m_0.length = 0 := by rw [hm_0]; rfl
  clear hA hm_0
  refine aw_seq <| at_ <| al_stm (st_box s0_0 rfl ml_0) trivial rfl (fun m_1 hm_1 => ?_)
  have mo0_1 := m_push hm_1 ml_0
  have ml_1 := m_push_l hm_1 ml_0
  have ml_1 : _ = 1 := ml_1
  clear hm_1
  refine al_stm (st_box (up_m rfl s1_0) rfl ml_1) trivial rfl (fun m_2 hm_2 => ?_)
  have mo1_2 := m_push hm_2 ml_1
  have mo0_2 := m_push_o hm_2 mo0_1
  have ml_2 := m_push_l hm_2 ml_1
  have ml_2 : _ = 2 := ml_2
  clear hm_2 mo0_1
  refine al_stm (st_box (u2 rfl s2_0) rfl ml_2) trivial rfl (fun m_3 hm_3 => ?_)
  have mo2_3 := m_push hm_3 ml_2
  have mo1_3 := m_push_o hm_3 mo1_2
  have mo0_3 := m_push_o hm_3 mo0_2
  have ml_3 := m_push_l hm_3 ml_2
  have ml_3 : _ = 3 := ml_3
  clear hm_3 mo1_2 mo0_2
  refine ar (ro_assign ev_c) rfl <| ar (ro_assign ev_c) rfl <| ae3 (u4 rfl up_h) (up_m rfl (u2 rfl up_h)) (u2 rfl up_h) ?_; clear s0_0 s1_0 s2_0; intro e_4 s3_4 s4_4 s5_4
  refine then_n <| aw_seq <| at_ <| ar (ro_eq (ro_ld_ptr y39_ty26 rfl mo0_3 s3_4 (nle rfl)) (by simp only [pS, Value.cells, Nat.reduceAdd] <;> rfl)) rfl ?_
  refine ar (ro_eq (ro_ld_ptr y39_ty28 rfl mo1_3 (up_m rfl s4_4) (nle rfl)) (by simp only [pS, Value.cells, Nat.reduceAdd] <;> rfl)) rfl ?_
  refine ar (ro_eq (ro_ld_ptr y39_ty3 rfl mo2_3 (u2 rfl s5_4) (nle rfl)) (by simp only [pS, Value.cells, Nat.reduceAdd] <;> rfl)) rfl ?_
  refine ar (ro_call (evL_cons (u2 rfl up_h) (evL_cons (up_m rfl up_h) (evL_cons up_h evL_nil))) rfl (openPose_bad l hl hb L c u p) y39_hcf71) rfl <| ar (ro_move up_h) rfl <| ar (ro_extract up_h rfl) rfl <| ar (ro_extract (up_m rfl up_h) rfl) rfl <| al_stm (st_alloc y39_az124 rfl ml_3) trivial rfl (fun m_5 hm_5 => ?_)
  have mo3_5 := m_push hm_5 ml_3
  simp only [pS, Value.cells, Nat.reduceAdd] at mo3_5
  have mo2_5 := m_push_o hm_5 mo2_3
  have mo1_5 := m_push_o hm_5 mo1_3
  have mo0_5 := m_push_o hm_5 mo0_3
  have ml_5 := m_push_l hm_5 ml_3
  have ml_5 : _ = 4 := ml_5
  clear hm_5 mo2_3 mo1_3 mo0_3
  refine al_stm (st_store up_h (u2 rfl up_h) rfl rfl mo3_5 y39_sz124 rfl (nle rfl)) trivial rfl (fun m_6 hm_6 => ?_)
  have mo3_6 := m_set hm_6 mo3_5
  simp only [pS, Value.cells, Nat.reduceAdd] at mo3_6
  have mo2_6 := m_set_o hm_6 mo2_5 (by decide)
  have mo1_6 := m_set_o hm_6 mo1_5 (by decide)
  have mo0_6 := m_set_o hm_6 mo0_5 (by decide)
  have ml_6 := m_set_l hm_6 ml_5
  clear hm_6 mo3_5 mo2_5 mo1_5 mo0_5
  refine ar (ro_assign (up_n (up_m rfl up_h))) rfl <| ae4 (up_m rfl (up_n (u8 rfl s4_4))) (up_m rfl (up_n (u8 rfl s5_4))) (up_m rfl (up_n up_h)) up_h ?_; clear s3_4 s4_4 s5_4; intro e_7 s4_7 s5_7 s8_7 s9_7
  refine then_n <| aw_seq <| aw_seq <| at_ <| ar (ro_move s9_7) rfl <| ar (ro_neq up_h ev_c) rfl <| ae5 (u2 rfl s4_7) (u2 rfl s5_7) (u2 rfl s8_7) (u2 rfl s9_7) up_h ?_; clear s4_7 s5_7 s8_7 s9_7; intro e_8 s4_8 s5_8 s8_8 s9_8 s20_8
  refine then_n <| aw_case s20_8 (fun hq_9 => ?_) (fun hq_9 => ?_)
  ·replace hq_9 := bnt hq_9
   refine aw_seq <| at_ <| ar (ro_move s9_8) rfl <| ar (ro_assign ev_c) rfl <| ar (ro_assign (up_m rfl up_h)) rfl <| ae2 (up_m rfl up_h) up_h ?_; clear s20_8 s4_8 s5_8 s8_8 s9_8; intro e_10 s6_10 s7_10
   refine then_n <| aw_ret <| then_r <| ret2 (.inr rfl) (by kernel_rfl) (resV_tmp s6_10) (resV_tmp s7_10) (.ro _ rfl) (.ro _ rfl) ?_
   clear s6_10 s7_10 mo3_6 mo2_6 mo1_6 mo0_6 ml_6
   rfl
  · replace hq_9 := bnf hq_9; exfalso; omega
set_option maxRecDepth 100000 in
set_option maxHeartbeats 4000000 in
theorem clearAt_veh (l : Lin) (hl : Sho l) (hg : (linM l).2 = 0) (L c u p : Int) (hv : vehE L c u ≠ 0) : FnOk Try.prog 17 [lnA l, vehA L c u, mA p] (fun q => q = .tuple [mA 0, mA (vehE L c u)]) := by
  refine fnOk_of (fn := Try.f17) 37 (by kernel_rfl) rfl (by kernel_rfl) (Nat.le_of_ble_eq_true rfl) ?_
  intro e_0 m_0 hA hm_0
  have s0_0 : evA e_0 (.tmp 0) = _ := hA 0 _ rfl
  have s1_0 : evA e_0 (.tmp 1) = _ := hA 1 _ rfl
  have s2_0 : evA e_0 (.tmp 2) = _ := hA 2 _ rfl
  have ml_0 : m_0.length = 0 := by rw [hm_0]; rfl
  clear hA hm_0
  refine aw_seq <| at_ <| al_stm (st_box s0_0 rfl ml_0) trivial rfl (fun m_1 hm_1 => ?_)
  have mo0_1 := m_push hm_1 ml_0
  have ml_1 := m_push_l hm_1 ml_0
  have ml_1 : _ = 1 := ml_1
  clear hm_1
  refine al_stm (st_box (up_m rfl s1_0) rfl ml_1) trivial rfl (fun m_2 hm_2 => ?_)
  have mo1_2 := m_push hm_2 ml_1
  have mo0_2 := m_push_o hm_2 mo0_1
  have ml_2 := m_push_l hm_2 ml_1
  have ml_2 : _ = 2 := ml_2
  clear hm_2 mo0_1
  refine al_stm (st_box (u2 rfl s2_0) rfl ml_2) trivial rfl (fun m_3 hm_3 => ?_)
  have mo2_3 := m_push hm_3 ml_2
  have mo1_3 := m_push_o hm_3 mo1_2
  have mo0_3 := m_push_o hm_3 mo0_2
  have ml_3 := m_push_l hm_3 ml_2
  have ml_3 : _ = 3 := ml_3
  clear hm_3 mo1_2 mo0_2
  refine ar (ro_assign ev_c) rfl <| ar (ro_assign ev_c) rfl <| ae3 (u4 rfl up_h) (up_m rfl (u2 rfl up_h)) (u2 rfl up_h) ?_; clear s0_0 s1_0 s2_0; intro e_4 s3_4 s4_4 s5_4
  refine then_n <| aw_seq <| at_ <| ar (ro_eq (ro_ld_ptr y39_ty26 rfl mo0_3 s3_4 (nle rfl)) (by simp only [pS, Value.cells, Nat.reduceAdd] <;> rfl)) rfl ?_
  refine ar (ro_eq (ro_ld_ptr y39_ty28 rfl mo1_3 (up_m rfl s4_4) (nle rfl)) (by simp only [pS, Value.cells, Nat.reduceAdd] <;> rfl)) rfl ?_
  refine ar (ro_eq (ro_ld_ptr y39_ty3 rfl mo2_3 (u2 rfl s5_4) (nle rfl)) (by simp only [pS, Value.cells, Nat.reduceAdd] <;> rfl)) rfl ?_
  refine ar (ro_call (evL_cons (u2 rfl up_h) (evL_cons (up_m rfl up_h) (evL_cons up_h evL_nil))) rfl (openPose_veh l hl hg L c u p hv) y39_hcf71) rfl <| ar (ro_move up_h) rfl <| ar (ro_extract up_h rfl) rfl <| ar (ro_extract (up_m rfl up_h) rfl) rfl <| al_stm (st_alloc y39_az124 rfl ml_3) trivial rfl (fun m_5 hm_5 => ?_)
  have mo3_5 := m_push hm_5 ml_3
  simp only [pS, Value.cells, Nat.reduceAdd] at mo3_5
  have mo2_5 := m_push_o hm_5 mo2_3
  have mo1_5 := m_push_o hm_5 mo1_3
  have mo0_5 := m_push_o hm_5 mo0_3
  have ml_5 := m_push_l hm_5 ml_3
  have ml_5 : _ = 4 := ml_5
  clear hm_5 mo2_3 mo1_3 mo0_3
  refine al_stm (st_store up_h (u2 rfl up_h) rfl rfl mo3_5 y39_sz124 rfl (nle rfl)) trivial rfl (fun m_6 hm_6 => ?_)
  have mo3_6 := m_set hm_6 mo3_5
  simp only [pS, Value.cells, Nat.reduceAdd] at mo3_6
  have mo2_6 := m_set_o hm_6 mo2_5 (by decide)
  have mo1_6 := m_set_o hm_6 mo1_5 (by decide)
  have mo0_6 := m_set_o hm_6 mo0_5 (by decide)
  have ml_6 := m_set_l hm_6 ml_5
  clear hm_6 mo3_5 mo2_5 mo1_5 mo0_5
  refine ar (ro_assign (up_n (up_m rfl up_h))) rfl <| ae4 (up_m rfl (up_n (u8 rfl s4_4))) (up_m rfl (up_n (u8 rfl s5_4))) (up_m rfl (up_n up_h)) up_h ?_; clear s3_4 s4_4 s5_4; intro e_7 s4_7 s5_7 s8_7 s9_7
  refine then_n <| aw_seq <| aw_seq <| at_ <| ar (ro_move s9_7) rfl <| ar (ro_neq up_h ev_c) rfl <| ae5 (u2 rfl s4_7) (u2 rfl s5_7) (u2 rfl s8_7) (u2 rfl s9_7) up_h ?_; clear s4_7 s5_7 s8_7 s9_7; intro e_8 s4_8 s5_8 s8_8 s9_8 s20_8
  refine then_n <| aw_case s20_8 (fun hq_9 => ?_) (fun hq_9 => ?_)
  ·replace hq_9 := bnt hq_9
   refine aw_seq <| at_ <| ar (ro_move s9_8) rfl <| ar (ro_assign ev_c) rfl <| ar (ro_assign (up_m rfl up_h)) rfl <| ae2 (up_m rfl up_h) up_h ?_; clear s20_8 s4_8 s5_8 s8_8 s9_8; intro e_10 s6_10 s7_10
   refine then_n <| aw_ret <| then_r <| ret2 (.inr rfl) (by kernel_rfl) (resV_tmp s6_10) (resV_tmp s7_10) (.ro _ rfl) (.ro _ rfl) ?_
   clear s6_10 s7_10 mo3_6 mo2_6 mo1_6 mo0_6 ml_6
   rfl
  · replace hq_9 := bnf hq_9; exfalso; omega
set_option maxRecDepth 100000 in
set_option maxHeartbeats 4000000 in
theorem clearAt_pos (l : Lin) (hl : Sho l) (hg : (linM l).2 = 0) (L c u p : Int) (hv : vehE L c u = 0) (hp : posE l L u p ≠ 0) : FnOk Try.prog 17 [lnA l, vehA L c u, mA p] (fun q => q = .tuple [mA 0, mA (posE l L u p)]) := by
  refine fnOk_of (fn := Try.f17) 37 (by kernel_rfl) rfl (by kernel_rfl) (Nat.le_of_ble_eq_true rfl) ?_
  intro e_0 m_0 hA hm_0
  have s0_0 : evA e_0 (.tmp 0) = _ := hA 0 _ rfl
  have s1_0 : evA e_0 (.tmp 1) = _ := hA 1 _ rfl
  have s2_0 : evA e_0 (.tmp 2) = _ := hA 2 _ rfl
  have ml_0 : m_0.length = 0 := by rw [hm_0]; rfl
  clear hA hm_0
  refine aw_seq <| at_ <| al_stm (st_box s0_0 rfl ml_0) trivial rfl (fun m_1 hm_1 => ?_)
  have mo0_1 := m_push hm_1 ml_0
  have ml_1 := m_push_l hm_1 ml_0
  have ml_1 : _ = 1 := ml_1
  clear hm_1
  refine al_stm (st_box (up_m rfl s1_0) rfl ml_1) trivial rfl (fun m_2 hm_2 => ?_)
  have mo1_2 := m_push hm_2 ml_1
  have mo0_2 := m_push_o hm_2 mo0_1
  have ml_2 := m_push_l hm_2 ml_1
  have ml_2 : _ = 2 := ml_2
  clear hm_2 mo0_1
  refine al_stm (st_box (u2 rfl s2_0) rfl ml_2) trivial rfl (fun m_3 hm_3 => ?_)
  have mo2_3 := m_push hm_3 ml_2
  have mo1_3 := m_push_o hm_3 mo1_2
  have mo0_3 := m_push_o hm_3 mo0_2
  have ml_3 := m_push_l hm_3 ml_2
  have ml_3 : _ = 3 := ml_3
  clear hm_3 mo1_2 mo0_2
  refine ar (ro_assign ev_c) rfl <| ar (ro_assign ev_c) rfl <| ae3 (u4 rfl up_h) (up_m rfl (u2 rfl up_h)) (u2 rfl up_h) ?_; clear s0_0 s1_0 s2_0; intro e_4 s3_4 s4_4 s5_4
  refine then_n <| aw_seq <| at_ <| ar (ro_eq (ro_ld_ptr y39_ty26 rfl mo0_3 s3_4 (nle rfl)) (by simp only [pS, Value.cells, Nat.reduceAdd] <;> rfl)) rfl ?_
  refine ar (ro_eq (ro_ld_ptr y39_ty28 rfl mo1_3 (up_m rfl s4_4) (nle rfl)) (by simp only [pS, Value.cells, Nat.reduceAdd] <;> rfl)) rfl ?_
  refine ar (ro_eq (ro_ld_ptr y39_ty3 rfl mo2_3 (u2 rfl s5_4) (nle rfl)) (by simp only [pS, Value.cells, Nat.reduceAdd] <;> rfl)) rfl ?_
  refine ar (ro_call (evL_cons (u2 rfl up_h) (evL_cons (up_m rfl up_h) (evL_cons up_h evL_nil))) rfl (openPose_good l hl hg L c u p hv) y39_hcf71) rfl <| ar (ro_move up_h) rfl <| ar (ro_extract up_h rfl) rfl <| ar (ro_extract (up_m rfl up_h) rfl) rfl <| al_stm (st_alloc y39_az124 rfl ml_3) trivial rfl (fun m_5 hm_5 => ?_)
  have mo3_5 := m_push hm_5 ml_3
  simp only [pS, Value.cells, Nat.reduceAdd] at mo3_5
  have mo2_5 := m_push_o hm_5 mo2_3
  have mo1_5 := m_push_o hm_5 mo1_3
  have mo0_5 := m_push_o hm_5 mo0_3
  have ml_5 := m_push_l hm_5 ml_3
  have ml_5 : _ = 4 := ml_5
  clear hm_5 mo2_3 mo1_3 mo0_3
  refine al_stm (st_store up_h (u2 rfl up_h) rfl rfl mo3_5 y39_sz124 rfl (nle rfl)) trivial rfl (fun m_6 hm_6 => ?_)
  have mo3_6 := m_set hm_6 mo3_5
  simp only [pS, Value.cells, Nat.reduceAdd] at mo3_6
  have mo2_6 := m_set_o hm_6 mo2_5 (by decide)
  have mo1_6 := m_set_o hm_6 mo1_5 (by decide)
  have mo0_6 := m_set_o hm_6 mo0_5 (by decide)
  have ml_6 := m_set_l hm_6 ml_5
  clear hm_6 mo3_5 mo2_5 mo1_5 mo0_5
  refine ar (ro_assign (up_n (up_m rfl up_h))) rfl <| ae4 (up_m rfl (up_n (u8 rfl s4_4))) (up_m rfl (up_n (u8 rfl s5_4))) (up_m rfl (up_n up_h)) up_h ?_; clear s3_4 s4_4 s5_4; intro e_7 s4_7 s5_7 s8_7 s9_7
  refine then_n <| aw_seq <| aw_seq <| at_ <| ar (ro_move s9_7) rfl <| ar (ro_neq up_h ev_c) rfl <| ae5 (u2 rfl s4_7) (u2 rfl s5_7) (u2 rfl s8_7) (u2 rfl s9_7) up_h ?_; clear s4_7 s5_7 s8_7 s9_7; intro e_8 s4_8 s5_8 s8_8 s9_8 s20_8
  refine then_n <| aw_case s20_8 (fun hq_9 => ?_) (fun hq_9 => ?_)
  ·replace hq_9 := bnt hq_9
   refine aw_seq <| at_ <| ar (ro_move s9_8) rfl <| ar (ro_assign ev_c) rfl <| ar (ro_assign (up_m rfl up_h)) rfl <| ae2 (up_m rfl up_h) up_h ?_; clear s20_8 s4_8 s5_8 s8_8 s9_8; intro e_10 s6_10 s7_10
   refine then_n <| aw_ret <| then_r <| ret2 (.inr rfl) (by kernel_rfl) (resV_tmp s6_10) (resV_tmp s7_10) (.ro _ rfl) (.ro _ rfl) ?_
   clear s6_10 s7_10 mo3_6 mo2_6 mo1_6 mo0_6 ml_6
   rfl
  · replace hq_9 := bnf hq_9; exfalso; omega
end Go.Proofs.Ytonjcljnpcmenaa

/- Contracts of chapter 1: a copy of a line with joints of one's own; narrower ranges. No conditions on a program. -/
namespace Go.Proofs.Ytonjcljnpcmenaa
open Go Go.RowKit Go.Proofs
set_option linter.unusedSimpArgs false
set_option linter.unusedVariables false
end Go.Proofs.Ytonjcljnpcmenaa

/- Plain law of chapter 1: narrower ranges, narrower deviations. No program in sight. -/
namespace Go.Proofs.Ytonjcljnpcmenaa
open Go Go.RowKit Go.Proofs
set_option linter.unusedSimpArgs false
set_option linter.unusedVariables false

/-- A joint with a narrower range. -/
structure Nar (a b : Jnt) : Prop where
  acr : b.acr = a.acr
  up : b.up = a.up
  lo : a.lo ≤ b.lo
  le : b.lo ≤ b.hi
  hi : b.hi ≤ a.hi
/-- A line whose joints have narrower ranges. -/
structure NarL (l m : Lin) : Prop where
  nam : m.nam = l.nam
  bs : m.bs = l.bs
  ss : m.ss = l.ss
  len : m.js.length = l.js.length
  js : ∀ i : Nat, i < l.js.length → Nar (l.js.getD i default) (m.js.getD i default)
theorem Nar.f {a b : Jnt} (h : Nar a b) (w : Int) : loF w a ≤ loF w b ∧ loF w b ≤ hiF w b ∧ hiF w b ≤ hiF w a := by
  obtain ⟨h1, h2, h3, h4, h5⟩ := h
  unfold loF hiF
  rw [h1]
  rcases Int.le_total 0 w with hw | hw
  · have a1 := Int.mul_le_mul_of_nonneg_left h3 hw
    have a2 := Int.mul_le_mul_of_nonneg_left h4 hw
    have a3 := Int.mul_le_mul_of_nonneg_left h5 hw
    omega
  · have a1 := Int.mul_le_mul_of_nonpos_left hw h3
    have a2 := Int.mul_le_mul_of_nonpos_left hw h4
    have a3 := Int.mul_le_mul_of_nonpos_left hw h5
    omega
theorem devS_nar {l m : Lin} (n : NarL l m) (ws : List Int) : ∀ {k : Nat}, k ≤ l.js.length → devS loF ws l.js k ≤ devS loF ws m.js k ∧ devS loF ws m.js k ≤ devS hiF ws m.js k ∧ devS hiF ws m.js k ≤ devS hiF ws l.js k
  | 0, _ => ⟨Int.le_refl _, Int.le_refl _, Int.le_refl _⟩
  | k + 1, hk => by
    have ih := devS_nar n ws (k := k) (by omega)
    have h1 := (n.js k (by omega)).f (ws.getD k default)
    simp only [devS]
    omega
theorem floor_le {x y d : Int} (hd : 0 < d) (h : x ≤ y) : x / d ≤ -(-y / d) := by
  have h1 : x / d * d ≤ x := Int.ediv_mul_le x (by omega)
  have h2 : -y / d ≤ -(x / d) := by
    have h3 : -y ≤ -(x / d) * d := by rw [Int.neg_mul]; omega
    have := Int.ediv_le_ediv hd h3
    rwa [Int.mul_ediv_cancel _ (by omega)] at this
  omega
theorem ceil_le {x y d : Int} (hd : 0 < d) (h : x ≤ y) : -(-x / d) ≤ -(-y / d) := by
  have := Int.ediv_le_ediv hd (show -y ≤ -x by omega)
  omega
theorem NarL.at {l m : Lin} (n : NarL l m) (p : Int) : atI m p = atI l p ∧ atD m p = atD l p := by unfold atD atI; rw [n.bs]; exact ⟨rfl, rfl⟩
theorem NarL.wts {l m : Lin} (n : NarL l m) (L p : Int) (j : Nat) : wtsL m L p j = wtsL l L p j ∧ devD m L p = devD l L p := by
  have e1 := n.at p
  have e2 := n.at (p + L)
  have e3 : devD m L p = devD l L p := by unfold devD; rw [e1.1, e2.1, n.bs]
  refine ⟨?_, e3⟩
  unfold wtsL wts4 wts3 wts2 wts1
  rw [e1.1, e2.1, e1.2, e2.2, e3, n.bs, n.len]
/-- **Narrower ranges: all deviations lie within those that there were.** -/
theorem NarL.dev {l m : Lin} (n : NarL l m) (h : Rgt l) {L p : Int} {j : Nat} (q : Pos l L p j) : devLo l L p j ≤ devLo m L p j ∧ devLo m L p j ≤ devHi m L p j ∧ devHi m L p j ≤ devHi l L p j := by
  obtain ⟨e1, e2⟩ := n.wts L p j
  have hd := (q.bd h).1
  obtain ⟨s1, s2, s3⟩ := devS_nar n (wtsL l L p j) (Nat.le_refl _)
  unfold devLo devHi
  rw [e1, e2, n.len]
  exact ⟨Int.ediv_le_ediv (by omega) s1, floor_le (by omega) s2, ceil_le (by omega) s3⟩
theorem NarL.refl {l : Lin} (h : Rgt l) : NarL l l := ⟨rfl, rfl, rfl, rfl, fun i hi => ⟨rfl, rfl, Int.le_refl _, (h.jnt i hi).2.2.2.2, Int.le_refl _⟩⟩
end Go.Proofs.Ytonjcljnpcmenaa

/- Contracts of chapter 1: whether the program is awake. No conditions on a program. -/
namespace Go.Proofs.Ytonjcljnpcmenaa
open Go Go.RowKit Go.Proofs
set_option linter.unusedSimpArgs false
set_option linter.unusedVariables false
theorem y27_az26 : (Try.prog.info? 26).bind (·.zero) = some (.agg #[.string ByteArray.empty, .slice none 0 0, .slice none 0 0, .slice none 0 0]) := by kernel_rfl
theorem y27_az39 : (Try.prog.info? 39).bind (·.zero) = some (.agg #[.int .i64 0, .int .i64 0]) := by kernel_rfl
theorem y27_bz85 : (Try.prog.info? 85).bind (·.zero) = some (.agg #[.int .i64 0, .int .i64 0]) := by kernel_rfl
theorem y27_bu85 : Try.prog.underlying 85 = some (.array 2 3) := by kernel_rfl
theorem y27_bp85 : (Try.prog.info? 3).map (·.size) = some 1 := by kernel_rfl
theorem y27_bz26 : (Try.prog.info? 26).bind (·.zero) = some (.agg #[.string ByteArray.empty, .slice none 0 0, .slice none 0 0, .slice none 0 0]) := by kernel_rfl
theorem y27_bu26 : Try.prog.underlying 26 = some (.struct (fsOf Try.prog 26)) := by kernel_rfl
theorem y27_bp26 : ∀ w, ((fsOf Try.prog 26).mapM fun f => Prod.mk f.offset <$> sizeOf f.type : Sem (Array (Nat × Nat))).run Try.prog w = .ok (#[(0, 1), (1, 1), (2, 1), (3, 1)]) w := fun _ => by kernel_rfl
theorem y27_bz28 : (Try.prog.info? 28).bind (·.zero) = some (.agg #[.int .i64 0, .int .i64 0, .int .i64 0]) := by kernel_rfl
theorem y27_bu28 : Try.prog.underlying 28 = some (.struct (fsOf Try.prog 28)) := by kernel_rfl
theorem y27_bp28 : ∀ w, ((fsOf Try.prog 28).mapM fun f => Prod.mk f.offset <$> sizeOf f.type : Sem (Array (Nat × Nat))).run Try.prog w = .ok (#[(0, 1), (1, 1), (2, 1)]) w := fun _ => by kernel_rfl
theorem y27_bz39 : (Try.prog.info? 39).bind (·.zero) = some (.agg #[.int .i64 0, .int .i64 0]) := by kernel_rfl
theorem y27_bu39 : Try.prog.underlying 39 = some (.struct (fsOf Try.prog 39)) := by kernel_rfl
theorem y27_bp39 : ∀ w, ((fsOf Try.prog 39).mapM fun f => Prod.mk f.offset <$> sizeOf f.type : Sem (Array (Nat × Nat))).run Try.prog w = .ok (#[(0, 1), (1, 1)]) w := fun _ => by kernel_rfl
theorem y27_bz70 : (Try.prog.info? 70).bind (·.zero) = some (.agg #[.int .i64 0, .int .i64 0, .int .i64 0, .int .i64 0]) := by kernel_rfl
theorem y27_bu70 : Try.prog.underlying 70 = some (.struct (fsOf Try.prog 70)) := by kernel_rfl
theorem y27_bp70 : ∀ w, ((fsOf Try.prog 70).mapM fun f => Prod.mk f.offset <$> sizeOf f.type : Sem (Array (Nat × Nat))).run Try.prog w = .ok (#[(0, 1), (1, 1), (2, 2)]) w := fun _ => by kernel_rfl
theorem y27_bz87 : (Try.prog.info? 87).bind (·.zero) = some (.agg #[.int .i64 0, .int .i64 0]) := by kernel_rfl
theorem y27_bu87 : Try.prog.underlying 87 = some (.struct (fsOf Try.prog 87)) := by kernel_rfl
theorem y27_bp87 : ∀ w, ((fsOf Try.prog 87).mapM fun f => Prod.mk f.offset <$> sizeOf f.type : Sem (Array (Nat × Nat))).run Try.prog w = .ok (#[(0, 1), (1, 1)]) w := fun _ => by kernel_rfl
theorem y27_hcf23 : ∀ args w, (callFunc 23 args).run Try.prog w = .ok (.enter 23 args) w := fun _ _ => by kernel_rfl
theorem y27_hcf41 : ∀ args w, (callFunc 41 args).run Try.prog w = .ok (.enter 41 args) w := fun _ _ => by kernel_rfl
theorem y27_hcf67 : ∀ args w, (callFunc 67 args).run Try.prog w = .ok (.enter 67 args) w := fun _ _ => by kernel_rfl
theorem y27_hcf68 : ∀ args w, (callFunc 68 args).run Try.prog w = .ok (.enter 68 args) w := fun _ _ => by kernel_rfl
theorem y27_sl22 : SlIs Try.prog 22 70 4 32 (.agg #[.int .i64 0, .int .i64 0, .int .i64 0, .int .i64 0]) := ⟨by kernel_rfl, by kernel_rfl, by kernel_rfl⟩
theorem y27_sl23 : SlIs Try.prog 23 87 2 16 (.agg #[.int .i64 0, .int .i64 0]) := ⟨by kernel_rfl, by kernel_rfl, by kernel_rfl⟩
theorem y27_sz26 : (Try.prog.info? 26).map (·.size) = some 4 := by kernel_rfl
theorem y27_sz39 : (Try.prog.info? 39).map (·.size) = some 2 := by kernel_rfl
theorem y27_ty26 : TyIs Try.prog 26 true 4 := ⟨by kernel_rfl, by kernel_rfl⟩
theorem y27_ty39 : TyIs Try.prog 39 true 2 := ⟨by kernel_rfl, by kernel_rfl⟩

def lin0 : Lin := ⟨⟨#[115, 104, 111, 114, 116]⟩, [⟨0, 0, 0, 0⟩, ⟨0, 100, 0, 0⟩, ⟨200, 100, 0, 0⟩], [⟨10000, 0⟩, ⟨10000, 100⟩], []⟩
set_option maxRecDepth 100000 in
set_option maxHeartbeats 1000000 in
theorem lin0_ok : FnOk Try.prog 67 [] (fun q => q = lnA lin0) := by
  refine fnOk_of (fn := Try.f67) 9 (by kernel_rfl) rfl (by kernel_rfl) (Nat.le_of_ble_eq_true rfl) ?_
  intro e_0 m_0 hA hm_0
  have ml_0 : m_0.length = 0 := by rw [hm_0]; rfl
  clear hA hm_0
  refine aw_seq <| at_ <| al_stm (st_alloc y27_az26 rfl ml_0) trivial rfl (fun m_1 hm_1 => ?_)
  have mo0_1 := m_push hm_1 ml_0
  simp only [pS, Value.cells, Nat.reduceAdd] at mo0_1
  have ml_1 := m_push_l hm_1 ml_0
  have ml_1 : _ = 1 := ml_1
  clear hm_1
  refine ae1 up_h ?_; intro e_2 s0_2
  refine then_n <| aw_seq <| at_ <| ar (ro_build evP_nil y27_bz70 y27_bu70 y27_bp70 rfl) rfl ?_
  refine ar (ro_build (evP_cons ev_c evP_nil) y27_bz70 y27_bu70 y27_bp70 rfl) rfl ?_
  refine ar (ro_build (evP_cons ev_c (evP_cons ev_c evP_nil)) y27_bz70 y27_bu70 y27_bp70 rfl) rfl ?_
  refine ar (ro_lit y27_sl22 (evP_cons (u2 rfl up_h) (evP_cons (up_m rfl up_h) (evP_cons up_h evP_nil))) rfl rfl rfl rfl) rfl <| ar (ro_build (evP_cons ev_c evP_nil) y27_bz87 y27_bu87 y27_bp87 rfl) rfl ?_
  refine ar (ro_build (evP_cons ev_c (evP_cons ev_c evP_nil)) y27_bz87 y27_bu87 y27_bp87 rfl) rfl ?_
  refine ar (ro_lit y27_sl23 (evP_cons (up_m rfl up_h) (evP_cons up_h evP_nil)) rfl rfl rfl rfl) rfl <| ar (ro_build (evP_cons ev_c (evP_cons (up_m rfl (u2 rfl up_h)) (evP_cons up_h evP_nil))) y27_bz26 y27_bu26 y27_bp26 rfl) rfl ?_
  refine al_stm (st_store (u8 rfl s0_2) up_h rfl rfl mo0_1 y27_sz26 rfl (nle rfl)) trivial rfl (fun m_3 hm_3 => ?_)
  have mo0_3 := m_set hm_3 mo0_1
  simp only [pS, Value.cells, Nat.reduceAdd] at mo0_3
  have ml_3 := m_set_l hm_3 ml_1
  clear hm_3 mo0_1
  refine ae1 (up_n (u8 rfl s0_2)) ?_; clear s0_2; intro e_4 s0_4
  refine then_n <| aw_ret <| ret1 (.inr rfl) (by kernel_rfl) (resV_cell s0_4 mo0_3 y27_ty26 (nle rfl) (by simp)) (vw_r (vw_agg (vwl_cons (.ro _ rfl) (vwl_cons (.ro _ rfl) (vwl_cons (.ro _ rfl) (vwl_cons (.nil 3) vwl_nil)))))) ?_
  clear s0_4 mo0_3 ml_3
  rfl
theorem lin0_sho : Sho lin0 := ⟨by decide, by decide, by decide, by decide, by intro s hs; cases hs⟩
theorem lin0_good : (linM lin0).2 = 0 := by kernel_rfl
theorem len0_ok : FnOk Try.prog 41 [lnA lin0] (fun q => q = .tuple [mA 20000, mA 0]) :=
  (lengthOf_good lin0 lin0_sho lin0_good).mono fun q h => h.trans (by kernel_rfl)
theorem lim0_ok : FnOk Try.prog 23 [lnA lin0, mA 1000, mA 1] (fun q => q = .tuple [mA 745250000, mA 0]) :=
  (limitAt_good lin0 lin0_sho lin0_good 1000 1 (fun hs n hn => by
    obtain rfl : n = 1 := by have : lin0.js.length = 3 := rfl
                             omega
    exact limit_low lin0 (rgt_of lin0_good) 1000 (by decide) 1 (by decide) (by decide))).mono fun q h => h.trans (by kernel_rfl)
theorem dev0_ok : FnOk Try.prog 68 [lnA lin0, vehA 10000 60 2500, .agg [mA 2500, mA 1]] (fun q => q = .tuple [.agg [mA (-38), mA (-37)], mA 0]) :=
  (deviationAt_good lin0 lin0_sho lin0_good 10000 60 2500 2500 1 (by decide) (by decide)).mono fun q h => h.trans (by kernel_rfl)
set_option maxRecDepth 100000 in
set_option maxHeartbeats 4000000 in
theorem awake_ok : FnOk Try.prog 12 [] (fun q => q = tbA true) := by
  refine fnOk_of (fn := Try.f12) 47 (by kernel_rfl) rfl (by kernel_rfl) (Nat.le_of_ble_eq_true rfl) ?_
  intro e_0 m_0 hA hm_0
  have ml_0 : m_0.length = 0 := by rw [hm_0]; rfl
  clear hA hm_0
  refine aw_seq <| at_ <| ar (ro_assign ev_c) rfl <| ae0 ?_; intro e_1
  refine then_n <| aw_seq <| at_ <| ar (ro_call evL_nil rfl (lin0_ok) y27_hcf67) rfl <| ar (ro_call (evL_cons up_h evL_nil) rfl (len0_ok) y27_hcf41) rfl <| ar (ro_move up_h) rfl <| ar (ro_extract up_h rfl) rfl <| ar (ro_extract (up_m rfl up_h) rfl) rfl <| ar (ro_assign (up_m rfl up_h)) rfl <| ar (ro_assign (up_m rfl up_h)) rfl <| ae2 (up_m rfl up_h) up_h ?_; intro e_2 s1_2 s2_2
  refine then_n <| aw_seq <| at_ <| ar (ro_call evL_nil rfl (lin0_ok) y27_hcf67) rfl <| ar (ro_call (evL_cons up_h (evL_cons ev_c (evL_cons ev_c evL_nil))) rfl (lim0_ok) y27_hcf23) rfl <| ar (ro_move up_h) rfl <| ar (ro_extract up_h rfl) rfl <| ar (ro_extract (up_m rfl up_h) rfl) rfl <| ar (ro_assign (up_m rfl up_h)) rfl <| ar (ro_assign (up_m rfl up_h)) rfl <| ae4 (up_m rfl (u2 rfl (u4 rfl s1_2))) (up_m rfl (u2 rfl (u4 rfl s2_2))) (up_m rfl up_h) up_h ?_; clear s1_2 s2_2; intro e_3 s1_3 s2_3 s3_3 s4_3
  refine then_n <| aw_seq <| at_ <| ar (ro_call evL_nil rfl (lin0_ok) y27_hcf67) rfl <| ar (ro_build (evP_cons ev_c (evP_cons ev_c (evP_cons ev_c evP_nil))) y27_bz28 y27_bu28 y27_bp28 rfl) rfl ?_
  refine ar (ro_buildA (evP_cons ev_c (evP_cons ev_c evP_nil)) y27_bz85 y27_bu85 y27_bp85 rfl) rfl ?_
  refine ar (ro_call (evL_cons (u2 rfl up_h) (evL_cons (up_m rfl up_h) (evL_cons up_h evL_nil))) rfl (dev0_ok) y27_hcf68) rfl <| ar (ro_move up_h) rfl <| ar (ro_extract up_h rfl) rfl <| ar (ro_extract (up_m rfl up_h) rfl) rfl <| al_stm (st_alloc y27_az39 rfl ml_0) trivial rfl (fun m_4 hm_4 => ?_)
  have mo0_4 := m_push hm_4 ml_0
  simp only [pS, Value.cells, Nat.reduceAdd] at mo0_4
  have ml_4 := m_push_l hm_4 ml_0
  have ml_4 : _ = 1 := ml_4
  clear hm_4
  refine al_stm (st_store up_h (u2 rfl up_h) rfl rfl mo0_4 y27_sz39 rfl (nle rfl)) trivial rfl (fun m_5 hm_5 => ?_)
  have mo0_5 := m_set hm_5 mo0_4
  simp only [pS, Value.cells, Nat.reduceAdd] at mo0_5
  have ml_5 := m_set_l hm_5 ml_4
  clear hm_5 mo0_4
  refine ar (ro_assign (up_n (up_m rfl up_h))) rfl <| ae6 (up_m rfl (up_n (u8 rfl s1_3))) (up_m rfl (up_n (u8 rfl s2_3))) (up_m rfl (up_n (u8 rfl s3_3))) (up_m rfl (up_n (u8 rfl s4_3))) (up_m rfl (up_n up_h)) up_h ?_; clear s1_3 s2_3 s3_3 s4_3; intro e_6 s1_6 s2_6 s3_6 s4_6 s5_6 s6_6
  refine then_n <| aw_seq <| at_ <| ar (ro_move s2_6) rfl <| ar (ro_eql up_h ev_c) rfl ?_
  refine ar (ro_move up_h) rfl <| al_case up_h (fun hb_7 hq_7 => ?_) (fun hb_7 hq_7 => ?_)
  ·replace hq_7 := bt hq_7
   refine al_ro' (ro_move (up_m rfl (u2 rfl s1_6))) ⟨_, rfl, hb_7⟩ rfl ?_
   refine al_ro' (ro_eql up_h ev_c) ⟨_, rfl, (up_m rfl hb_7)⟩ rfl ?_
   refine ar (ro_pickT (u2 rfl hb_7) up_h) rfl <| ar (ro_move up_h) rfl <| al_case up_h (fun hb_8 hq_8 => ?_) (fun hb_8 hq_8 => ?_)
   ·replace hq_8 := bt hq_8
    refine al_ro' (ro_move (up_m rfl (u2 rfl (u4 rfl s4_6)))) ⟨_, rfl, hb_8⟩ rfl ?_
    refine al_ro' (ro_eql up_h ev_c) ⟨_, rfl, (up_m rfl hb_8)⟩ rfl ?_
    refine ar (ro_pickT (u2 rfl hb_8) up_h) rfl <| ar (ro_move up_h) rfl <| al_case up_h (fun hb_9 hq_9 => ?_) (fun hb_9 hq_9 => ?_)
    ·replace hq_9 := bt hq_9
     refine al_ro' (ro_move (up_m rfl (u2 rfl (u8 rfl s3_6)))) ⟨_, rfl, hb_9⟩ rfl ?_
     refine al_ro' (ro_eql up_h ev_c) ⟨_, rfl, (up_m rfl hb_9)⟩ rfl ?_
     refine ar (ro_pickT (u2 rfl hb_9) up_h) rfl <| ar (ro_move up_h) rfl <| al_case up_h (fun hb_10 hq_10 => ?_) (fun hb_10 hq_10 => ?_)
     ·replace hq_10 := bt hq_10
      refine al_ro' (ro_move (up_m rfl (u2 rfl (u4 rfl (u8 rfl s6_6))))) ⟨_, rfl, hb_10⟩ rfl ?_
      refine al_ro' (ro_eql up_h ev_c) ⟨_, rfl, (up_m rfl hb_10)⟩ rfl ?_
      refine ar (ro_pickT (u2 rfl hb_10) up_h) rfl <| ar (ro_move up_h) rfl <| al_case up_h (fun hb_11 hq_11 => ?_) (fun hb_11 hq_11 => ?_)
      ·replace hq_11 := bt hq_11
       refine al_ro' (ro_eq (ro_ld_ptr y27_ty39 rfl mo0_5 (up_m rfl (u2 rfl (u16 rfl s5_6))) (nle rfl)) (by simp only [pS, Value.cells, Nat.reduceAdd] <;> rfl)) ⟨_, rfl, hb_11⟩ rfl ?_
       refine al_ro' (ro_build (evP_cons ev_c (evP_cons ev_c evP_nil)) y27_bz39 y27_bu39 y27_bp39 rfl) ⟨_, rfl, (up_m rfl hb_11)⟩ rfl ?_
       refine al_ro' (ro_aeql (up_m rfl up_h) up_h (xs := [.int .i64 (-38), .int .i64 (-37)]) (ys := [.int .i64 (-38), .int .i64 (-37)]) (b := true) ⟨rfl, by kernel_rfl, fun _ => by kernel_rfl⟩) ⟨_, rfl, (u2 rfl hb_11)⟩ rfl ?_
       refine ar (ro_pickT (up_m rfl (u2 rfl hb_11)) up_h) rfl <| ar (ro_assign up_h) rfl <| ae1 up_h ?_; clear hb_10 hb_11 hb_7 hb_8 hb_9 s1_6 s2_6 s3_6 s4_6 s5_6 s6_6; intro e_12 s0_12
       refine then_n <| aw_ret <| ret1 (.inr rfl) (by kernel_rfl) (resV_tmp s0_12) (.ro _ rfl) ?_
       clear s0_12 mo0_5 ml_5
       rfl
      · replace hq_11 := bf hq_11; exfalso; omega
     · replace hq_10 := bf hq_10; exfalso; omega
    · replace hq_9 := bf hq_9; exfalso; omega
   · replace hq_8 := bf hq_8; exfalso; omega
  · replace hq_7 := bf hq_7; exfalso; omega
end Go.Proofs.Ytonjcljnpcmenaa

/- The law of chapter 1 on deviations. No conditions on a program. -/
namespace Go.Proofs.Ytonjcljnpcmenaa
open Go Go.RowKit Go.Proofs
set_option linter.unusedSimpArgs false
set_option linter.unusedVariables false
end Go.Proofs.Ytonjcljnpcmenaa

/- The law of chapter 1 on narrower ranges. No conditions on a program. -/
namespace Go.Proofs.Ytonjcljnpcmenaa
open Go Go.RowKit Go.Proofs
set_option linter.unusedSimpArgs false
set_option linter.unusedVariables false
theorem y42_fl28_2 : FldIs Try.prog 28 2 2 false 1 := by unfold FldIs; kernel_rfl
theorem y42_hcf42 : ∀ args w, (callFunc 42 args).run Try.prog w = .ok (.enter 42 args) w := fun _ _ => by kernel_rfl
theorem y42_ty26 : TyIs Try.prog 26 true 4 := ⟨by kernel_rfl, by kernel_rfl⟩
theorem y42_ty3 : TyIs Try.prog 3 false 1 := ⟨by kernel_rfl, by kernel_rfl⟩

/-- The joints beneath a pose, one by one. -/
theorem benP_at {l : Lin} {L p : Int} {i : Nat} (hi : i < (benP l L p l.js.length).length) : ∃ n : Nat, (benP l L p l.js.length).getD i default = (n : Int) ∧ (benL l L p)[i]? = some n ∧ n < l.js.length ∧ p < plaP l.bs n ∧ plaP l.bs n < p + L := by
  have e : benP l L p l.js.length = (benL l L p).map fun (i : Nat) => (i : Int) := rfl
  have hi2 : i < (benL l L p).length := by rw [e] at hi; simpa using hi
  have hm := List.getElem_mem hi2
  have hm2 := List.mem_filter.1 hm
  refine ⟨(benL l L p)[i], ?_, List.getElem?_eq_getElem hi2, List.mem_range.1 hm2.1, ?_⟩
  · rw [e, List.getD_eq_getElem?_getD, List.getElem?_map, List.getElem?_eq_getElem hi2]; rfl
  · have := hm2.2
    unfold benB at this
    simpa using this
theorem benP_len2 {l : Lin} {L p : Int} : (benP l L p l.js.length).length = (benL l L p).length := by
  have e : benP l L p l.js.length = (benL l L p).map fun (i : Nat) => (i : Int) := rfl
  rw [e, List.length_map]
theorem ans_bd (c lo hi : Int) : 0 ≤ ansV c lo hi ∧ ansV c lo hi ≤ 2 := by unfold ansV; (repeat' split) <;> omega
theorem ans_2 {c lo hi : Int} : ansV c lo hi = 2 ↔ -c ≤ lo ∧ hi ≤ c := by unfold ansV; (repeat' split) <;> omega
theorem ans_0 {c lo hi : Int} (hc : 0 ≤ c) (h : lo ≤ hi) : ansV c lo hi = 0 ↔ hi < -c ∨ c < lo := by unfold ansV; (repeat' split) <;> omega
/-- At most a hundred poses. -/
def posB (l : Lin) (u : Int) : Bool := decide ((plaP l.bs l.bs.length).tdiv u ≤ 100)
set_option maxRecDepth 100000 in
set_option maxHeartbeats 4000000 in
theorem lposes_ok (l : Lin) (h : Rgt l) (L c u : Int) (hu : 1 ≤ u) : FnOk Try.prog 16 [lnA l, vehA L c u] (fun q => q = tbA (posB l u)) := by
  refine fnOk_of (fn := Try.f16) 11 (by kernel_rfl) rfl (by kernel_rfl) (Nat.le_of_ble_eq_true rfl) ?_
  intro e_0 m_0 hA hm_0
  have s0_0 : evA e_0 (.tmp 0) = _ := hA 0 _ rfl
  have s1_0 : evA e_0 (.tmp 1) = _ := hA 1 _ rfl
  have ml_0 : m_0.length = 0 := by rw [hm_0]; rfl
  clear hA hm_0
  have hpb := h.pla (n := l.bs.length) (Nat.le_refl _); have hq1 := Int.tdiv_nonneg (a := plaP l.bs l.bs.length) (b := u) (by omega) (by omega); have hq2 := Int.tdiv_le_self u (a := plaP l.bs l.bs.length) (by omega)
  refine aw_seq <| at_ <| al_stm (st_box s0_0 rfl ml_0) trivial rfl (fun m_1 hm_1 => ?_)
  have mo0_1 := m_push hm_1 ml_0
  have ml_1 := m_push_l hm_1 ml_0
  have ml_1 : _ = 1 := ml_1
  clear hm_1
  refine al_stm (st_box (up_m rfl s1_0) rfl ml_1) trivial rfl (fun m_2 hm_2 => ?_)
  have mo1_2 := m_push hm_2 ml_1
  have mo0_2 := m_push_o hm_2 mo0_1
  have ml_2 := m_push_l hm_2 ml_1
  have ml_2 : _ = 2 := ml_2
  clear hm_2 mo0_1
  refine ar (ro_assign ev_c) rfl <| ae2 (u2 rfl up_h) (up_m rfl up_h) ?_; clear s0_0 s1_0; intro e_3 s2_3 s3_3
  refine then_n <| aw_seq <| aw_draw 7 (by kernel_rfl) (by kernel_rfl) (by kernel_rfl) (by kernel_rfl) ?_
  refine dr (ro_eq (ro_ld_ptr y42_ty26 rfl mo0_2 s2_3 (nle rfl)) (by simp only [pS, Value.cells, Nat.reduceAdd] <;> rfl)) rfl ?_
  refine dr (ro_call (evL_cons up_h evL_nil) rfl (rLengthOf_ok l (by have := h.n1; have := h.n0; omega) (fun j hj => by have := h.bea j hj; omega)) y42_hcf42) rfl ?_
  refine dr (ro_fld_ptr y42_fl28_2 rfl (u2 rfl s3_3)) rfl <| dr (ro_eq (ro_ld_ptr y42_ty3 rfl mo1_2 up_h (nle rfl)) (by simp only [pS, Value.cells, Nat.reduceAdd] <;> rfl)) rfl ?_
  (refine dr (ro_quo' (u2 rfl up_h) up_h (by omega) ?_) rfl ?_; · (unfold In64; omega))
  refine dr (ro_leq up_h ev_c) rfl <| dr (ro_assign up_h) rfl <| ds_nil <| ae1 up_h ?_; clear s2_3 s3_3; intro e_4 s4_4
  refine then_n <| aw_ret <| ret1 (.inr rfl) (by kernel_rfl) (resV_tmp s4_4) (.ro _ rfl) ?_
  clear s4_4 mo1_2 mo0_2 ml_2
  rfl
end Go.Proofs.Ytonjcljnpcmenaa

