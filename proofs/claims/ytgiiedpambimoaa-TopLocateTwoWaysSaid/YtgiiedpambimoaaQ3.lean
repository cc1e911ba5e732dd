/- Contracts of chapter 4: windows. No conditions on a program. -/
import Derived.Test.YtgiiedpambimoaaQ2
namespace Go.Proofs.Ytgiiedpambimoaa
open Go Go.RowKit Go.Proofs
set_option linter.unusedSimpArgs false
set_option linter.unusedVariables false
theorem q3_az94 : (Try.prog.info? 94).bind (·.zero) = some (.agg #[.int .i64 0, .int .i64 0, .int .i64 0, .int .i64 0, .int .i64 0, .int .i64 0, .int .i64 0, .int .i64 0, .int .i64 0, .int .i64 0, .int .i64 0, .int .i64 0]) := by kernel_rfl
theorem q3_ar94 : ArIs Try.prog 94 12 1 := ⟨by kernel_rfl, by kernel_rfl⟩
theorem q3_at94 : ArTy Try.prog 94 12 3 false 1 := ⟨by kernel_rfl, by kernel_rfl, by kernel_rfl⟩
theorem q3_fl24_0 : FldIs Try.prog 24 0 0 false 1 := by unfold FldIs; kernel_rfl
theorem q3_fl24_1 : FldIs Try.prog 24 1 1 false 1 := by unfold FldIs; kernel_rfl
theorem q3_fl90_0 : FldIs Try.prog 90 0 0 true 9 := by unfold FldIs; kernel_rfl
theorem q3_sl22 : SlIs Try.prog 22 3 1 8 (.int .i64 0) := ⟨by kernel_rfl, by kernel_rfl, by kernel_rfl⟩
theorem q3_sz3 : (Try.prog.info? 3).map (·.size) = some 1 := by kernel_rfl
theorem q3_sz94 : (Try.prog.info? 94).map (·.size) = some 12 := by kernel_rfl
theorem q3_ty22 : TyIs Try.prog 22 false 1 := ⟨by kernel_rfl, by kernel_rfl⟩
theorem q3_ty3 : TyIs Try.prog 3 false 1 := ⟨by kernel_rfl, by kernel_rfl⟩
theorem q3_ty94 : TyIs Try.prog 94 true 12 := ⟨by kernel_rfl, by kernel_rfl⟩

theorem getD_setI {xs : List Int} {i j : Nat} {v : Int} (hi : i < xs.length) : (xs.set i v).getD j default = if j = i then v else xs.getD j default := by
  simp only [List.getD_eq_getElem?_getD, List.getElem?_set]
  by_cases h : i = j
  · subst h; simp [hi]
  · rw [if_neg h, if_neg (fun e => h e.symm)]
theorem list_extI {xs ys : List Int} (hl : xs.length = ys.length) (h : ∀ j : Nat, j < xs.length → xs.getD j default = ys.getD j default) : xs = ys := by
  apply List.ext_getElem hl
  intro j h1 h2
  have := h j h1
  simpa [List.getD_eq_getElem?_getD, h1, h2] using this
set_option maxRecDepth 100000 in
set_option maxHeartbeats 4000000 in
theorem at_ok (t : Trk) (h : RT t) (i : Int) (hi : 0 ≤ i ∧ i ≤ 1000) : FnOk Try.prog 48 [qA t, zA i] (fun q => q = .agg ((wat t i).map iE).flatten) := by
  have h1 := h.win
  have h2 := h.len
  refine fnOk_of (fn := Try.f48) 30 (by kernel_rfl) rfl (by kernel_rfl) (Nat.le_of_ble_eq_true rfl) ?_
  intro e_0 m_0 hA hm_0
  have s0_0 : evA e_0 (.tmp 0) = _ := hA 0 _ rfl
  have s1_0 : evA e_0 (.tmp 1) = _ := hA 1 _ rfl
  have ml_0 : m_0.length = 0 := by rw [hm_0]; rfl
  clear hA hm_0
  refine aw_seq ?_
  refine aw_text (by kernel_rfl) ?_
  refine al_stm (st_box s0_0 rfl ml_0) trivial rfl (fun m_1 hm_1 => ?_)
  have mo0_1 := m_push hm_1 ml_0
  (try simp only [packA_t, packA_f, iE, bE, setAt, cellsA, Value.cells, map_vc, map_vn, Nat.reduceAdd, qS, iE, set_iE] at mo0_1)
  have ml_1 := m_push_l hm_1 ml_0
  have ml_1 : _ = 1 := ml_1
  clear hm_1
  refine al_stm (st_alloc q3_az94 rfl ml_1) trivial rfl (fun m_2 hm_2 => ?_)
  have mo1_2 : m_2[1]? = some (Ob.box 94 ((z12.map iE).flatten)) := m_push hm_2 ml_1
  have mo0_2 := m_push_o hm_2 mo0_1
  have ml_2 := m_push_l hm_2 ml_1
  have ml_2 : _ = 2 := ml_2
  clear hm_2 mo0_1
  refine al_end (fun e_3 he_3 => ?_)
  have s1_3 := ef 1 he_3 (u2 rfl s1_0)
  have s2_3 := ef 2 he_3 (up_m rfl up_h)
  have s4_3 := ef 4 he_3 up_h
  clear he_3 s0_0 s1_0
  refine then_n ?_
  refine aw_seq ?_
  refine aw_text (by kernel_rfl) ?_
  refine al_stm (st_alloc q3_az94 rfl ml_2) trivial rfl (fun m_4 hm_4 => ?_)
  have mo2_4 : m_4[2]? = some (Ob.box 94 ((z12.map iE).flatten)) := m_push hm_4 ml_2
  have mo1_4 := m_push_o hm_4 mo1_2
  have mo0_4 := m_push_o hm_4 mo0_2
  have ml_4 := m_push_l hm_4 ml_2
  have ml_4 : _ = 3 := ml_4
  clear hm_4 mo1_2 mo0_2
  refine al_end (fun e_5 he_5 => ?_)
  have s1_5 := ef 1 he_5 (up_m rfl s1_3)
  have s2_5 := ef 2 he_5 (up_m rfl s2_3)
  have s4_5 := ef 4 he_5 (up_m rfl s4_3)
  have s5_5 := ef 5 he_5 up_h
  clear he_5 s1_3 s2_3 s4_3
  refine then_n ?_
  refine aw_seq ?_
  refine aw_seq ?_
  refine aw_text (by kernel_rfl) ?_
  refine al_ro' (ro_fld_ptr q3_fl90_0 rfl s2_5) trivial rfl ?_
  refine al_ro' (ro_fld_ptr q3_fl24_1 rfl up_h) trivial rfl ?_
  refine al_ro' (ro_eq (ro_ld_ptr q3_ty3 rfl mo0_4 up_h (by first | exact Nat.le_of_ble_eq_true rfl | omega | (simp only [lnS] <;> omega) | (simp <;> omega))) (by first | (simp only [packA_t, packA_f, iE, bE, setAt, cellsA, Value.cells, map_vc, map_vn, Nat.reduceAdd, qS, iE, set_iE] <;> rfl) | rfl)) trivial rfl ?_
  refine al_ro' (ro_move ev_c) trivial rfl ?_
  refine al_end (fun e_6 he_6 => ?_)
  have s1_6 := ef 1 he_6 (u4 rfl s1_5)
  have s2_6 := ef 2 he_6 (u4 rfl s2_5)
  have s4_6 := ef 4 he_6 (u4 rfl s4_5)
  have s5_6 := ef 5 he_6 (u4 rfl s5_5)
  have s9_6 := ef 9 he_6 (up_m rfl up_h)
  have s10_6 := ef 10 he_6 up_h
  clear he_6 s1_5 s2_5 s4_5 s5_5
  refine then_n ?_
  refine aw_block ?_
  refine aw_loop (S := (Int × List Int)) (fun s e mem => match s with | ⟨k, ys⟩ => (evA e (.tmp 10) = .v (.int .i64 k)) ∧ (evA e (.tmp 1) = evA e_6 (.tmp 1)) ∧ (evA e (.tmp 2) = evA e_6 (.tmp 2)) ∧ (evA e (.tmp 4) = evA e_6 (.tmp 4)) ∧ (evA e (.tmp 5) = evA e_6 (.tmp 5)) ∧ (evA e (.tmp 9) = evA e_6 (.tmp 9)) ∧ (mem[2]? = some (.box 94 (ys.map iE).flatten)) ∧ (mem[1]? = m_4[1]?) ∧ (mem[0]? = m_4[0]?) ∧ (mem.length = 3) ∧ ((0 ≤ k ∧ k ≤ t.win ∧ ys.length = 12 ∧ ∀ j : Nat, j < 12 → ys.getD j default = if j < k.toNat then (wat t i).getD j default else 0))) (fun s => match s with | ⟨k, ys⟩ => (t.win - k).toNat) ⟨_, z12⟩ ⟨s10_6, rfl, rfl, rfl, rfl, rfl, mo2_4, rfl, rfl, ml_4, ?_⟩ ?_
  · (refine ⟨by omega, by omega, rfl, fun j hj => ?_⟩; rw [if_neg (by omega)]; match j, hj with | 0, _ => rfl | 1, _ => rfl | 2, _ => rfl | 3, _ => rfl | 4, _ => rfl | 5, _ => rfl | 6, _ => rfl | 7, _ => rfl | 8, _ => rfl | 9, _ => rfl | 10, _ => rfl | 11, _ => rfl)
  · rintro ⟨k, ys⟩ e_7 m_7 ⟨s10_7, k1_7, k2_7, k4_7, k5_7, k9_7, mo2_7, mk1_7, mk0_7, ml_7, hinv⟩
    have s1_7 := k1_7.trans s1_6
    have s2_7 := k2_7.trans s2_6
    have s4_7 := k4_7.trans s4_6
    have s5_7 := k5_7.trans s5_6
    have s9_7 := k9_7.trans s9_6
    have mo1_7 := mk1_7.trans mo1_4
    have mo0_7 := mk0_7.trans mo0_4
    (obtain ⟨p1, p2, p3, p4⟩ := hinv; have hm := Int.tmod_nonneg (t.van.length : Int) (show 0 ≤ i + k by omega); have hm2 := Int.tmod_lt_of_pos (i + k) (show (0 : Int) < t.van.length by omega))
    refine aw_seq ?_
    refine aw_text (by kernel_rfl) ?_
    refine al_ro' (ro_lss s10_7 s9_7) trivial rfl ?_
    refine al_end (fun e_8 he_8 => ?_)
    have s1_8 := ef 1 he_8 (up_m rfl s1_7)
    have s2_8 := ef 2 he_8 (up_m rfl s2_7)
    have s4_8 := ef 4 he_8 (up_m rfl s4_7)
    have s5_8 := ef 5 he_8 (up_m rfl s5_7)
    have s9_8 := ef 9 he_8 (up_m rfl s9_7)
    have s10_8 := ef 10 he_8 (up_m rfl s10_7)
    have s11_8 := ef 11 he_8 up_h
    clear he_8 s10_7 s1_7 s2_7 s4_7 s5_7 s9_7
    refine then_n ?_
    refine aw_seq ?_
    refine aw_case s11_8 (fun hq_9 => ?_) (fun hq_9 => ?_)
    · (first | replace hq_9 := bnt hq_9 | replace hq_9 := bnf hq_9 | replace hq_9 := bt hq_9 | replace hq_9 := bf hq_9 | replace hq_9 := bt' hq_9 | replace hq_9 := bf' hq_9 | skip)
      first
      | (cases hq_9; done) | (exfalso; omega)
      | (
         refine aw_skip ?_
         refine then_n ?_
         refine aw_seq ?_
         refine aw_block ?_
         refine aw_seq ?_
         refine aw_text (by kernel_rfl) ?_
         refine al_ro' (ro_move s10_8) trivial rfl ?_
         refine al_ro' (ro_assign up_h) trivial rfl ?_
         refine al_end (fun e_10 he_10 => ?_)
         have s1_10 := ef 1 he_10 (u2 rfl s1_8)
         have s2_10 := ef 2 he_10 (u2 rfl s2_8)
         have s4_10 := ef 4 he_10 (u2 rfl s4_8)
         have s5_10 := ef 5 he_10 (u2 rfl s5_8)
         have s6_10 := ef 6 he_10 up_h
         have s9_10 := ef 9 he_10 (u2 rfl s9_8)
         have s10_10 := ef 10 he_10 (u2 rfl s10_8)
         clear he_10 s10_8 s11_8 s1_8 s2_8 s4_8 s5_8 s9_8
         refine then_n ?_
         refine aw_draw 15 (by kernel_rfl) (by kernel_rfl) (by kernel_rfl) (by kernel_rfl) ?_
         refine ds_ro' (ro_move s6_10) trivial rfl ?_
         refine ds_ro' (ro_fld_ptr q3_fl90_0 rfl (up_m rfl s2_10)) trivial rfl ?_
         refine ds_ro' (ro_fld_ptr q3_fl24_0 rfl up_h) trivial rfl ?_
         refine ds_ro' (ro_eq (ro_ld_ptr q3_ty22 rfl mo0_7 up_h (by first | exact Nat.le_of_ble_eq_true rfl | omega | (simp only [lnS] <;> omega) | (simp <;> omega))) (by first | (simp only [packA_t, packA_f, iE, bE, setAt, cellsA, Value.cells, map_vc, map_vn, Nat.reduceAdd, qS, iE, set_iE] <;> rfl) | rfl)) trivial rfl ?_
         refine ds_ro' (ro_move (u4 rfl s1_10)) trivial rfl ?_
         refine ds_ro' (ro_move (up_m rfl (u4 rfl s6_10))) trivial rfl ?_
         first | (refine ds_ro' (ro_add' (up_m rfl up_h) up_h ?_) trivial rfl ?_; · (unfold In64; omega)) | refine ds_ro' (ro_add (up_m rfl up_h) up_h) trivial rfl ?_
         refine ds_ro' (ro_fld_ptr q3_fl90_0 rfl (up_m rfl (u2 rfl (u4 rfl s2_10)))) trivial rfl ?_
         refine ds_ro' (ro_fld_ptr q3_fl24_0 rfl up_h) trivial rfl ?_
         refine ds_ro' (ro_eq (ro_ld_ptr q3_ty22 rfl mo0_7 up_h (by first | exact Nat.le_of_ble_eq_true rfl | omega | (simp only [lnS] <;> omega) | (simp <;> omega))) (by first | (simp only [packA_t, packA_f, iE, bE, setAt, cellsA, Value.cells, map_vc, map_vn, Nat.reduceAdd, qS, iE, set_iE] <;> rfl) | rfl)) trivial rfl ?_
         refine ds_ro' (ro_eq (ro_len_row up_h rfl q3_sl22.1) (by first | (simp only [lnS] <;> rfl) | rfl)) trivial rfl ?_
         refine ds_ro' (ro_rem (u4 rfl up_h) up_h (by first | decide | omega)) trivial rfl ?_
         refine ds_ro' (ro_eq (ro_ix q3_sl22 (u8 rfl up_h) up_h (by first | decide | omega | (simp <;> omega)) (by first | (refine idx_map ?_; first | omega | (simp only [lnS]; omega)) | (refine idx_mapI ?_; first | omega | (simp only [lnS]; omega)) | (refine idx_mapN ?_; first | omega | (simp only [lnS]; omega)) | rfl)) (by first | (simp only [packA_t, packA_f, iE, bE, setAt, cellsA, Value.cells, map_vc, map_vn, Nat.reduceAdd, qS, iE, set_iE] <;> rfl) | rfl)) trivial rfl ?_
         refine ds_ro' (ro_eq (ro_ld_ref q3_ty3 rfl up_h (by first | exact Nat.le_of_ble_eq_true rfl | omega | (simp only [lnS] <;> omega) | (simp <;> omega))) (by first | (simp only [packA_t, packA_f, iE, bE, setAt, cellsA, Value.cells, map_vc, map_vn, Nat.reduceAdd, qS, iE, set_iE] <;> rfl) | rfl)) trivial rfl ?_
         refine ds_ro' (ro_ixaD q3_ar94 (u2 rfl (u4 rfl (u8 rfl s5_10))) (up_m rfl (u4 rfl (u8 rfl up_h))) (by first | decide | omega | (simp <;> omega)) (by first | omega | (simp only [lnS] <;> omega) | (simp <;> omega))) trivial rfl ?_
         refine ds_nil ?_
         refine al_stm (st_store_ael up_h (up_m rfl up_h) rfl rfl mo2_7 rfl (by rintro l hl; obtain ⟨_, _, rfl⟩ := List.mem_map.1 hl; rfl) q3_sz3 rfl rfl (by first | omega | (simp only [lnS] <;> omega) | (simp <;> omega))) trivial rfl (fun m_11 hm_11 => ?_)
         have mo2_11 := m_set hm_11 mo2_7
         (try simp only [packA_t, packA_f, iE, bE, setAt, cellsA, Value.cells, map_vc, map_vn, Nat.reduceAdd, qS, iE, set_iE] at mo2_11)
         have mo1_11 := m_set_o hm_11 mo1_7 (by decide)
         have mo0_11 := m_set_o hm_11 mo0_7 (by decide)
         have ml_11 := m_set_l hm_11 ml_7
         clear hm_11 mo2_7 mo1_7 mo0_7
         refine al_end (fun e_12 he_12 => ?_)
         have s1_12 := ef 1 he_12 (up_n (up_m rfl (u2 rfl (u4 rfl (u8 rfl s1_10)))))
         have s2_12 := ef 2 he_12 (up_n (up_m rfl (u2 rfl (u4 rfl (u8 rfl s2_10)))))
         have s4_12 := ef 4 he_12 (up_n (up_m rfl (u2 rfl (u4 rfl (u8 rfl s4_10)))))
         have s5_12 := ef 5 he_12 (up_n (up_m rfl (u2 rfl (u4 rfl (u8 rfl s5_10)))))
         have s9_12 := ef 9 he_12 (up_n (up_m rfl (u2 rfl (u4 rfl (u8 rfl s9_10)))))
         have s10_12 := ef 10 he_12 (up_n (up_m rfl (u2 rfl (u4 rfl (u8 rfl s10_10)))))
         clear he_12 s10_10 s1_10 s2_10 s4_10 s5_10 s6_10 s9_10
         refine block_n ?_
         refine then_n ?_
         refine aw_text (by kernel_rfl) ?_
         first | (refine al_ro' (ro_add' s10_12 ev_c ?_) trivial rfl ?_; · (unfold In64; omega)) | refine al_ro' (ro_add s10_12 ev_c) trivial rfl ?_
         refine al_ro' (ro_move up_h) trivial rfl ?_
         refine al_end (fun e_13 he_13 => ?_)
         have s1_13 := ef 1 he_13 (u2 rfl s1_12)
         have s2_13 := ef 2 he_13 (u2 rfl s2_12)
         have s4_13 := ef 4 he_13 (u2 rfl s4_12)
         have s5_13 := ef 5 he_13 (u2 rfl s5_12)
         have s9_13 := ef 9 he_13 (u2 rfl s9_12)
         have s10_13 := ef 10 he_13 up_h
         clear he_13 s10_12 s1_12 s2_12 s4_12 s5_12 s9_12
         refine then_n ?_
         refine ⟨⟨_, _⟩, ⟨s10_13, (s1_13.trans s1_6.symm), (s2_13.trans s2_6.symm), (s4_13.trans s4_6.symm), (s5_13.trans s5_6.symm), (s9_13.trans s9_6.symm), mo2_11, (mo1_11.trans mo1_4.symm), (mo0_11.trans mo0_4.symm), ml_11, ?_⟩, ?_⟩
         · (refine ⟨by omega, by omega, by simp [p3], fun j hj => ?_⟩; rw [getD_setI (by omega), p4 j hj]; by_cases hjk : j = k.toNat; (rw [if_pos hjk, if_pos (by omega), hjk, wat_at t i (by omega), if_pos (by omega), Int.toNat_of_nonneg p1]); (rw [if_neg hjk]; by_cases hj2 : j < k.toNat; (rw [if_pos hj2, if_pos (by omega)]); (rw [if_neg hj2, if_neg (by omega)])))
         · ((try dsimp only); omega))
    · (first | replace hq_9 := bnt hq_9 | replace hq_9 := bnf hq_9 | replace hq_9 := bt hq_9 | replace hq_9 := bf hq_9 | replace hq_9 := bt' hq_9 | replace hq_9 := bf' hq_9 | skip)
      first
      | (cases hq_9; done) | (exfalso; omega)
      | (
         refine aw_exit ?_
         refine then_x ?_
         refine then_x ?_
         refine block_hit ?_
         refine then_n ?_
         refine aw_seq ?_
         refine aw_text (by kernel_rfl) ?_
         refine al_ro' (ro_ld_all q3_ty94 mo2_7 s5_8 (by first | rfl | (rw [flat_map_len (k := 1)] <;> first | omega | (intro _; rfl)))) trivial rfl ?_
         refine al_stm (st_store_all (up_m rfl s4_8) up_h rfl (by first | rfl | (apply oneL_flat; intro _; rfl)) mo1_7 q3_sz94 (by first | rfl | (rw [flat_map_len (k := 1)] <;> first | omega | (intro _; rfl))) (by first | rfl | (rw [flat_map_len (k := 1)] <;> first | omega | (intro _; rfl)))) trivial rfl (fun m_14 hm_14 => ?_)
         have mo1_14 := m_set hm_14 mo1_7
         (try simp only [packA_t, packA_f, iE, bE, setAt, cellsA, Value.cells, map_vc, map_vn, Nat.reduceAdd, qS, iE, set_iE] at mo1_14)
         have mo2_14 := m_set_o hm_14 mo2_7 (by decide)
         have mo0_14 := m_set_o hm_14 mo0_7 (by decide)
         have ml_14 := m_set_l hm_14 ml_7
         clear hm_14 mo2_7 mo1_7 mo0_7
         refine al_end (fun e_15 he_15 => ?_)
         have s4_15 := ef 4 he_15 (up_n (up_m rfl s4_8))
         clear he_15 s10_8 s11_8 s1_8 s2_8 s4_8 s5_8 s9_8
         refine then_n ?_
         refine aw_ret ?_
         refine ret1 (.inr rfl) (by kernel_rfl) (resV_cell s4_15 mo1_14 q3_ty94 (by first | exact Nat.le_of_ble_eq_true rfl | (rw [flat_map_len (k := 1)] <;> first | omega | (intro _; rfl))) (by simp)) (vw_r (.ro _ (by first | rfl | (apply ro_aggF; intro _; rfl) | (apply roL_flat; intro _; rfl)))) ?_
         clear s4_15 mo1_14 mo2_14 mo0_14 ml_14
         (rw [take_flat_all (k := 1) (fun _ => rfl) (by omega), list_extI (xs := ys) (ys := wat t i) (by rw [wat_len, p3]) (fun j hj => by rw [p4 j (by omega)]; by_cases hjk : j < k.toNat; (rw [if_pos hjk]); (rw [if_neg hjk, wat_at t i (by omega), if_neg (by omega)]))]))
def dfB (x y : Int) : Bool := decide (x ≠ y ∧ x ≠ 2 ∧ y ≠ 2)
def dfN (a b : List Int) : Nat → Int
  | 0 => 0
  | n + 1 => dfN a b n + if dfB (a.getD n default) (b.getD n default) then 1 else 0
theorem dfN_bd (a b : List Int) : ∀ n : Nat, 0 ≤ dfN a b n ∧ dfN a b n ≤ n
  | 0 => by simp [dfN]
  | n + 1 => by
    have := dfN_bd a b n
    simp only [dfN]; split <;> omega
set_option maxRecDepth 100000 in
set_option maxHeartbeats 4000000 in
theorem differ_ok (a b : List Int) (ha : a.length = 12) (hb : b.length = 12) : FnOk Try.prog 97 [.agg (a.map iE).flatten, .agg (b.map iE).flatten] (fun q => q = zA (dfN a b 12)) := by
  refine fnOk_of (fn := Try.f97) 32 (by kernel_rfl) rfl (by kernel_rfl) (Nat.le_of_ble_eq_true rfl) ?_
  intro e_0 m_0 hA hm_0
  have s0_0 : evA e_0 (.tmp 0) = _ := hA 0 _ rfl
  have s1_0 : evA e_0 (.tmp 1) = _ := hA 1 _ rfl
  have ml_0 : m_0.length = 0 := by rw [hm_0]; rfl
  clear hA hm_0
  refine aw_seq ?_
  refine aw_text (by kernel_rfl) ?_
  refine al_stm (st_box s0_0 rfl ml_0) trivial rfl (fun m_1 hm_1 => ?_)
  have mo0_1 := m_push hm_1 ml_0
  (try simp only [packA_t, packA_f, iE, bE, setAt, cellsA, Value.cells, map_vc, map_vn, Nat.reduceAdd, qS, iE] at mo0_1)
  have ml_1 := m_push_l hm_1 ml_0
  have ml_1 : _ = 1 := ml_1
  clear hm_1
  refine al_stm (st_box (up_m rfl s1_0) rfl ml_1) trivial rfl (fun m_2 hm_2 => ?_)
  have mo1_2 := m_push hm_2 ml_1
  (try simp only [packA_t, packA_f, iE, bE, setAt, cellsA, Value.cells, map_vc, map_vn, Nat.reduceAdd, qS, iE] at mo1_2)
  have mo0_2 := m_push_o hm_2 mo0_1
  have ml_2 := m_push_l hm_2 ml_1
  have ml_2 : _ = 2 := ml_2
  clear hm_2 mo0_1
  refine al_ro' (ro_assign ev_c) trivial rfl ?_
  refine al_end (fun e_3 he_3 => ?_)
  have s2_3 := ef 2 he_3 (u2 rfl up_h)
  have s3_3 := ef 3 he_3 (up_m rfl up_h)
  clear he_3 s0_0 s1_0
  refine then_n ?_
  refine aw_seq ?_
  refine aw_text (by kernel_rfl) ?_
  refine al_ro' (ro_assign ev_c) trivial rfl ?_
  refine al_end (fun e_4 he_4 => ?_)
  have s2_4 := ef 2 he_4 (up_m rfl s2_3)
  have s3_4 := ef 3 he_4 (up_m rfl s3_3)
  have s5_4 := ef 5 he_4 up_h
  clear he_4 s2_3 s3_3
  refine then_n ?_
  refine aw_seq ?_
  refine aw_seq ?_
  refine aw_text (by kernel_rfl) ?_
  refine al_ro' (ro_ld_all q3_ty94 mo0_2 s2_4 (by first | rfl | (rw [flat_map_len (k := 1)] <;> first | omega | (intro _; rfl)))) trivial rfl ?_
  refine al_ro' (ro_move ev_c) trivial rfl ?_
  refine al_end (fun e_5 he_5 => ?_)
  have s3_5 := ef 3 he_5 (u2 rfl s3_4)
  have s5_5 := ef 5 he_5 (u2 rfl s5_4)
  have s8_5 := ef 8 he_5 (up_m rfl up_h)
  have s9_5 := ef 9 he_5 up_h
  clear he_5 s2_4 s3_4 s5_4
  refine then_n ?_
  refine aw_block ?_
  refine aw_loop (S := (Int × Int)) (fun s e mem => match s with | ⟨k, n⟩ => (evA e (.tmp 9) = .v (.int .i64 k)) ∧ (evA e (.tmp 5) = .v (.int .i64 n)) ∧ (evA e (.tmp 3) = evA e_5 (.tmp 3)) ∧ (evA e (.tmp 8) = evA e_5 (.tmp 8)) ∧ (mem[1]? = m_2[1]?) ∧ (mem[0]? = m_2[0]?) ∧ (mem.length = 2) ∧ ((0 ≤ k ∧ k ≤ 12 ∧ n = dfN a b k.toNat))) (fun s => match s with | ⟨k, n⟩ => (12 - k).toNat) ⟨_, _⟩ ⟨s9_5, s5_5, rfl, rfl, rfl, rfl, ml_2, ?_⟩ ?_
  · (exact ⟨by omega, by omega, rfl⟩)
  · rintro ⟨k, n⟩ e_6 m_6 ⟨s9_6, s5_6, k3_6, k8_6, mk1_6, mk0_6, ml_6, hinv⟩
    have s3_6 := k3_6.trans s3_5
    have s8_6 := k8_6.trans s8_5
    have mo1_6 := mk1_6.trans mo1_2
    have mo0_6 := mk0_6.trans mo0_2
    (obtain ⟨p1, p2, p3⟩ := hinv; have hd := dfN_bd a b k.toNat)
    refine aw_seq ?_
    refine aw_text (by kernel_rfl) ?_
    refine al_ro' (ro_lss s9_6 ev_c) trivial rfl ?_
    refine al_end (fun e_7 he_7 => ?_)
    have s3_7 := ef 3 he_7 (up_m rfl s3_6)
    have s5_7 := ef 5 he_7 (up_m rfl s5_6)
    have s8_7 := ef 8 he_7 (up_m rfl s8_6)
    have s9_7 := ef 9 he_7 (up_m rfl s9_6)
    have s10_7 := ef 10 he_7 up_h
    clear he_7 s3_6 s5_6 s8_6 s9_6
    refine then_n ?_
    refine aw_seq ?_
    refine aw_case s10_7 (fun hq_8 => ?_) (fun hq_8 => ?_)
    · (first | replace hq_8 := bnt hq_8 | replace hq_8 := bnf hq_8 | replace hq_8 := bt hq_8 | replace hq_8 := bf hq_8 | replace hq_8 := bt' hq_8 | replace hq_8 := bf' hq_8 | skip)
      first
      | (cases hq_8; done) | (exfalso; omega)
      | (
         refine aw_skip ?_
         refine then_n ?_
         refine aw_seq ?_
         refine aw_block ?_
         refine aw_seq ?_
         refine aw_text (by kernel_rfl) ?_
         refine al_ro' (ro_move s9_7) trivial rfl ?_
         refine al_ro' (ro_eq (ro_aidx q3_at94 rfl (up_m rfl s8_7) (up_m rfl s9_7) rfl (by rintro l hl; obtain ⟨_, _, rfl⟩ := List.mem_map.1 hl; rfl) (by first | decide | omega | (simp <;> omega)) (by first | omega | (simp only [lnS] <;> omega) | (simp <;> omega)) (by first | (refine idx_map ?_; first | omega | (simp only [lnS]; omega)) | (refine idx_mapI ?_; first | omega | (simp only [lnS]; omega)) | (refine idx_mapN ?_; first | omega | (simp only [lnS]; omega)) | rfl)) (by first | (simp only [packA_t, packA_f, iE, bE, setAt, cellsA, Value.cells, map_vc, map_vn, Nat.reduceAdd, qS, iE] <;> rfl) | rfl)) trivial rfl ?_
         refine al_ro' (ro_assign (up_m rfl up_h)) trivial rfl ?_
         refine al_ro' (ro_assign (up_m rfl up_h)) trivial rfl ?_
         refine al_end (fun e_9 he_9 => ?_)
         have s3_9 := ef 3 he_9 (u4 rfl s3_7)
         have s5_9 := ef 5 he_9 (u4 rfl s5_7)
         have s6_9 := ef 6 he_9 (up_m rfl up_h)
         have s7_9 := ef 7 he_9 up_h
         have s8_9 := ef 8 he_9 (u4 rfl s8_7)
         have s9_9 := ef 9 he_9 (u4 rfl s9_7)
         clear he_9 s10_7 s3_7 s5_7 s8_7 s9_7
         refine then_n ?_
         refine aw_seq ?_
         refine aw_cut (fun e mem => (evA e (.tmp 27) = .v (.bool (dfB (a.getD k.toNat default) (b.getD k.toNat default)))) ∧ (evA e (.tmp 3) = evA e_9 (.tmp 3)) ∧ (evA e (.tmp 5) = evA e_9 (.tmp 5)) ∧ (evA e (.tmp 8) = evA e_9 (.tmp 8)) ∧ (evA e (.tmp 9) = evA e_9 (.tmp 9)) ∧ m_6 = mem) ?_ ?_
         ·
           refine aw_text (by kernel_rfl) ?_
           refine al_ro' (ro_move s7_9) trivial rfl ?_
           refine al_ro' (ro_move (up_m rfl s6_9)) trivial rfl ?_
           refine al_ro' (ro_ixaD q3_ar94 (u2 rfl s3_9) up_h (by first | decide | omega | (simp <;> omega)) (by first | omega | (simp only [lnS] <;> omega) | (simp <;> omega))) trivial rfl ?_
           refine al_ro' (ro_eq (ro_ld_ael q3_ty3 rfl mo1_6 up_h rfl (by rintro l hl; obtain ⟨_, _, rfl⟩ := List.mem_map.1 hl; rfl) rfl (by first | (refine idx_map ?_; first | omega | (simp only [lnS]; omega)) | (refine idx_mapI ?_; first | omega | (simp only [lnS]; omega)) | (refine idx_mapN ?_; first | omega | (simp only [lnS]; omega)) | rfl)) (by first | (simp only [packA_t, packA_f, iE, bE, setAt, cellsA, Value.cells, map_vc, map_vn, Nat.reduceAdd, qS, iE] <;> rfl) | rfl)) trivial rfl ?_
           refine al_ro' (ro_neq (up_m rfl (u2 rfl up_h)) up_h) trivial rfl ?_
           refine al_ro' (ro_move up_h) trivial rfl ?_
           refine al_case up_h (fun hb_11 hq_11 => ?_) (fun hb_11 hq_11 => ?_)
           · (first | replace hq_11 := bnt hq_11 | replace hq_11 := bnf hq_11 | replace hq_11 := bt hq_11 | replace hq_11 := bf hq_11 | replace hq_11 := bt' hq_11 | replace hq_11 := bf' hq_11 | skip)
             first
             | (cases hq_11; done) | (exfalso; omega)
             | (
                refine al_ro' (ro_move (u2 rfl (u4 rfl s7_9))) ⟨_, rfl, hb_11⟩ rfl ?_
                refine al_ro' (ro_neq up_h ev_c) ⟨_, rfl, (up_m rfl hb_11)⟩ rfl ?_
                refine al_ro' (ro_pickT (u2 rfl hb_11) up_h) trivial rfl ?_
                refine al_ro' (ro_move up_h) trivial rfl ?_
                refine al_case up_h (fun hb_12 hq_12 => ?_) (fun hb_12 hq_12 => ?_)
                · (first | replace hq_12 := bnt hq_12 | replace hq_12 := bnf hq_12 | replace hq_12 := bt hq_12 | replace hq_12 := bf hq_12 | replace hq_12 := bt' hq_12 | replace hq_12 := bf' hq_12 | skip)
                  first
                  | (cases hq_12; done) | (exfalso; omega)
                  | (
                     refine al_ro' (ro_move (u2 rfl (u8 rfl s6_9))) ⟨_, rfl, hb_12⟩ rfl ?_
                     refine al_ro' (ro_ixaD q3_ar94 (up_m rfl (u2 rfl (u8 rfl s3_9))) up_h (by first | decide | omega | (simp <;> omega)) (by first | omega | (simp only [lnS] <;> omega) | (simp <;> omega))) ⟨_, rfl, (up_m rfl hb_12)⟩ rfl ?_
                     refine al_ro' (ro_eq (ro_ld_ael q3_ty3 rfl mo1_6 up_h rfl (by rintro l hl; obtain ⟨_, _, rfl⟩ := List.mem_map.1 hl; rfl) rfl (by first | (refine idx_map ?_; first | omega | (simp only [lnS]; omega)) | (refine idx_mapI ?_; first | omega | (simp only [lnS]; omega)) | (refine idx_mapN ?_; first | omega | (simp only [lnS]; omega)) | rfl)) (by first | (simp only [packA_t, packA_f, iE, bE, setAt, cellsA, Value.cells, map_vc, map_vn, Nat.reduceAdd, qS, iE] <;> rfl) | rfl)) ⟨_, rfl, (u2 rfl hb_12)⟩ rfl ?_
                     refine al_ro' (ro_neq up_h ev_c) ⟨_, rfl, (up_m rfl (u2 rfl hb_12))⟩ rfl ?_
                     refine al_ro' (ro_pickT (u4 rfl hb_12) up_h) trivial rfl ?_
                     refine al_end (fun e_13 he_13 => ?_)
                     have s3_13 := ef 3 he_13 (up_m rfl (u2 rfl (u4 rfl (u8 rfl s3_9))))
                     have s5_13 := ef 5 he_13 (up_m rfl (u2 rfl (u4 rfl (u8 rfl s5_9))))
                     have s8_13 := ef 8 he_13 (up_m rfl (u2 rfl (u4 rfl (u8 rfl s8_9))))
                     have s9_13 := ef 9 he_13 (up_m rfl (u2 rfl (u4 rfl (u8 rfl s9_9))))
                     have s27_13 := ef 27 he_13 up_h
                     clear he_13
                     refine then_n ⟨(s27_13).trans (by (refine avb ?_; simp only [dfB, decide_eq_true_eq, Bool.false_eq_true, true_iff, false_iff, iff_true, iff_false, Bool.not_eq_true', decide_eq_false_iff_not]; omega)), (s3_13).trans (s3_9).symm, (s5_13).trans (s5_9).symm, (s8_13).trans (s8_9).symm, (s9_13).trans (s9_9).symm, rfl⟩)
                · (first | replace hq_12 := bnt hq_12 | replace hq_12 := bnf hq_12 | replace hq_12 := bt hq_12 | replace hq_12 := bf hq_12 | replace hq_12 := bt' hq_12 | replace hq_12 := bf' hq_12 | skip)
                  first
                  | (cases hq_12; done) | (exfalso; omega)
                  | (
                     refine al_skip' ⟨_, rfl, .inl hb_12⟩ rfl ?_
                     refine al_skip' ⟨_, rfl, .inl (up_m rfl hb_12)⟩ rfl ?_
                     refine al_skip' ⟨_, rfl, .inl (u2 rfl hb_12)⟩ rfl ?_
                     refine al_skip' ⟨_, rfl, .inl (up_m rfl (u2 rfl hb_12))⟩ rfl ?_
                     refine al_ro' (ro_pickF (u4 rfl hb_12) ev_c) trivial rfl ?_
                     refine al_end (fun e_14 he_14 => ?_)
                     have s3_14 := ef 3 he_14 (up_m rfl (u2 rfl (u4 rfl (u8 rfl s3_9))))
                     have s5_14 := ef 5 he_14 (up_m rfl (u2 rfl (u4 rfl (u8 rfl s5_9))))
                     have s8_14 := ef 8 he_14 (up_m rfl (u2 rfl (u4 rfl (u8 rfl s8_9))))
                     have s9_14 := ef 9 he_14 (up_m rfl (u2 rfl (u4 rfl (u8 rfl s9_9))))
                     have s27_14 := ef 27 he_14 up_h
                     clear he_14
                     refine then_n ⟨(s27_14).trans (by (refine avb ?_; simp only [dfB, decide_eq_true_eq, Bool.false_eq_true, true_iff, false_iff, iff_true, iff_false, Bool.not_eq_true', decide_eq_false_iff_not]; omega)), (s3_14).trans (s3_9).symm, (s5_14).trans (s5_9).symm, (s8_14).trans (s8_9).symm, (s9_14).trans (s9_9).symm, rfl⟩))
           · (first | replace hq_11 := bnt hq_11 | replace hq_11 := bnf hq_11 | replace hq_11 := bt hq_11 | replace hq_11 := bf hq_11 | replace hq_11 := bt' hq_11 | replace hq_11 := bf' hq_11 | skip)
             first
             | (cases hq_11; done) | (exfalso; omega)
             | (
                refine al_skip' ⟨_, rfl, .inl hb_11⟩ rfl ?_
                refine al_skip' ⟨_, rfl, .inl (up_m rfl hb_11)⟩ rfl ?_
                refine al_ro' (ro_pickF (u2 rfl hb_11) ev_c) trivial rfl ?_
                refine al_ro' (ro_move up_h) trivial rfl ?_
                refine al_skip' ⟨_, rfl, .inl up_h⟩ rfl ?_
                refine al_skip' ⟨_, rfl, .inl (up_m rfl up_h)⟩ rfl ?_
                refine al_skip' ⟨_, rfl, .inl (u2 rfl up_h)⟩ rfl ?_
                refine al_skip' ⟨_, rfl, .inl (up_m rfl (u2 rfl up_h))⟩ rfl ?_
                refine al_ro' (ro_pickF (u4 rfl up_h) ev_c) trivial rfl ?_
                refine al_end (fun e_15 he_15 => ?_)
                have s3_15 := ef 3 he_15 (up_m rfl (u2 rfl (u4 rfl (u8 rfl s3_9))))
                have s5_15 := ef 5 he_15 (up_m rfl (u2 rfl (u4 rfl (u8 rfl s5_9))))
                have s8_15 := ef 8 he_15 (up_m rfl (u2 rfl (u4 rfl (u8 rfl s8_9))))
                have s9_15 := ef 9 he_15 (up_m rfl (u2 rfl (u4 rfl (u8 rfl s9_9))))
                have s27_15 := ef 27 he_15 up_h
                clear he_15
                refine then_n ⟨(s27_15).trans (by (refine avb ?_; simp only [dfB, decide_eq_true_eq, Bool.false_eq_true, true_iff, false_iff, iff_true, iff_false, Bool.not_eq_true', decide_eq_false_iff_not]; omega)), (s3_15).trans (s3_9).symm, (s5_15).trans (s5_9).symm, (s8_15).trans (s8_9).symm, (s9_15).trans (s9_9).symm, rfl⟩)
         · rintro e_10 _ ⟨s27_10, k3_10, k5_10, k8_10, k9_10, rfl⟩
           have s3_10 := k3_10.trans s3_9
           have s5_10 := k5_10.trans s5_9
           have s8_10 := k8_10.trans s8_9
           have s9_10 := k9_10.trans s9_9
           refine aw_case s27_10 (fun hq_16 => ?_) (fun hq_16 => ?_)
           · (first | replace hq_16 := bnt hq_16 | replace hq_16 := bnf hq_16 | replace hq_16 := bt hq_16 | replace hq_16 := bf hq_16 | replace hq_16 := bt' hq_16 | replace hq_16 := bf' hq_16 | skip)
             first
             | (cases hq_16; done) | (exfalso; omega)
             | (
                refine aw_text (by kernel_rfl) ?_
                refine al_ro' (ro_move s5_10) trivial rfl ?_
                first | (refine al_ro' (ro_add' up_h ev_c ?_) trivial rfl ?_; · (unfold In64; omega)) | refine al_ro' (ro_add up_h ev_c) trivial rfl ?_
                refine al_ro' (ro_assign up_h) trivial rfl ?_
                refine al_end (fun e_17 he_17 => ?_)
                have s3_17 := ef 3 he_17 (up_m rfl (u2 rfl s3_10))
                have s5_17 := ef 5 he_17 up_h
                have s8_17 := ef 8 he_17 (up_m rfl (u2 rfl s8_10))
                have s9_17 := ef 9 he_17 (up_m rfl (u2 rfl s9_10))
                clear he_17 s27_10 s3_10 s5_10 s8_10 s9_10
                refine block_n ?_
                refine then_n ?_
                refine aw_text (by kernel_rfl) ?_
                first | (refine al_ro' (ro_add' s9_17 ev_c ?_) trivial rfl ?_; · (unfold In64; omega)) | refine al_ro' (ro_add s9_17 ev_c) trivial rfl ?_
                refine al_ro' (ro_move up_h) trivial rfl ?_
                refine al_end (fun e_18 he_18 => ?_)
                have s3_18 := ef 3 he_18 (u2 rfl s3_17)
                have s5_18 := ef 5 he_18 (u2 rfl s5_17)
                have s8_18 := ef 8 he_18 (u2 rfl s8_17)
                have s9_18 := ef 9 he_18 up_h
                clear he_18 s3_17 s5_17 s8_17 s9_17
                refine then_n ?_
                refine ⟨⟨_, _⟩, ⟨s9_18, s5_18, (s3_18.trans s3_5.symm), (s8_18.trans s8_5.symm), (mo1_6.trans mo1_2.symm), (mo0_6.trans mo0_2.symm), ml_6, ?_⟩, ?_⟩
                · (refine ⟨by omega, by omega, ?_⟩; rw [show (k + 1).toNat = k.toNat + 1 by omega, dfN, p3]; simp only [dfB, decide_eq_true_eq]; first | (rw [if_pos (by omega)]; done) | (rw [if_neg (by omega)]; omega))
                · ((try dsimp only); omega))
           · (first | replace hq_16 := bnt hq_16 | replace hq_16 := bnf hq_16 | replace hq_16 := bt hq_16 | replace hq_16 := bf hq_16 | replace hq_16 := bt' hq_16 | replace hq_16 := bf' hq_16 | skip)
             first
             | (cases hq_16; done) | (exfalso; omega)
             | (
                refine aw_skip ?_
                refine block_n ?_
                refine then_n ?_
                refine aw_text (by kernel_rfl) ?_
                first | (refine al_ro' (ro_add' s9_10 ev_c ?_) trivial rfl ?_; · (unfold In64; omega)) | refine al_ro' (ro_add s9_10 ev_c) trivial rfl ?_
                refine al_ro' (ro_move up_h) trivial rfl ?_
                refine al_end (fun e_19 he_19 => ?_)
                have s3_19 := ef 3 he_19 (u2 rfl s3_10)
                have s5_19 := ef 5 he_19 (u2 rfl s5_10)
                have s8_19 := ef 8 he_19 (u2 rfl s8_10)
                have s9_19 := ef 9 he_19 up_h
                clear he_19 s27_10 s3_10 s5_10 s8_10 s9_10
                refine then_n ?_
                refine ⟨⟨_, _⟩, ⟨s9_19, s5_19, (s3_19.trans s3_5.symm), (s8_19.trans s8_5.symm), (mo1_6.trans mo1_2.symm), (mo0_6.trans mo0_2.symm), ml_6, ?_⟩, ?_⟩
                · (refine ⟨by omega, by omega, ?_⟩; rw [show (k + 1).toNat = k.toNat + 1 by omega, dfN, p3]; simp only [dfB, decide_eq_true_eq]; first | (rw [if_pos (by omega)]; done) | (rw [if_neg (by omega)]; omega))
                · ((try dsimp only); omega)))
    · (first | replace hq_8 := bnt hq_8 | replace hq_8 := bnf hq_8 | replace hq_8 := bt hq_8 | replace hq_8 := bf hq_8 | replace hq_8 := bt' hq_8 | replace hq_8 := bf' hq_8 | skip)
      first
      | (cases hq_8; done) | (exfalso; omega)
      | (
         refine aw_exit ?_
         refine then_x ?_
         refine then_x ?_
         refine block_hit ?_
         refine then_n ?_
         refine aw_seq ?_
         refine aw_text (by kernel_rfl) ?_
         refine al_ro' (ro_move s5_7) trivial rfl ?_
         refine al_ro' (ro_assign up_h) trivial rfl ?_
         refine al_end (fun e_20 he_20 => ?_)
         have s4_20 := ef 4 he_20 up_h
         clear he_20 s10_7 s3_7 s5_7 s8_7 s9_7
         refine then_n ?_
         refine aw_ret ?_
         refine ret1 (.inr rfl) (by kernel_rfl) (resV_tmp s4_20) (.ro _ rfl) ?_
         clear s4_20 mo1_6 mo0_6 ml_6
         (rw [p3, show k.toNat = 12 by omega]))
end Go.Proofs.Ytgiiedpambimoaa
