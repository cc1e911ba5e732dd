/- Contracts of chapter 5: where a train stands, as the document has it. No conditions on a program. -/
import Derived.Test.YtelgkjekpcfffaaK12
namespace Go.Proofs.Ytelgkjekpcfffaa
open Go Go.RowKit Go.Proofs
set_option linter.unusedSimpArgs false
set_option linter.unusedVariables false
theorem k20_az68 : (Try.prog.info? 68).bind (·.zero) = some (.agg #[.int .i64 0, .int .i64 0]) := by kernel_rfl
theorem k20_bz68 : (Try.prog.info? 68).bind (·.zero) = some (.agg #[.int .i64 0, .int .i64 0]) := by kernel_rfl
theorem k20_bu68 : Try.prog.underlying 68 = some (.struct (fsOf Try.prog 68)) := by kernel_rfl
theorem k20_bp68 : ∀ w, ((fsOf Try.prog 68).mapM fun f => Prod.mk f.offset <$> sizeOf f.type : Sem (Array (Nat × Nat))).run Try.prog w = .ok (#[(0, 1), (1, 1)]) w := fun _ => by kernel_rfl
theorem k20_fl24_1 : FldIs Try.prog 24 1 1 false 1 := by unfold FldIs; kernel_rfl
theorem k20_fl26_0 : FldIs Try.prog 26 0 0 false 1 := by unfold FldIs; kernel_rfl
theorem k20_fl42_0 : FldIs Try.prog 42 0 0 false 1 := by unfold FldIs; kernel_rfl
theorem k20_fl42_1 : FldIs Try.prog 42 1 1 false 1 := by unfold FldIs; kernel_rfl
theorem k20_fl66_0 : FldIs Try.prog 66 0 0 false 1 := by unfold FldIs; kernel_rfl
theorem k20_hcf38 : ∀ args w, (callFunc 38 args).run Try.prog w = .ok (.enter 38 args) w := fun _ _ => by kernel_rfl
theorem k20_hcf70 : ∀ args w, (callFunc 70 args).run Try.prog w = .ok (.enter 70 args) w := fun _ _ => by kernel_rfl
theorem k20_hcf83 : ∀ args w, (callFunc 83 args).run Try.prog w = .ok (.enter 83 args) w := fun _ _ => by kernel_rfl
theorem k20_hcf84 : ∀ args w, (callFunc 84 args).run Try.prog w = .ok (.enter 84 args) w := fun _ _ => by kernel_rfl
theorem k20_sl22 : SlIs Try.prog 22 66 4 32 (.agg #[.int .i64 0, .int .i64 0, .int .i64 0, .bool false]) := ⟨by kernel_rfl, by kernel_rfl, by kernel_rfl⟩
theorem k20_sl30 : SlIs Try.prog 30 3 1 8 (.int .i64 0) := ⟨by kernel_rfl, by kernel_rfl, by kernel_rfl⟩
theorem k20_sz68 : (Try.prog.info? 68).map (·.size) = some 2 := by kernel_rfl
theorem k20_ty22 : TyIs Try.prog 22 false 1 := ⟨by kernel_rfl, by kernel_rfl⟩
theorem k20_ty24 : TyIs Try.prog 24 true 2 := ⟨by kernel_rfl, by kernel_rfl⟩
theorem k20_ty3 : TyIs Try.prog 3 false 1 := ⟨by kernel_rfl, by kernel_rfl⟩
theorem k20_ty68 : TyIs Try.prog 68 true 2 := ⟨by kernel_rfl, by kernel_rfl⟩

theorem tdiv_floor {n k : Int} (hk : 1 ≤ k) : (n.tmod k < 0 → n.tdiv k - 1 = n / k) ∧ (¬ n.tmod k < 0 → n.tdiv k = n / k) := by
  have h1 := Int.mul_tdiv_add_tmod n k
  have h2 : n.tmod k < k := Int.tmod_lt_of_pos n (by omega)
  have h3 : -k < n.tmod k := Int.lt_tmod_of_pos n (by omega)
  constructor
  · intro h
    have := (Int.ediv_emod_unique (a := n) (b := k) (r := n.tmod k + k) (q := n.tdiv k - 1) (by omega)).2 ⟨by rw [Int.mul_sub]; omega, by omega, by omega⟩
    exact this.1.symm
  · intro h
    have := (Int.ediv_emod_unique (a := n) (b := k) (r := n.tmod k) (q := n.tdiv k) (by omega)).2 ⟨by omega, by omega, h2⟩
    exact this.1.symm
theorem tdiv_le {n k : Int} (hk : 1 ≤ k) (hn : -1000000000000000 ≤ n ∧ n ≤ 1000000000000000) : -1000000000000000 ≤ n.tdiv k ∧ n.tdiv k ≤ 1000000000000000 := by
  rcases Int.le_total 0 n with h | h
  · have := tdiv_bound h hk; omega
  · have := tdiv_bound (x := -n) (y := k) (by omega) hk
    rw [Int.neg_tdiv] at this; omega
set_option maxRecDepth 100000 in
set_option maxHeartbeats 1000000 in
theorem floor_ok (n k : Int) (hk : 1 ≤ k) (hn : -1000000000000000 ≤ n ∧ n ≤ 1000000000000000) : FnOk Try.prog 83 [iA n, iA k] (fun q => q = iA (n / k)) := by
  have hb := tdiv_le hk hn
  have hf := tdiv_floor (n := n) hk
  refine fnOk_of (fn := Try.f83) 16 (by kernel_rfl) rfl (by kernel_rfl) (Nat.le_of_ble_eq_true rfl) ?_
  intro e_0 m_0 hA hm_0
  have s0_0 : evA e_0 (.tmp 0) = _ := hA 0 _ rfl
  have s1_0 : evA e_0 (.tmp 1) = _ := hA 1 _ rfl
  have ml_0 : m_0.length = 0 := by rw [hm_0]; rfl
  clear hA hm_0
  refine aw_seq ?_
  refine aw_text (by kernel_rfl) ?_
  refine al_ro' (ro_assign ev_c) trivial rfl ?_
  refine al_end (fun e_1 he_1 => ?_)
  have s0_1 := ef 0 he_1 (up_m rfl s0_0)
  have s1_1 := ef 1 he_1 (up_m rfl s1_0)
  clear he_1 s0_0 s1_0
  refine then_n ?_
  refine aw_seq ?_
  refine aw_text (by kernel_rfl) ?_
  refine al_ro' (ro_move s0_1) trivial rfl ?_
  refine al_ro' (ro_move (up_m rfl s1_1)) trivial rfl ?_
  first | (refine al_ro' (ro_quo' (up_m rfl up_h) up_h (by first | decide | omega) ?_) trivial rfl ?_; · (unfold In64; omega)) | refine al_ro' (ro_quo (up_m rfl up_h) up_h (by first | decide | omega)) trivial rfl ?_
  refine al_ro' (ro_assign up_h) trivial rfl ?_
  refine al_end (fun e_2 he_2 => ?_)
  have s0_2 := ef 0 he_2 (u4 rfl s0_1)
  have s1_2 := ef 1 he_2 (u4 rfl s1_1)
  have s5_2 := ef 5 he_2 up_h
  clear he_2 s0_1 s1_1
  refine then_n ?_
  refine aw_seq ?_
  refine aw_seq ?_
  refine aw_text (by kernel_rfl) ?_
  refine al_ro' (ro_move s0_2) trivial rfl ?_
  refine al_ro' (ro_move (up_m rfl s1_2)) trivial rfl ?_
  refine al_ro' (ro_rem (up_m rfl up_h) up_h (by first | decide | omega)) trivial rfl ?_
  refine al_ro' (ro_lss up_h ev_c) trivial rfl ?_
  refine al_end (fun e_3 he_3 => ?_)
  have s5_3 := ef 5 he_3 (u4 rfl s5_2)
  have s12_3 := ef 12 he_3 up_h
  clear he_3 s0_2 s1_2 s5_2
  refine then_n ?_
  refine aw_case s12_3 (fun hq_4 => ?_) (fun hq_4 => ?_)
  · (first | replace hq_4 := bnt hq_4 | replace hq_4 := bnf hq_4 | replace hq_4 := bt hq_4 | replace hq_4 := bf hq_4 | replace hq_4 := bt' hq_4 | replace hq_4 := bf' hq_4 | skip)
    first
    | (cases hq_4; done) | (exfalso; omega)
    | (
       refine aw_text (by kernel_rfl) ?_
       refine al_ro' (ro_move s5_3) trivial rfl ?_
       first | (refine al_ro' (ro_sub' up_h ev_c ?_) trivial rfl ?_; · (unfold In64; omega)) | refine al_ro' (ro_sub up_h ev_c) trivial rfl ?_
       refine al_ro' (ro_assign up_h) trivial rfl ?_
       refine al_end (fun e_5 he_5 => ?_)
       have s5_5 := ef 5 he_5 up_h
       clear he_5 s12_3 s5_3
       refine then_n ?_
       refine aw_seq ?_
       refine aw_text (by kernel_rfl) ?_
       refine al_ro' (ro_move s5_5) trivial rfl ?_
       refine al_ro' (ro_assign up_h) trivial rfl ?_
       refine al_end (fun e_6 he_6 => ?_)
       have s4_6 := ef 4 he_6 up_h
       clear he_6 s5_5
       refine then_n ?_
       refine aw_ret ?_
       refine ret1 (.inr rfl) (by kernel_rfl) (resV_tmp s4_6) (.ro _ rfl) ?_
       clear s4_6  ml_0
       (refine avi ?_; exact hf.1 (by assumption)))
  · (first | replace hq_4 := bnt hq_4 | replace hq_4 := bnf hq_4 | replace hq_4 := bt hq_4 | replace hq_4 := bf hq_4 | replace hq_4 := bt' hq_4 | replace hq_4 := bf' hq_4 | skip)
    first
    | (cases hq_4; done) | (exfalso; omega)
    | (
       refine aw_skip ?_
       refine then_n ?_
       refine aw_seq ?_
       refine aw_text (by kernel_rfl) ?_
       refine al_ro' (ro_move s5_3) trivial rfl ?_
       refine al_ro' (ro_assign up_h) trivial rfl ?_
       refine al_end (fun e_7 he_7 => ?_)
       have s4_7 := ef 4 he_7 up_h
       clear he_7 s12_3 s5_3
       refine then_n ?_
       refine aw_ret ?_
       refine ret1 (.inr rfl) (by kernel_rfl) (resV_tmp s4_7) (.ro _ rfl) ?_
       clear s4_7  ml_0
       (refine avi ?_; exact hf.2 (by assumption)))
theorem ediv_le {n k : Int} (hk : 1 ≤ k) (hn : -1000000000000000 ≤ n ∧ n ≤ 1000000000000000) : -1000000000000001 ≤ n / k ∧ n / k ≤ 1000000000000000 := by
  have hb := tdiv_le hk hn
  have hf := tdiv_floor (n := n) hk
  by_cases h : n.tmod k < 0
  · have := hf.1 h; omega
  · have := hf.2 h; omega
set_option maxRecDepth 100000 in
set_option maxHeartbeats 1000000 in
theorem ceil_ok (n k : Int) (hk : 1 ≤ k) (hn : -1000000000000000 ≤ n ∧ n ≤ 1000000000000000) : FnOk Try.prog 84 [iA n, iA k] (fun q => q = iA (-(-n / k))) := by
  have hb := ediv_le (n := -n) hk (by omega)
  refine fnOk_of (fn := Try.f84) 10 (by kernel_rfl) rfl (by kernel_rfl) (Nat.le_of_ble_eq_true rfl) ?_
  intro e_0 m_0 hA hm_0
  have s0_0 : evA e_0 (.tmp 0) = _ := hA 0 _ rfl
  have s1_0 : evA e_0 (.tmp 1) = _ := hA 1 _ rfl
  have ml_0 : m_0.length = 0 := by rw [hm_0]; rfl
  clear hA hm_0
  refine aw_seq ?_
  refine aw_text (by kernel_rfl) ?_
  refine al_ro' (ro_assign ev_c) trivial rfl ?_
  refine al_end (fun e_1 he_1 => ?_)
  have s0_1 := ef 0 he_1 (up_m rfl s0_0)
  have s1_1 := ef 1 he_1 (up_m rfl s1_0)
  clear he_1 s0_0 s1_0
  refine then_n ?_
  refine aw_seq ?_
  refine aw_text (by kernel_rfl) ?_
  refine al_ro' (ro_move s0_1) trivial rfl ?_
  first | (refine al_ro' (ro_neg' up_h ?_) trivial rfl ?_; · (unfold In64; omega)) | refine al_ro' (ro_neg up_h) trivial rfl ?_
  refine al_ro' (ro_move (u2 rfl s1_1)) trivial rfl ?_
  refine al_ro' (ro_call (evL_cons (up_m rfl up_h) (evL_cons up_h evL_nil)) rfl (floor_ok (-n) k hk (by omega)) k20_hcf83) trivial rfl ?_
  first | (refine al_ro' (ro_neg' up_h ?_) trivial rfl ?_; · (unfold In64; omega)) | refine al_ro' (ro_neg up_h) trivial rfl ?_
  refine al_ro' (ro_assign up_h) trivial rfl ?_
  refine al_end (fun e_2 he_2 => ?_)
  have s4_2 := ef 4 he_2 up_h
  clear he_2 s0_1 s1_1
  refine then_n ?_
  refine aw_ret ?_
  refine ret1 (.inr rfl) (by kernel_rfl) (resV_tmp s4_2) (.ro _ rfl) ?_
  clear s4_2  ml_0
  rfl
theorem ceil_eq {n k : Int} (hn : 0 ≤ n) (hk : 1 ≤ k) : (n + k - 1).tdiv k = -(-n / k) := by
  rw [Int.tdiv_eq_ediv_of_nonneg (by omega)]
  have h1 := Int.mul_ediv_add_emod (-n) k
  have h2 := Int.emod_nonneg (-n) (show k ≠ 0 by omega)
  have h3 := Int.emod_lt_of_pos (-n) (show 0 < k by omega)
  have := (Int.ediv_emod_unique (a := n + k - 1) (b := k) (r := k - 1 - (-n) % k) (q := -(-n / k)) (by omega)).2 ⟨by rw [Int.mul_neg]; omega, by omega, by omega⟩
  exact this.1
set_option maxRecDepth 100000 in
set_option maxHeartbeats 4000000 in
theorem rStandsAt_ok (nm : ByteArray) (ps : List Piece) (hok : trackR ps) (b d v : Int) (hb : sysR b d v) (post sq : Int) (hpo : 0 ≤ post ∧ post ≤ ps.length) (hsq : 0 ≤ sq ∧ sq ≤ 20000000000) :
    FnOk Try.prog 41 [trA nm ps, syA b d v, .agg [iA post, iA sq]] (fun q => q = .tuple [.agg [iA (stW ps b post sq).1.1, iA (stW ps b post sq).1.2], bA (decide ((stW ps b post sq).2 = 0))]) := by
  obtain ⟨q1, q2, q3⟩ := id hok
  obtain ⟨r1, r2, r3, r4⟩ := id hb
  have hpl := plW_len ps ps.length
  refine fnOk_of (fn := Try.f41) 67 (by kernel_rfl) rfl (by kernel_rfl) (Nat.le_of_ble_eq_true rfl) ?_
  intro e_0 m_0 hA hm_0
  have s0_0 : evA e_0 (.tmp 0) = _ := hA 0 _ rfl
  have s1_0 : evA e_0 (.tmp 1) = _ := hA 1 _ rfl
  have s2_0 : evA e_0 (.tmp 2) = _ := hA 2 _ rfl
  have ml_0 : m_0.length = 0 := by rw [hm_0]; rfl
  clear hA hm_0
  refine aw_seq ?_
  refine aw_text (by kernel_rfl) ?_
  refine al_stm (st_box s0_0 rfl ml_0) trivial rfl (fun m_1 hm_1 => ?_)
  have mo0_1 := m_push hm_1 ml_0
  (try simp only [packA_t, packA_f, iE, bE, setAt, cellsA, Value.cells, map_vc, map_vn, Nat.reduceAdd, qS] at mo0_1)
  have ml_1 := m_push_l hm_1 ml_0
  have ml_1 : _ = 1 := ml_1
  clear hm_1
  refine al_stm (st_box (up_m rfl s1_0) rfl ml_1) trivial rfl (fun m_2 hm_2 => ?_)
  have mo1_2 := m_push hm_2 ml_1
  (try simp only [packA_t, packA_f, iE, bE, setAt, cellsA, Value.cells, map_vc, map_vn, Nat.reduceAdd, qS] at mo1_2)
  have mo0_2 := m_push_o hm_2 mo0_1
  have ml_2 := m_push_l hm_2 ml_1
  have ml_2 : _ = 2 := ml_2
  clear hm_2 mo0_1
  refine al_stm (st_box (u2 rfl s2_0) rfl ml_2) trivial rfl (fun m_3 hm_3 => ?_)
  have mo2_3 := m_push hm_3 ml_2
  (try simp only [packA_t, packA_f, iE, bE, setAt, cellsA, Value.cells, map_vc, map_vn, Nat.reduceAdd, qS] at mo2_3)
  have mo1_3 := m_push_o hm_3 mo1_2
  have mo0_3 := m_push_o hm_3 mo0_2
  have ml_3 := m_push_l hm_3 ml_2
  have ml_3 : _ = 3 := ml_3
  clear hm_3 mo1_2 mo0_2
  refine al_stm (st_alloc k20_az68 rfl ml_3) trivial rfl (fun m_4 hm_4 => ?_)
  have mo3_4 := m_push hm_4 ml_3
  (try simp only [packA_t, packA_f, iE, bE, setAt, cellsA, Value.cells, map_vc, map_vn, Nat.reduceAdd, qS] at mo3_4)
  have mo2_4 := m_push_o hm_4 mo2_3
  have mo1_4 := m_push_o hm_4 mo1_3
  have mo0_4 := m_push_o hm_4 mo0_3
  have ml_4 := m_push_l hm_4 ml_3
  have ml_4 : _ = 4 := ml_4
  clear hm_4 mo2_3 mo1_3 mo0_3
  refine al_ro' (ro_assign ev_c) trivial rfl ?_
  refine al_end (fun e_5 he_5 => ?_)
  have s3_5 := ef 3 he_5 (u4 rfl up_h)
  have s4_5 := ef 4 he_5 (up_m rfl (u2 rfl up_h))
  have s5_5 := ef 5 he_5 (u2 rfl up_h)
  have s6_5 := ef 6 he_5 (up_m rfl up_h)
  clear he_5 s0_0 s1_0 s2_0
  refine then_n ?_
  refine aw_seq ?_
  refine aw_text (by kernel_rfl) ?_
  refine al_ro' (ro_eq (ro_ld_ptr k20_ty24 rfl mo0_4 s3_5 (by first | exact Nat.le_of_ble_eq_true rfl | omega | (simp only [lnS] <;> omega) | (simp <;> omega))) (by first | (simp only [packA_t, packA_f, iE, bE, setAt, cellsA, Value.cells, map_vc, map_vn, Nat.reduceAdd, qS] <;> rfl) | rfl)) trivial rfl ?_
  refine al_ro' (ro_call (evL_cons up_h evL_nil) rfl (rPlaces_ok nm ps q1 (by omega)) k20_hcf38) trivial rfl ?_
  refine al_ro' (ro_assign up_h) trivial rfl ?_
  refine al_end (fun e_6 he_6 => ?_)
  have s3_6 := ef 3 he_6 (up_m rfl (u2 rfl s3_5))
  have s4_6 := ef 4 he_6 (up_m rfl (u2 rfl s4_5))
  have s5_6 := ef 5 he_6 (up_m rfl (u2 rfl s5_5))
  have s6_6 := ef 6 he_6 (up_m rfl (u2 rfl s6_5))
  have s8_6 := ef 8 he_6 up_h
  clear he_6 s3_5 s4_5 s5_5 s6_5
  refine then_n ?_
  refine aw_seq ?_
  refine aw_text (by kernel_rfl) ?_
  refine al_ro' (ro_fld_ptr k20_fl42_1 rfl s5_6) trivial rfl ?_
  refine al_ro' (ro_eq (ro_ld_ptr k20_ty3 rfl mo2_4 up_h (by first | exact Nat.le_of_ble_eq_true rfl | omega | (simp only [lnS] <;> omega) | (simp <;> omega))) (by first | (simp only [packA_t, packA_f, iE, bE, setAt, cellsA, Value.cells, map_vc, map_vn, Nat.reduceAdd, qS] <;> rfl) | rfl)) trivial rfl ?_
  refine al_ro' (ro_assign up_h) trivial rfl ?_
  refine al_end (fun e_7 he_7 => ?_)
  have s3_7 := ef 3 he_7 (up_m rfl (u2 rfl s3_6))
  have s4_7 := ef 4 he_7 (up_m rfl (u2 rfl s4_6))
  have s5_7 := ef 5 he_7 (up_m rfl (u2 rfl s5_6))
  have s6_7 := ef 6 he_7 (up_m rfl (u2 rfl s6_6))
  have s8_7 := ef 8 he_7 (up_m rfl (u2 rfl s8_6))
  have s9_7 := ef 9 he_7 up_h
  clear he_7 s3_6 s4_6 s5_6 s6_6 s8_6
  refine then_n ?_
  refine aw_seq ?_
  refine aw_seq ?_
  refine aw_text (by kernel_rfl) ?_
  refine al_ro' (ro_fld_ptr k20_fl42_0 rfl s5_7) trivial rfl ?_
  refine al_ro' (ro_eq (ro_ld_ptr k20_ty3 rfl mo2_4 up_h (by first | exact Nat.le_of_ble_eq_true rfl | omega | (simp only [lnS] <;> omega) | (simp <;> omega))) (by first | (simp only [packA_t, packA_f, iE, bE, setAt, cellsA, Value.cells, map_vc, map_vn, Nat.reduceAdd, qS] <;> rfl) | rfl)) trivial rfl ?_
  refine al_ro' (ro_assign up_h) trivial rfl ?_
  refine al_end (fun e_8 he_8 => ?_)
  have s3_8 := ef 3 he_8 (up_m rfl (u2 rfl s3_7))
  have s4_8 := ef 4 he_8 (up_m rfl (u2 rfl s4_7))
  have s6_8 := ef 6 he_8 (up_m rfl (u2 rfl s6_7))
  have s8_8 := ef 8 he_8 (up_m rfl (u2 rfl s8_7))
  have s9_8 := ef 9 he_8 (up_m rfl (u2 rfl s9_7))
  have s10_8 := ef 10 he_8 up_h
  clear he_8 s3_7 s4_7 s5_7 s6_7 s8_7 s9_7
  refine then_n ?_
  refine aw_block ?_
  refine aw_loop (S := (Int × Int)) (fun s e mem => match s with | ⟨i, s⟩ => (evA e (.tmp 10) = .v (.int .i64 i)) ∧ (evA e (.tmp 9) = .v (.int .i64 s)) ∧ (evA e (.tmp 3) = evA e_8 (.tmp 3)) ∧ (evA e (.tmp 4) = evA e_8 (.tmp 4)) ∧ (evA e (.tmp 6) = evA e_8 (.tmp 6)) ∧ (evA e (.tmp 8) = evA e_8 (.tmp 8)) ∧ (mem[3]? = m_4[3]?) ∧ (mem[2]? = m_4[2]?) ∧ (mem[1]? = m_4[1]?) ∧ (mem[0]? = m_4[0]?) ∧ (mem.length = 4) ∧ ((post ≤ i ∧ i ≤ ps.length ∧ 0 ≤ s ∧ s ≤ 20000000000 + 80000000000 * i ∧ stG ps b (ps.length - post.toNat) post.toNat sq = stG ps b (ps.length - i.toNat) i.toNat s))) (fun s => match s with | ⟨i, s⟩ => (ps.length - i).toNat) ⟨_, _⟩ ⟨s10_8, s9_8, rfl, rfl, rfl, rfl, rfl, rfl, rfl, rfl, ml_4, ?_⟩ ?_
  · (refine ⟨by omega, by omega, by omega, by omega, rfl⟩)
  · rintro ⟨i, s⟩ e_9 m_9 ⟨s10_9, s9_9, k3_9, k4_9, k6_9, k8_9, mk3_9, mk2_9, mk1_9, mk0_9, ml_9, hinv⟩
    have s3_9 := k3_9.trans s3_8
    have s4_9 := k4_9.trans s4_8
    have s6_9 := k6_9.trans s6_8
    have s8_9 := k8_9.trans s8_8
    have mo3_9 := mk3_9.trans mo3_4
    have mo2_9 := mk2_9.trans mo2_4
    have mo1_9 := mk1_9.trans mo1_4
    have mo0_9 := mk0_9.trans mo0_4
    refine aw_seq ?_
    refine aw_seq ?_
    refine aw_text (by kernel_rfl) ?_
    refine al_ro' (ro_move s10_9) trivial rfl ?_
    refine al_ro' (ro_fld_ptr k20_fl24_1 rfl (up_m rfl s3_9)) trivial rfl ?_
    refine al_ro' (ro_eq (ro_ld_ptr k20_ty22 rfl mo0_9 up_h (by first | exact Nat.le_of_ble_eq_true rfl | omega | (simp only [lnS] <;> omega) | (simp <;> omega))) (by first | (simp only [packA_t, packA_f, iE, bE, setAt, cellsA, Value.cells, map_vc, map_vn, Nat.reduceAdd, qS] <;> rfl) | rfl)) trivial rfl ?_
    refine al_ro' (ro_eq (ro_len_row up_h rfl k20_sl22.1) (by first | (simp only [lnS] <;> rfl) | rfl)) trivial rfl ?_
    refine al_ro' (ro_lss (up_m rfl (u2 rfl up_h)) up_h) trivial rfl ?_
    refine al_end (fun e_10 he_10 => ?_)
    have s3_10 := ef 3 he_10 (up_m rfl (u4 rfl s3_9))
    have s4_10 := ef 4 he_10 (up_m rfl (u4 rfl s4_9))
    have s6_10 := ef 6 he_10 (up_m rfl (u4 rfl s6_9))
    have s8_10 := ef 8 he_10 (up_m rfl (u4 rfl s8_9))
    have s9_10 := ef 9 he_10 (up_m rfl (u4 rfl s9_9))
    have s10_10 := ef 10 he_10 (up_m rfl (u4 rfl s10_9))
    have s23_10 := ef 23 he_10 up_h
    clear he_10 s10_9 s3_9 s4_9 s6_9 s8_9 s9_9
    refine then_n ?_
    refine aw_case s23_10 (fun hq_11 => ?_) (fun hq_11 => ?_)
    · (first | replace hq_11 := bnt hq_11 | replace hq_11 := bnf hq_11 | replace hq_11 := bt hq_11 | replace hq_11 := bf hq_11 | replace hq_11 := bt' hq_11 | replace hq_11 := bf' hq_11 | skip)
      first
      | (cases hq_11; done) | (exfalso; omega)
      | (
         (obtain ⟨p1, p2, p3, p4, p5⟩ := hinv; have hpa := q1.at i.toNat; have hle := q1.len (i := i.toNat) (by omega); have hlos := los_bound (dec := b) (p := ps.getD i.toNat default) (by omega) hpa.1 hpa.2.1; have hsu := sumL_bound q1 i.toNat; have hat : (plW ps ps.length).getD i.toNat default = sumL ps i.toNat := plW_at ps (by omega); have hby := los_by (dec := b) hle)
         refine aw_skip ?_
         refine then_n ?_
         refine aw_seq ?_
         refine aw_block ?_
         refine aw_seq ?_
         refine aw_text (by kernel_rfl) ?_
         refine al_ro' (ro_eq (ro_ld_ptr k20_ty24 rfl mo0_9 s3_10 (by first | exact Nat.le_of_ble_eq_true rfl | omega | (simp only [lnS] <;> omega) | (simp <;> omega))) (by first | (simp only [packA_t, packA_f, iE, bE, setAt, cellsA, Value.cells, map_vc, map_vn, Nat.reduceAdd, qS] <;> rfl) | rfl)) trivial rfl ?_
         refine al_ro' (ro_move (up_m rfl s10_10)) trivial rfl ?_
         refine al_ro' (ro_fld_ptr k20_fl26_0 rfl (u2 rfl s4_10)) trivial rfl ?_
         refine al_ro' (ro_eq (ro_ld_ptr k20_ty3 rfl mo1_9 up_h (by first | exact Nat.le_of_ble_eq_true rfl | omega | (simp only [lnS] <;> omega) | (simp <;> omega))) (by first | (simp only [packA_t, packA_f, iE, bE, setAt, cellsA, Value.cells, map_vc, map_vn, Nat.reduceAdd, qS] <;> rfl) | rfl)) trivial rfl ?_
         refine al_ro' (ro_call (evL_cons (up_m rfl (u2 rfl up_h)) (evL_cons (u2 rfl up_h) (evL_cons up_h evL_nil))) rfl (rloses_ok nm ps q1 i (by omega) (by omega) b (by omega)) k20_hcf70) trivial rfl ?_
         refine al_ro' (ro_assign up_h) trivial rfl ?_
         refine al_end (fun e_12 he_12 => ?_)
         have s3_12 := ef 3 he_12 (u2 rfl (u4 rfl s3_10))
         have s4_12 := ef 4 he_12 (u2 rfl (u4 rfl s4_10))
         have s6_12 := ef 6 he_12 (u2 rfl (u4 rfl s6_10))
         have s8_12 := ef 8 he_12 (u2 rfl (u4 rfl s8_10))
         have s9_12 := ef 9 he_12 (u2 rfl (u4 rfl s9_10))
         have s10_12 := ef 10 he_12 (u2 rfl (u4 rfl s10_10))
         have s11_12 := ef 11 he_12 up_h
         clear he_12 s10_10 s23_10 s3_10 s4_10 s6_10 s8_10 s9_10
         refine then_n ?_
         refine aw_seq ?_
         refine aw_seq ?_
         refine aw_text (by kernel_rfl) ?_
         refine al_ro' (ro_move s11_12) trivial rfl ?_
         refine al_ro' (ro_gtr up_h ev_c) trivial rfl ?_
         refine al_ro' (ro_move up_h) trivial rfl ?_
         refine al_case up_h (fun hb_13 hq_13 => ?_) (fun hb_13 hq_13 => ?_)
         · (first | replace hq_13 := bnt hq_13 | replace hq_13 := bnf hq_13 | replace hq_13 := bt hq_13 | replace hq_13 := bf hq_13 | replace hq_13 := bt' hq_13 | replace hq_13 := bf' hq_13 | skip)
           first
           | (cases hq_13; done) | (exfalso; omega)
           | (
              refine al_ro' (ro_move (up_m rfl (u2 rfl s11_12))) ⟨_, rfl, hb_13⟩ rfl ?_
              refine al_ro' (ro_move (u4 rfl s9_12)) ⟨_, rfl, (up_m rfl hb_13)⟩ rfl ?_
              refine al_ro' (ro_geq (up_m rfl up_h) up_h) ⟨_, rfl, (u2 rfl hb_13)⟩ rfl ?_
              refine al_ro' (ro_pickT (up_m rfl (u2 rfl hb_13)) up_h) trivial rfl ?_
              refine al_end (fun e_14 he_14 => ?_)
              have s3_14 := ef 3 he_14 (up_m rfl (u2 rfl (u4 rfl s3_12)))
              have s4_14 := ef 4 he_14 (up_m rfl (u2 rfl (u4 rfl s4_12)))
              have s6_14 := ef 6 he_14 (up_m rfl (u2 rfl (u4 rfl s6_12)))
              have s8_14 := ef 8 he_14 (up_m rfl (u2 rfl (u4 rfl s8_12)))
              have s9_14 := ef 9 he_14 (up_m rfl (u2 rfl (u4 rfl s9_12)))
              have s10_14 := ef 10 he_14 (up_m rfl (u2 rfl (u4 rfl s10_12)))
              have s11_14 := ef 11 he_14 (up_m rfl (u2 rfl (u4 rfl s11_12)))
              have s37_14 := ef 37 he_14 up_h
              clear he_14 hb_13 s10_12 s11_12 s3_12 s4_12 s6_12 s8_12 s9_12
              refine then_n ?_
              refine aw_case s37_14 (fun hq_15 => ?_) (fun hq_15 => ?_)
              · (first | replace hq_15 := bnt hq_15 | replace hq_15 := bnf hq_15 | replace hq_15 := bt hq_15 | replace hq_15 := bf hq_15 | replace hq_15 := bt' hq_15 | replace hq_15 := bf' hq_15 | skip)
                first
                | (cases hq_15; done) | (exfalso; omega)
                | (
                   (have hgt : losW b (ps.getD i.toNat default) > 0 ∧ losW b (ps.getD i.toNat default) ≥ s := (by omega); have hps := los_pos hle hgt.1; have ht1 := ediv_le (n := s) (k := (losW b (ps.getD i.toNat default)).tdiv (ps.getD i.toNat default).len) (by omega) (by omega); have ht2 := ediv_le (n := -s) (k := (losW b (ps.getD i.toNat default)).tdiv (ps.getD i.toNat default).len) (by omega) (by omega); have hce := ceil_eq (n := s) (k := (losW b (ps.getD i.toNat default)).tdiv (ps.getD i.toNat default).len) p3 (by omega); have hfl : s.tdiv ((losW b (ps.getD i.toNat default)).tdiv (ps.getD i.toNat default).len) = s / ((losW b (ps.getD i.toNat default)).tdiv (ps.getD i.toNat default).len) := Int.tdiv_eq_ediv_of_nonneg p3)
                   refine aw_seq ?_
                   refine aw_text (by kernel_rfl) ?_
                   refine al_ro' (ro_move s11_14) trivial rfl ?_
                   refine al_ro' (ro_fld_ptr k20_fl24_1 rfl (up_m rfl s3_14)) trivial rfl ?_
                   refine al_ro' (ro_eq (ro_ld_ptr k20_ty22 rfl mo0_9 up_h (by first | exact Nat.le_of_ble_eq_true rfl | omega | (simp only [lnS] <;> omega) | (simp <;> omega))) (by first | (simp only [packA_t, packA_f, iE, bE, setAt, cellsA, Value.cells, map_vc, map_vn, Nat.reduceAdd, qS] <;> rfl) | rfl)) trivial rfl ?_
                   refine al_ro' (ro_move (up_m rfl (u2 rfl s10_14))) trivial rfl ?_
                   refine al_ro' (ro_eq (ro_ix k20_sl22 (up_m rfl up_h) up_h (by first | decide | omega | (simp <;> omega)) (by first | (refine idx_map ?_; first | omega | (simp only [lnS]; omega)) | (refine idx_mapI ?_; first | omega | (simp only [lnS]; omega)) | (refine idx_mapN ?_; first | omega | (simp only [lnS]; omega)) | rfl)) (by first | (simp only [packA_t, packA_f, iE, bE, setAt, cellsA, Value.cells, map_vc, map_vn, Nat.reduceAdd, qS] <;> rfl) | rfl)) trivial rfl ?_
                   refine al_ro' (ro_eq (ro_fld_ref k20_fl66_0 rfl up_h) (by first | (simp only [packA_t, packA_f, iE, bE, setAt, cellsA, Value.cells, map_vc, map_vn, Nat.reduceAdd, qS] <;> rfl) | rfl)) trivial rfl ?_
                   refine al_ro' (ro_eq (ro_ld_ref k20_ty3 rfl up_h (by first | exact Nat.le_of_ble_eq_true rfl | omega | (simp only [lnS] <;> omega) | (simp <;> omega))) (by first | (simp only [packA_t, packA_f, iE, bE, setAt, cellsA, Value.cells, map_vc, map_vn, Nat.reduceAdd, qS] <;> rfl) | rfl)) trivial rfl ?_
                   first | (refine al_ro' (ro_quo' (u2 rfl (u4 rfl up_h)) up_h (by first | decide | omega) ?_) trivial rfl ?_; · (unfold In64; omega)) | refine al_ro' (ro_quo (u2 rfl (u4 rfl up_h)) up_h (by first | decide | omega)) trivial rfl ?_
                   refine al_ro' (ro_assign up_h) trivial rfl ?_
                   refine al_end (fun e_16 he_16 => ?_)
                   have s6_16 := ef 6 he_16 (up_m rfl (u8 rfl s6_14))
                   have s8_16 := ef 8 he_16 (up_m rfl (u8 rfl s8_14))
                   have s9_16 := ef 9 he_16 (up_m rfl (u8 rfl s9_14))
                   have s10_16 := ef 10 he_16 (up_m rfl (u8 rfl s10_14))
                   have s12_16 := ef 12 he_16 up_h
                   clear he_16 s10_14 s11_14 s37_14 s3_14 s4_14 s6_14 s8_14 s9_14
                   refine then_n ?_
                   refine aw_seq ?_
                   refine aw_draw 17 (by kernel_rfl) (by kernel_rfl) (by kernel_rfl) (by kernel_rfl) ?_
                   refine ds_ro' (ro_move s8_16) trivial rfl ?_
                   refine ds_ro' (ro_move (up_m rfl s10_16)) trivial rfl ?_
                   refine ds_ro' (ro_eq (ro_ix k20_sl30 (up_m rfl up_h) up_h (by first | decide | omega | (simp <;> omega)) (by first | (refine idx_map ?_; first | omega | (simp only [lnS]; omega)) | (refine idx_mapI ?_; first | omega | (simp only [lnS]; omega)) | (refine idx_mapN ?_; first | omega | (simp only [lnS]; omega)) | rfl)) (by first | (simp only [packA_t, packA_f, iE, bE, setAt, cellsA, Value.cells, map_vc, map_vn, Nat.reduceAdd, qS] <;> rfl) | rfl)) trivial rfl ?_
                   refine ds_ro' (ro_eq (ro_ld_ref k20_ty3 rfl up_h (by first | exact Nat.le_of_ble_eq_true rfl | omega | (simp only [lnS] <;> omega) | (simp <;> omega))) (by first | (simp only [packA_t, packA_f, iE, bE, setAt, cellsA, Value.cells, map_vc, map_vn, Nat.reduceAdd, qS] <;> rfl) | rfl)) trivial rfl ?_
                   refine ds_ro' (ro_move (u4 rfl s9_16)) trivial rfl ?_
                   refine ds_ro' (ro_move (up_m rfl (u4 rfl s12_16))) trivial rfl ?_
                   refine ds_ro' (ro_call (evL_cons (up_m rfl up_h) (evL_cons up_h evL_nil)) rfl (floor_ok s _ (by omega) (by omega)) k20_hcf83) trivial rfl ?_
                   first | (refine ds_ro' (ro_add' (up_m rfl (u2 rfl up_h)) up_h ?_) trivial rfl ?_; · (unfold In64; omega)) | refine ds_ro' (ro_add (up_m rfl (u2 rfl up_h)) up_h) trivial rfl ?_
                   refine ds_ro' (ro_move (u8 rfl s8_16)) trivial rfl ?_
                   refine ds_ro' (ro_move (up_m rfl (u8 rfl s10_16))) trivial rfl ?_
                   refine ds_ro' (ro_eq (ro_ix k20_sl30 (up_m rfl up_h) up_h (by first | decide | omega | (simp <;> omega)) (by first | (refine idx_map ?_; first | omega | (simp only [lnS]; omega)) | (refine idx_mapI ?_; first | omega | (simp only [lnS]; omega)) | (refine idx_mapN ?_; first | omega | (simp only [lnS]; omega)) | rfl)) (by first | (simp only [packA_t, packA_f, iE, bE, setAt, cellsA, Value.cells, map_vc, map_vn, Nat.reduceAdd, qS] <;> rfl) | rfl)) trivial rfl ?_
                   refine ds_ro' (ro_eq (ro_ld_ref k20_ty3 rfl up_h (by first | exact Nat.le_of_ble_eq_true rfl | omega | (simp only [lnS] <;> omega) | (simp <;> omega))) (by first | (simp only [packA_t, packA_f, iE, bE, setAt, cellsA, Value.cells, map_vc, map_vn, Nat.reduceAdd, qS] <;> rfl) | rfl)) trivial rfl ?_
                   refine ds_ro' (ro_move (u4 rfl (u8 rfl s9_16))) trivial rfl ?_
                   refine ds_ro' (ro_move (up_m rfl (u4 rfl (u8 rfl s12_16)))) trivial rfl ?_
                   refine ds_ro' (ro_call (evL_cons (up_m rfl up_h) (evL_cons up_h evL_nil)) rfl (ceil_ok s _ (by omega) (by omega)) k20_hcf84) trivial rfl ?_
                   first | (refine ds_ro' (ro_add' (up_m rfl (u2 rfl up_h)) up_h ?_) trivial rfl ?_; · (unfold In64; omega)) | refine ds_ro' (ro_add (up_m rfl (u2 rfl up_h)) up_h) trivial rfl ?_
                   refine ds_ro' (ro_build (evP_cons (u8 rfl up_h) (evP_cons up_h evP_nil)) k20_bz68 k20_bu68 k20_bp68 rfl) trivial rfl ?_
                   refine ds_nil ?_
                   refine al_stm (st_store (up_m rfl (u16 rfl s6_16)) up_h rfl rfl mo3_9 k20_sz68 rfl (by first | exact Nat.le_of_ble_eq_true rfl | omega | (simp only [lnS] <;> omega) | (simp <;> omega))) trivial rfl (fun m_17 hm_17 => ?_)
                   have mo3_17 := m_set hm_17 mo3_9
                   (try simp only [packA_t, packA_f, iE, bE, setAt, cellsA, Value.cells, map_vc, map_vn, Nat.reduceAdd, qS] at mo3_17)
                   have mo2_17 := m_set_o hm_17 mo2_9 (by decide)
                   have mo1_17 := m_set_o hm_17 mo1_9 (by decide)
                   have mo0_17 := m_set_o hm_17 mo0_9 (by decide)
                   have ml_17 := m_set_l hm_17 ml_9
                   clear hm_17 mo3_9 mo2_9 mo1_9 mo0_9
                   refine al_ro' (ro_assign ev_c) trivial rfl ?_
                   refine al_end (fun e_18 he_18 => ?_)
                   have s6_18 := ef 6 he_18 (up_m rfl (up_n (up_m rfl (u16 rfl s6_16))))
                   have s7_18 := ef 7 he_18 up_h
                   clear he_18 s10_16 s12_16 s6_16 s8_16 s9_16
                   refine then_n ?_
                   refine aw_ret ?_
                   refine then_r ?_
                   refine block_r ?_
                   refine then_r ?_
                   refine then_r ?_
                   refine block_r ?_
                   refine then_r ?_
                   refine ret2 (.inr rfl) (by kernel_rfl) (resV_cell s6_18 mo3_17 k20_ty68 (by first | exact Nat.le_of_ble_eq_true rfl | omega | (simp only [lnS] <;> omega) | (simp <;> omega)) (by simp)) (resV_tmp s7_18) (vw_r (.ro _ rfl)) (.ro _ rfl) ?_
                   clear s6_18 s7_18 mo3_17 mo2_17 mo1_17 mo0_17 ml_17
                   (have hst : stG ps b (ps.length - post.toNat) post.toNat sq = some (_, _) := (by rw [p5, show ps.length - i.toNat = (ps.length - (i + 1).toNat) + 1 by omega]; simp only [stG]; rw [if_pos hgt]); rw [stW, hst, hat, hce, hfl]; rfl))
              · (first | replace hq_15 := bnt hq_15 | replace hq_15 := bnf hq_15 | replace hq_15 := bt hq_15 | replace hq_15 := bf hq_15 | replace hq_15 := bt' hq_15 | replace hq_15 := bf' hq_15 | skip)
                first
                | (cases hq_15; done) | (exfalso; omega)
                | (
                   refine aw_skip ?_
                   refine then_n ?_
                   refine aw_text (by kernel_rfl) ?_
                   refine al_ro' (ro_move s9_14) trivial rfl ?_
                   refine al_ro' (ro_move (up_m rfl s11_14)) trivial rfl ?_
                   first | (refine al_ro' (ro_sub' (up_m rfl up_h) up_h ?_) trivial rfl ?_; · (unfold In64; omega)) | refine al_ro' (ro_sub (up_m rfl up_h) up_h) trivial rfl ?_
                   refine al_ro' (ro_assign up_h) trivial rfl ?_
                   refine al_end (fun e_19 he_19 => ?_)
                   have s3_19 := ef 3 he_19 (u4 rfl s3_14)
                   have s4_19 := ef 4 he_19 (u4 rfl s4_14)
                   have s6_19 := ef 6 he_19 (u4 rfl s6_14)
                   have s8_19 := ef 8 he_19 (u4 rfl s8_14)
                   have s9_19 := ef 9 he_19 up_h
                   have s10_19 := ef 10 he_19 (u4 rfl s10_14)
                   clear he_19 s10_14 s11_14 s37_14 s3_14 s4_14 s6_14 s8_14 s9_14
                   refine block_n ?_
                   refine then_n ?_
                   refine aw_text (by kernel_rfl) ?_
                   refine al_ro' (ro_move s10_19) trivial rfl ?_
                   first | (refine al_ro' (ro_add' up_h ev_c ?_) trivial rfl ?_; · (unfold In64; omega)) | refine al_ro' (ro_add up_h ev_c) trivial rfl ?_
                   refine al_ro' (ro_assign up_h) trivial rfl ?_
                   refine al_end (fun e_20 he_20 => ?_)
                   have s3_20 := ef 3 he_20 (up_m rfl (u2 rfl s3_19))
                   have s4_20 := ef 4 he_20 (up_m rfl (u2 rfl s4_19))
                   have s6_20 := ef 6 he_20 (up_m rfl (u2 rfl s6_19))
                   have s8_20 := ef 8 he_20 (up_m rfl (u2 rfl s8_19))
                   have s9_20 := ef 9 he_20 (up_m rfl (u2 rfl s9_19))
                   have s10_20 := ef 10 he_20 up_h
                   clear he_20 s10_19 s3_19 s4_19 s6_19 s8_19 s9_19
                   refine then_n ?_
                   refine ⟨⟨_, _⟩, ⟨s10_20, s9_20, (s3_20.trans s3_8.symm), (s4_20.trans s4_8.symm), (s6_20.trans s6_8.symm), (s8_20.trans s8_8.symm), (mo3_9.trans mo3_4.symm), (mo2_9.trans mo2_4.symm), (mo1_9.trans mo1_4.symm), (mo0_9.trans mo0_4.symm), ml_9, ?_⟩, ?_⟩
                   · (refine ⟨by omega, by omega, by omega, by omega, ?_⟩; rw [p5, show ps.length - i.toNat = (ps.length - (i + 1).toNat) + 1 by omega, show (i + 1).toNat = i.toNat + 1 by omega]; simp only [stG]; rw [if_neg (by omega)])
                   · ((try dsimp only); omega)))
         · (first | replace hq_13 := bnt hq_13 | replace hq_13 := bnf hq_13 | replace hq_13 := bt hq_13 | replace hq_13 := bf hq_13 | replace hq_13 := bt' hq_13 | replace hq_13 := bf' hq_13 | skip)
           first
           | (cases hq_13; done) | (exfalso; omega)
           | (
              refine al_skip' ⟨_, rfl, .inl hb_13⟩ rfl ?_
              refine al_skip' ⟨_, rfl, .inl (up_m rfl hb_13)⟩ rfl ?_
              refine al_skip' ⟨_, rfl, .inl (u2 rfl hb_13)⟩ rfl ?_
              refine al_ro' (ro_pickF (up_m rfl (u2 rfl hb_13)) ev_c) trivial rfl ?_
              refine al_end (fun e_21 he_21 => ?_)
              have s3_21 := ef 3 he_21 (up_m rfl (u2 rfl (u4 rfl s3_12)))
              have s4_21 := ef 4 he_21 (up_m rfl (u2 rfl (u4 rfl s4_12)))
              have s6_21 := ef 6 he_21 (up_m rfl (u2 rfl (u4 rfl s6_12)))
              have s8_21 := ef 8 he_21 (up_m rfl (u2 rfl (u4 rfl s8_12)))
              have s9_21 := ef 9 he_21 (up_m rfl (u2 rfl (u4 rfl s9_12)))
              have s10_21 := ef 10 he_21 (up_m rfl (u2 rfl (u4 rfl s10_12)))
              have s11_21 := ef 11 he_21 (up_m rfl (u2 rfl (u4 rfl s11_12)))
              have s37_21 := ef 37 he_21 up_h
              clear he_21 hb_13 s10_12 s11_12 s3_12 s4_12 s6_12 s8_12 s9_12
              refine then_n ?_
              refine aw_false s37_21 ?_
              refine aw_skip ?_
              refine then_n ?_
              refine aw_text (by kernel_rfl) ?_
              refine al_ro' (ro_move s9_21) trivial rfl ?_
              refine al_ro' (ro_move (up_m rfl s11_21)) trivial rfl ?_
              first | (refine al_ro' (ro_sub' (up_m rfl up_h) up_h ?_) trivial rfl ?_; · (unfold In64; omega)) | refine al_ro' (ro_sub (up_m rfl up_h) up_h) trivial rfl ?_
              refine al_ro' (ro_assign up_h) trivial rfl ?_
              refine al_end (fun e_23 he_23 => ?_)
              have s3_23 := ef 3 he_23 (u4 rfl s3_21)
              have s4_23 := ef 4 he_23 (u4 rfl s4_21)
              have s6_23 := ef 6 he_23 (u4 rfl s6_21)
              have s8_23 := ef 8 he_23 (u4 rfl s8_21)
              have s9_23 := ef 9 he_23 up_h
              have s10_23 := ef 10 he_23 (u4 rfl s10_21)
              clear he_23 s10_21 s11_21 s37_21 s3_21 s4_21 s6_21 s8_21 s9_21
              refine block_n ?_
              refine then_n ?_
              refine aw_text (by kernel_rfl) ?_
              refine al_ro' (ro_move s10_23) trivial rfl ?_
              first | (refine al_ro' (ro_add' up_h ev_c ?_) trivial rfl ?_; · (unfold In64; omega)) | refine al_ro' (ro_add up_h ev_c) trivial rfl ?_
              refine al_ro' (ro_assign up_h) trivial rfl ?_
              refine al_end (fun e_24 he_24 => ?_)
              have s3_24 := ef 3 he_24 (up_m rfl (u2 rfl s3_23))
              have s4_24 := ef 4 he_24 (up_m rfl (u2 rfl s4_23))
              have s6_24 := ef 6 he_24 (up_m rfl (u2 rfl s6_23))
              have s8_24 := ef 8 he_24 (up_m rfl (u2 rfl s8_23))
              have s9_24 := ef 9 he_24 (up_m rfl (u2 rfl s9_23))
              have s10_24 := ef 10 he_24 up_h
              clear he_24 s10_23 s3_23 s4_23 s6_23 s8_23 s9_23
              refine then_n ?_
              refine ⟨⟨_, _⟩, ⟨s10_24, s9_24, (s3_24.trans s3_8.symm), (s4_24.trans s4_8.symm), (s6_24.trans s6_8.symm), (s8_24.trans s8_8.symm), (mo3_9.trans mo3_4.symm), (mo2_9.trans mo2_4.symm), (mo1_9.trans mo1_4.symm), (mo0_9.trans mo0_4.symm), ml_9, ?_⟩, ?_⟩
              · (refine ⟨by omega, by omega, by omega, by omega, ?_⟩; rw [p5, show ps.length - i.toNat = (ps.length - (i + 1).toNat) + 1 by omega, show (i + 1).toNat = i.toNat + 1 by omega]; simp only [stG]; rw [if_neg (by omega)])
              · ((try dsimp only); omega)))
    · (first | replace hq_11 := bnt hq_11 | replace hq_11 := bnf hq_11 | replace hq_11 := bt hq_11 | replace hq_11 := bf hq_11 | replace hq_11 := bt' hq_11 | replace hq_11 := bf' hq_11 | skip)
      first
      | (cases hq_11; done) | (exfalso; omega)
      | (
         refine aw_exit ?_
         refine then_x ?_
         refine then_x ?_
         refine block_hit ?_
         refine then_n ?_
         refine aw_seq ?_
         refine aw_text (by kernel_rfl) ?_
         refine al_ro' (ro_build evP_nil k20_bz68 k20_bu68 k20_bp68 rfl) trivial rfl ?_
         refine al_stm (st_store (up_m rfl s6_10) up_h rfl rfl mo3_9 k20_sz68 rfl (by first | exact Nat.le_of_ble_eq_true rfl | omega | (simp only [lnS] <;> omega) | (simp <;> omega))) trivial rfl (fun m_25 hm_25 => ?_)
         have mo3_25 := m_set hm_25 mo3_9
         (try simp only [packA_t, packA_f, iE, bE, setAt, cellsA, Value.cells, map_vc, map_vn, Nat.reduceAdd, qS] at mo3_25)
         have mo2_25 := m_set_o hm_25 mo2_9 (by decide)
         have mo1_25 := m_set_o hm_25 mo1_9 (by decide)
         have mo0_25 := m_set_o hm_25 mo0_9 (by decide)
         have ml_25 := m_set_l hm_25 ml_9
         clear hm_25 mo3_9 mo2_9 mo1_9 mo0_9
         refine al_ro' (ro_assign ev_c) trivial rfl ?_
         refine al_end (fun e_26 he_26 => ?_)
         have s6_26 := ef 6 he_26 (up_m rfl (up_n (up_m rfl s6_10)))
         have s7_26 := ef 7 he_26 up_h
         clear he_26 s10_10 s23_10 s3_10 s4_10 s6_10 s8_10 s9_10
         refine then_n ?_
         refine aw_ret ?_
         refine ret2 (.inr rfl) (by kernel_rfl) (resV_cell s6_26 mo3_25 k20_ty68 (by first | exact Nat.le_of_ble_eq_true rfl | omega | (simp only [lnS] <;> omega) | (simp <;> omega)) (by simp)) (resV_tmp s7_26) (vw_r (.ro _ rfl)) (.ro _ rfl) ?_
         clear s6_26 s7_26 mo3_25 mo2_25 mo1_25 mo0_25 ml_25
         (obtain ⟨p1, p2, p3, p4, p5⟩ := hinv; have hst : stG ps b (ps.length - post.toNat) post.toNat sq = none := (by rw [p5, show ps.length - i.toNat = 0 by omega]; rfl); rw [stW, hst]; rfl))
end Go.Proofs.Ytelgkjekpcfffaa
