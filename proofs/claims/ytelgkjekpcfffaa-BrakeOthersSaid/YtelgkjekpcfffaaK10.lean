/- Contracts of chapter 5: where a train stands. No conditions on a program. -/
import Derived.Test.YtelgkjekpcfffaaK9
namespace Go.Proofs.Ytelgkjekpcfffaa
open Go Go.RowKit Go.Proofs
set_option linter.unusedSimpArgs false
set_option linter.unusedVariables false
theorem k10_az103 : (Try.prog.info? 103).bind (·.zero) = some (.agg #[.string ByteArray.empty, .slice none 0 0, .int .i64 0, .int .i64 0, .int .i64 0]) := by kernel_rfl
theorem k10_az68 : (Try.prog.info? 68).bind (·.zero) = some (.agg #[.int .i64 0, .int .i64 0]) := by kernel_rfl
theorem k10_bz68 : (Try.prog.info? 68).bind (·.zero) = some (.agg #[.int .i64 0, .int .i64 0]) := by kernel_rfl
theorem k10_bu68 : Try.prog.underlying 68 = some (.struct (fsOf Try.prog 68)) := by kernel_rfl
theorem k10_bp68 : ∀ w, ((fsOf Try.prog 68).mapM fun f => Prod.mk f.offset <$> sizeOf f.type : Sem (Array (Nat × Nat))).run Try.prog w = .ok (#[(0, 1), (1, 1)]) w := fun _ => by kernel_rfl
theorem k10_fl101_0 : FldIs Try.prog 101 0 0 true 2 := by unfold FldIs; kernel_rfl
theorem k10_fl103_0 : FldIs Try.prog 103 0 0 true 2 := by unfold FldIs; kernel_rfl
theorem k10_fl24_1 : FldIs Try.prog 24 1 1 false 1 := by unfold FldIs; kernel_rfl
theorem k10_fl42_0 : FldIs Try.prog 42 0 0 false 1 := by unfold FldIs; kernel_rfl
theorem k10_fl42_1 : FldIs Try.prog 42 1 1 false 1 := by unfold FldIs; kernel_rfl
theorem k10_fl66_0 : FldIs Try.prog 66 0 0 false 1 := by unfold FldIs; kernel_rfl
theorem k10_hcf62 : ∀ args w, (callFunc 62 args).run Try.prog w = .ok (.enter 62 args) w := fun _ _ => by kernel_rfl
theorem k10_hcf63 : ∀ args w, (callFunc 63 args).run Try.prog w = .ok (.enter 63 args) w := fun _ _ => by kernel_rfl
theorem k10_hcf79 : ∀ args w, (callFunc 79 args).run Try.prog w = .ok (.enter 79 args) w := fun _ _ => by kernel_rfl
theorem k10_hcf81 : ∀ args w, (callFunc 81 args).run Try.prog w = .ok (.enter 81 args) w := fun _ _ => by kernel_rfl
theorem k10_hcf82 : ∀ args w, (callFunc 82 args).run Try.prog w = .ok (.enter 82 args) w := fun _ _ => by kernel_rfl
theorem k10_sl133 : SlIs Try.prog 133 31 1 8 (.int .i64 0) := ⟨by kernel_rfl, by kernel_rfl, by kernel_rfl⟩
theorem k10_sl22 : SlIs Try.prog 22 66 4 32 (.agg #[.int .i64 0, .int .i64 0, .int .i64 0, .bool false]) := ⟨by kernel_rfl, by kernel_rfl, by kernel_rfl⟩
theorem k10_sl30 : SlIs Try.prog 30 3 1 8 (.int .i64 0) := ⟨by kernel_rfl, by kernel_rfl, by kernel_rfl⟩
theorem k10_sz103 : (Try.prog.info? 103).map (·.size) = some 5 := by kernel_rfl
theorem k10_sz68 : (Try.prog.info? 68).map (·.size) = some 2 := by kernel_rfl
theorem k10_ty101 : TyIs Try.prog 101 true 2 := ⟨by kernel_rfl, by kernel_rfl⟩
theorem k10_ty103 : TyIs Try.prog 103 true 5 := ⟨by kernel_rfl, by kernel_rfl⟩
theorem k10_ty22 : TyIs Try.prog 22 false 1 := ⟨by kernel_rfl, by kernel_rfl⟩
theorem k10_ty24 : TyIs Try.prog 24 true 2 := ⟨by kernel_rfl, by kernel_rfl⟩
theorem k10_ty26 : TyIs Try.prog 26 true 3 := ⟨by kernel_rfl, by kernel_rfl⟩
theorem k10_ty3 : TyIs Try.prog 3 false 1 := ⟨by kernel_rfl, by kernel_rfl⟩
theorem k10_ty42 : TyIs Try.prog 42 true 2 := ⟨by kernel_rfl, by kernel_rfl⟩
theorem k10_ty68 : TyIs Try.prog 68 true 2 := ⟨by kernel_rfl, by kernel_rfl⟩

theorem Ok.len {ps : List Piece} (h : Ok ps) {i : Nat} (hi : i < ps.length) : 1 ≤ (ps.getD i default).len := by
  have h1 := h (ps.getD i default) (by rw [List.getD_eq_getElem?_getD, List.getElem?_eq_getElem hi, Option.getD_some]; exact List.getElem_mem hi)
  simp only [pieceB, withinB, Bool.and_eq_true, decide_eq_true_eq] at h1
  omega
/-- Where a train stands, from a post on. -/
def stG (ps : List Piece) (b : Int) : Nat → Nat → Int → Option (Int × Int)
  | 0, _, _ => none
  | k + 1, i, s => if losW b (ps.getD i default) > 0 ∧ losW b (ps.getD i default) ≥ s then
      some (sumL ps i + s.tdiv ((losW b (ps.getD i default)).tdiv (ps.getD i default).len), sumL ps i + (s + (losW b (ps.getD i default)).tdiv (ps.getD i default).len - 1).tdiv ((losW b (ps.getD i default)).tdiv (ps.getD i default).len))
    else stG ps b k (i + 1) (s - losW b (ps.getD i default))
def stW (ps : List Piece) (b post sq : Int) : (Int × Int) × Int := match stG ps b (ps.length - post.toNat) post.toNat sq with
  | some x => (x, 0)
  | none => ((0, 0), 12)
theorem los_by {dec : Int} {p : Piece} (hl : 1 ≤ p.len) : (losW dec p).tdiv p.len = 2 * (dec + 10 * p.grad) := by
  unfold losW
  exact Int.mul_tdiv_cancel _ (by omega)
theorem los_pos {dec : Int} {p : Piece} (hl : 1 ≤ p.len) (h : losW dec p > 0) : 2 * (dec + 10 * p.grad) ≥ 1 := by
  unfold losW at h
  by_cases hc : 2 * (dec + 10 * p.grad) ≥ 1
  · exact hc
  · have : 2 * (dec + 10 * p.grad) * p.len ≤ 0 := Int.mul_nonpos_of_nonpos_of_nonneg (by omega) (by omega)
    omega
theorem tdiv_bound {x y : Int} (hx : 0 ≤ x) (hy : 1 ≤ y) : 0 ≤ x.tdiv y ∧ x.tdiv y ≤ x := by
  rw [Int.tdiv_eq_ediv_of_nonneg hx]
  exact ⟨Int.ediv_nonneg hx (by omega), Int.ediv_le_self _ hx⟩
def stE (nm : ByteArray) (ps : List Piece) (b d v post sq : Int) : Int := firstE [firstE [(chk nm ps).2, sysE b d v], stateE ps post sq]
theorem stE_right {nm : ByteArray} {ps : List Piece} {b d v post sq : Int} (h : stE nm ps b d v post sq = 0) : trackR ps ∧ sysR b d v ∧ (0 ≤ post ∧ post ≤ ps.length) ∧ (0 ≤ sq ∧ sq ≤ 20000000000) := by
  obtain ⟨h1, h2, h3⟩ := ride_right h
  obtain ⟨h4, h5⟩ := firstE_cons h3
  obtain ⟨h8, h9⟩ := firstE_cons h4
  have a1 := unlessE_zero h8 (by decide)
  have a2 := unlessE_zero (firstE_cons h9).1 (by decide)
  simp only [withinB, Bool.and_eq_true, decide_eq_true_eq] at a1 a2
  exact ⟨h1, h2, a1, a2⟩
section
variable (nm : ByteArray) (ps : List Piece) (hs : nm.size ≤ 1000000000) (hp : ps.length ≤ 1000000000) (b d v : Int)
include hs hp
set_option maxRecDepth 100000 in
set_option maxHeartbeats 4000000 in
theorem standsAt_ok (post sq : Int) : FnOk Try.prog 40 [trA nm ps, syA b d v, .agg [iA post, iA sq]] (fun q => q = .tuple [.agg [iA (if stE nm ps b d v post sq = 0 then (stW ps b post sq).1 else (0, 0)).1, iA (if stE nm ps b d v post sq = 0 then (stW ps b post sq).1 else (0, 0)).2], iA (if stE nm ps b d v post sq = 0 then (stW ps b post sq).2 else stE nm ps b d v post sq)]) := by
  refine fnOk_of (fn := Try.f40) 91 (by kernel_rfl) rfl (by kernel_rfl) (Nat.le_of_ble_eq_true rfl) ?_
  intro e_0 m_0 hA hm_0
  have s0_0 : evA e_0 (.tmp 0) = _ := hA 0 _ rfl
  have s1_0 : evA e_0 (.tmp 1) = _ := hA 1 _ rfl
  have s2_0 : evA e_0 (.tmp 2) = _ := hA 2 _ rfl
  have ml_0 : m_0.length = 0 := by rw [hm_0]; rfl
  clear hA hm_0
  refine aw_seq ?_
  refine aw_text (by kernel_rfl) ?_
  refine al_stm (st_box s0_0 rfl ml_0) trivial rfl (fun m_1 hm_1 => ?_)
  have mo0_1 := m_push hm_1 ml_0
  (try simp only [packA_t, packA_f, iE, bE, setAt, cellsA, Value.cells, map_vc, map_vn, Nat.reduceAdd, qS] at mo0_1)
  have ml_1 := m_push_l hm_1 ml_0
  have ml_1 : _ = 1 := ml_1
  clear hm_1
  refine al_stm (st_box (up_m rfl s1_0) rfl ml_1) trivial rfl (fun m_2 hm_2 => ?_)
  have mo1_2 := m_push hm_2 ml_1
  (try simp only [packA_t, packA_f, iE, bE, setAt, cellsA, Value.cells, map_vc, map_vn, Nat.reduceAdd, qS] at mo1_2)
  have mo0_2 := m_push_o hm_2 mo0_1
  have ml_2 := m_push_l hm_2 ml_1
  have ml_2 : _ = 2 := ml_2
  clear hm_2 mo0_1
  refine al_stm (st_box (u2 rfl s2_0) rfl ml_2) trivial rfl (fun m_3 hm_3 => ?_)
  have mo2_3 := m_push hm_3 ml_2
  (try simp only [packA_t, packA_f, iE, bE, setAt, cellsA, Value.cells, map_vc, map_vn, Nat.reduceAdd, qS] at mo2_3)
  have mo1_3 := m_push_o hm_3 mo1_2
  have mo0_3 := m_push_o hm_3 mo0_2
  have ml_3 := m_push_l hm_3 ml_2
  have ml_3 : _ = 3 := ml_3
  clear hm_3 mo1_2 mo0_2
  refine al_stm (st_alloc k10_az68 rfl ml_3) trivial rfl (fun m_4 hm_4 => ?_)
  have mo3_4 := m_push hm_4 ml_3
  (try simp only [packA_t, packA_f, iE, bE, setAt, cellsA, Value.cells, map_vc, map_vn, Nat.reduceAdd, qS] at mo3_4)
  have mo2_4 := m_push_o hm_4 mo2_3
  have mo1_4 := m_push_o hm_4 mo1_3
  have mo0_4 := m_push_o hm_4 mo0_3
  have ml_4 := m_push_l hm_4 ml_3
  have ml_4 : _ = 4 := ml_4
  clear hm_4 mo2_3 mo1_3 mo0_3
  refine al_ro' (ro_assign ev_c) trivial rfl ?_
  refine al_end (fun e_5 he_5 => ?_)
  have s3_5 := ef 3 he_5 (u4 rfl up_h)
  have s4_5 := ef 4 he_5 (up_m rfl (u2 rfl up_h))
  have s5_5 := ef 5 he_5 (u2 rfl up_h)
  have s6_5 := ef 6 he_5 (up_m rfl up_h)
  clear he_5 s0_0 s1_0 s2_0
  refine then_n ?_
  refine aw_seq ?_
  refine aw_text (by kernel_rfl) ?_
  refine al_ro' (ro_eq (ro_ld_ptr k10_ty24 rfl mo0_4 s3_5 (by first | exact Nat.le_of_ble_eq_true rfl | omega | (simp only [lnS] <;> omega) | (simp <;> omega))) (by first | (simp only [packA_t, packA_f, iE, bE, setAt, cellsA, Value.cells, map_vc, map_vn, Nat.reduceAdd, qS] <;> rfl) | rfl)) trivial rfl ?_
  refine al_ro' (ro_eq (ro_ld_ptr k10_ty26 rfl mo1_4 (up_m rfl s4_5) (by first | exact Nat.le_of_ble_eq_true rfl | omega | (simp only [lnS] <;> omega) | (simp <;> omega))) (by first | (simp only [packA_t, packA_f, iE, bE, setAt, cellsA, Value.cells, map_vc, map_vn, Nat.reduceAdd, qS] <;> rfl) | rfl)) trivial rfl ?_
  refine al_ro' (ro_call (evL_cons (up_m rfl up_h) (evL_cons up_h evL_nil)) rfl (openRide_ok nm ps hs hp b d v) k10_hcf62) trivial rfl ?_
  refine al_ro' (ro_move up_h) trivial rfl ?_
  refine al_ro' (ro_extract up_h rfl) trivial rfl ?_
  refine al_ro' (ro_extract (up_m rfl up_h) rfl) trivial rfl ?_
  refine al_stm (st_alloc k10_az103 rfl ml_4) trivial rfl (fun m_6 hm_6 => ?_)
  have mo4_6 := m_push hm_6 ml_4
  (try simp only [packA_t, packA_f, iE, bE, setAt, cellsA, Value.cells, map_vc, map_vn, Nat.reduceAdd, qS] at mo4_6)
  have mo3_6 := m_push_o hm_6 mo3_4
  have mo2_6 := m_push_o hm_6 mo2_4
  have mo1_6 := m_push_o hm_6 mo1_4
  have mo0_6 := m_push_o hm_6 mo0_4
  have ml_6 := m_push_l hm_6 ml_4
  have ml_6 : _ = 5 := ml_6
  clear hm_6 mo3_4 mo2_4 mo1_4 mo0_4
  refine al_stm (st_store up_h (u2 rfl up_h) rfl rfl mo4_6 k10_sz103 rfl (by first | exact Nat.le_of_ble_eq_true rfl | omega | (simp only [lnS] <;> omega) | (simp <;> omega))) trivial rfl (fun m_7 hm_7 => ?_)
  have mo4_7 := m_set hm_7 mo4_6
  (try simp only [packA_t, packA_f, iE, bE, setAt, cellsA, Value.cells, map_vc, map_vn, Nat.reduceAdd, qS] at mo4_7)
  have mo3_7 := m_set_o hm_7 mo3_6 (by decide)
  have mo2_7 := m_set_o hm_7 mo2_6 (by decide)
  have mo1_7 := m_set_o hm_7 mo1_6 (by decide)
  have mo0_7 := m_set_o hm_7 mo0_6 (by decide)
  have ml_7 := m_set_l hm_7 ml_6
  clear hm_7 mo4_6 mo3_6 mo2_6 mo1_6 mo0_6
  refine al_ro' (ro_assign (up_n (up_m rfl up_h))) trivial rfl ?_
  refine al_end (fun e_8 he_8 => ?_)
  have s5_8 := ef 5 he_8 (up_m rfl (up_n (up_m rfl (u2 rfl (u4 rfl s5_5)))))
  have s6_8 := ef 6 he_8 (up_m rfl (up_n (up_m rfl (u2 rfl (u4 rfl s6_5)))))
  have s8_8 := ef 8 he_8 (up_m rfl (up_n up_h))
  have s9_8 := ef 9 he_8 up_h
  clear he_8 s3_5 s4_5 s5_5 s6_5
  refine then_n ?_
  refine aw_seq ?_
  refine aw_seq ?_
  refine aw_text (by kernel_rfl) ?_
  refine al_ro' (ro_move s9_8) trivial rfl ?_
  refine al_ro' (ro_eq (ro_ld_ptr k10_ty103 rfl mo4_7 (up_m rfl s8_8) (by first | exact Nat.le_of_ble_eq_true rfl | omega | (simp only [lnS] <;> omega) | (simp <;> omega))) (by first | (simp only [packA_t, packA_f, iE, bE, setAt, cellsA, Value.cells, map_vc, map_vn, Nat.reduceAdd, qS] <;> rfl) | rfl)) trivial rfl ?_
  refine al_ro' (ro_eq (ro_ld_ptr k10_ty42 rfl mo2_7 (u2 rfl s5_8) (by first | exact Nat.le_of_ble_eq_true rfl | omega | (simp only [lnS] <;> omega) | (simp <;> omega))) (by first | (simp only [packA_t, packA_f, iE, bE, setAt, cellsA, Value.cells, map_vc, map_vn, Nat.reduceAdd, qS] <;> rfl) | rfl)) trivial rfl ?_
  refine al_ro' (ro_call (evL_cons (up_m rfl up_h) (evL_cons up_h evL_nil)) rfl (stateErr_ok nm ps hp b d v post sq) k10_hcf81) trivial rfl ?_
  refine al_ro' (ro_lit k10_sl133 (evP_cons (up_m rfl (u2 rfl up_h)) (evP_cons up_h evP_nil)) rfl rfl rfl rfl) trivial rfl ?_
  refine al_ro' (ro_call (evL_cons up_h evL_nil) rfl (first_ok [_, _] (by simp)) k10_hcf63) trivial rfl ?_
  refine al_ro' (ro_assign up_h) trivial rfl ?_
  refine al_end (fun e_9 he_9 => ?_)
  have s5_9 := ef 5 he_9 (up_m rfl (u2 rfl (u4 rfl s5_8)))
  have s6_9 := ef 6 he_9 (up_m rfl (u2 rfl (u4 rfl s6_8)))
  have s8_9 := ef 8 he_9 (up_m rfl (u2 rfl (u4 rfl s8_8)))
  have s9_9 := ef 9 he_9 up_h
  clear he_9 s5_8 s6_8 s8_8 s9_8
  refine then_n ?_
  refine aw_seq ?_
  refine aw_text (by kernel_rfl) ?_
  refine al_ro' (ro_move s9_9) trivial rfl ?_
  refine al_ro' (ro_neq up_h ev_c) trivial rfl ?_
  refine al_end (fun e_10 he_10 => ?_)
  have s5_10 := ef 5 he_10 (u2 rfl s5_9)
  have s6_10 := ef 6 he_10 (u2 rfl s6_9)
  have s8_10 := ef 8 he_10 (u2 rfl s8_9)
  have s9_10 := ef 9 he_10 (u2 rfl s9_9)
  have s28_10 := ef 28 he_10 up_h
  clear he_10 s5_9 s6_9 s8_9 s9_9
  refine then_n ?_
  refine aw_case s28_10 (fun hq_11 => ?_) (fun hq_11 => ?_)
  · (first | replace hq_11 := bnt hq_11 | replace hq_11 := bnf hq_11 | replace hq_11 := bt hq_11 | replace hq_11 := bf hq_11 | replace hq_11 := bt' hq_11 | replace hq_11 := bf' hq_11 | skip)
    first
    | (cases hq_11; done) | (exfalso; omega)
    | (
       refine aw_seq ?_
       refine aw_text (by kernel_rfl) ?_
       refine al_ro' (ro_build evP_nil k10_bz68 k10_bu68 k10_bp68 rfl) trivial rfl ?_
       refine al_ro' (ro_move (up_m rfl s9_10)) trivial rfl ?_
       refine al_stm (st_store (u2 rfl s6_10) (up_m rfl up_h) rfl rfl mo3_7 k10_sz68 rfl (by first | exact Nat.le_of_ble_eq_true rfl | omega | (simp only [lnS] <;> omega) | (simp <;> omega))) trivial rfl (fun m_12 hm_12 => ?_)
       have mo3_12 := m_set hm_12 mo3_7
       (try simp only [packA_t, packA_f, iE, bE, setAt, cellsA, Value.cells, map_vc, map_vn, Nat.reduceAdd, qS] at mo3_12)
       have mo4_12 := m_set_o hm_12 mo4_7 (by decide)
       have mo2_12 := m_set_o hm_12 mo2_7 (by decide)
       have mo1_12 := m_set_o hm_12 mo1_7 (by decide)
       have mo0_12 := m_set_o hm_12 mo0_7 (by decide)
       have ml_12 := m_set_l hm_12 ml_7
       clear hm_12 mo4_7 mo3_7 mo2_7 mo1_7 mo0_7
       refine al_ro' (ro_assign (up_n up_h)) trivial rfl ?_
       refine al_end (fun e_13 he_13 => ?_)
       have s6_13 := ef 6 he_13 (up_m rfl (up_n (u2 rfl s6_10)))
       have s7_13 := ef 7 he_13 up_h
       clear he_13 s28_10 s5_10 s6_10 s8_10 s9_10
       refine then_n ?_
       refine aw_ret ?_
       refine then_r ?_
       refine ret2 (.inr rfl) (by kernel_rfl) (resV_cell s6_13 mo3_12 k10_ty68 (by first | exact Nat.le_of_ble_eq_true rfl | omega | (simp only [lnS] <;> omega) | (simp <;> omega)) (by simp)) (resV_tmp s7_13) (vw_r (.ro _ rfl)) (.ro _ rfl) ?_
       clear s6_13 s7_13 mo3_12 mo4_12 mo2_12 mo1_12 mo0_12 ml_12
       (have hq : ¬ stE nm ps b d v post sq = 0 := (by assumption); rw [if_neg hq, if_neg hq]; rfl))
  · (first | replace hq_11 := bnt hq_11 | replace hq_11 := bnf hq_11 | replace hq_11 := bt hq_11 | replace hq_11 := bf hq_11 | replace hq_11 := bt' hq_11 | replace hq_11 := bf' hq_11 | skip)
    first
    | (cases hq_11; done) | (exfalso; omega)
    | (
       (have hq : stE nm ps b d v post sq = 0 := (by assumption); have hR := stE_right hq; have hlen := hR.1.2; have hpl := plW_len ps ps.length; have hpo := hR.2.2.1; have hsq := hR.2.2.2; have hbb := hR.2.1.1)
       refine aw_skip ?_
       refine then_n ?_
       refine aw_seq ?_
       refine aw_draw 7 (by kernel_rfl) (by kernel_rfl) (by kernel_rfl) (by kernel_rfl) ?_
       refine ds_ro' (ro_fld_ptr k10_fl103_0 rfl s8_10) trivial rfl ?_
       refine ds_ro' (ro_eq (ro_ld_ptr k10_ty101 rfl mo4_7 up_h (by first | exact Nat.le_of_ble_eq_true rfl | omega | (simp only [lnS] <;> omega) | (simp <;> omega))) (by first | (simp only [packA_t, packA_f, iE, bE, setAt, cellsA, Value.cells, map_vc, map_vn, Nat.reduceAdd, qS] <;> rfl) | rfl)) trivial rfl ?_
       refine ds_ro' (ro_call (evL_cons up_h evL_nil) rfl (places_ok nm ps hR.1.1 (by have := hR.1.2; omega)) k10_hcf79) trivial rfl ?_
       refine ds_ro' (ro_fld_ptr k10_fl42_1 rfl (up_m rfl (u2 rfl s5_10))) trivial rfl ?_
       refine ds_ro' (ro_eq (ro_ld_ptr k10_ty3 rfl mo2_7 up_h (by first | exact Nat.le_of_ble_eq_true rfl | omega | (simp only [lnS] <;> omega) | (simp <;> omega))) (by first | (simp only [packA_t, packA_f, iE, bE, setAt, cellsA, Value.cells, map_vc, map_vn, Nat.reduceAdd, qS] <;> rfl) | rfl)) trivial rfl ?_
       refine ds_ro' (ro_assign (u2 rfl up_h)) trivial rfl ?_
       refine ds_ro' (ro_assign (up_m rfl up_h)) trivial rfl ?_
       refine ds_nil ?_
       refine al_end (fun e_14 he_14 => ?_)
       have s5_14 := ef 5 he_14 (up_m rfl (u2 rfl (u4 rfl s5_10)))
       have s6_14 := ef 6 he_14 (up_m rfl (u2 rfl (u4 rfl s6_10)))
       have s8_14 := ef 8 he_14 (up_m rfl (u2 rfl (u4 rfl s8_10)))
       have s10_14 := ef 10 he_14 (up_m rfl up_h)
       have s11_14 := ef 11 he_14 up_h
       clear he_14 s28_10 s5_10 s6_10 s8_10 s9_10
       refine then_n ?_
       refine aw_seq ?_
       refine aw_seq ?_
       refine aw_text (by kernel_rfl) ?_
       refine al_ro' (ro_fld_ptr k10_fl42_0 rfl s5_14) trivial rfl ?_
       refine al_ro' (ro_eq (ro_ld_ptr k10_ty3 rfl mo2_7 up_h (by first | exact Nat.le_of_ble_eq_true rfl | omega | (simp only [lnS] <;> omega) | (simp <;> omega))) (by first | (simp only [packA_t, packA_f, iE, bE, setAt, cellsA, Value.cells, map_vc, map_vn, Nat.reduceAdd, qS] <;> rfl) | rfl)) trivial rfl ?_
       refine al_ro' (ro_assign up_h) trivial rfl ?_
       refine al_end (fun e_15 he_15 => ?_)
       have s6_15 := ef 6 he_15 (up_m rfl (u2 rfl s6_14))
       have s8_15 := ef 8 he_15 (up_m rfl (u2 rfl s8_14))
       have s10_15 := ef 10 he_15 (up_m rfl (u2 rfl s10_14))
       have s11_15 := ef 11 he_15 (up_m rfl (u2 rfl s11_14))
       have s12_15 := ef 12 he_15 up_h
       clear he_15 s10_14 s11_14 s5_14 s6_14 s8_14
       refine then_n ?_
       refine aw_block ?_
       refine aw_loop (S := (Int × Int)) (fun s e mem => match s with | ⟨i, s⟩ => (evA e (.tmp 12) = .v (.int .i64 i)) ∧ (evA e (.tmp 11) = .v (.int .i64 s)) ∧ (evA e (.tmp 6) = evA e_15 (.tmp 6)) ∧ (evA e (.tmp 8) = evA e_15 (.tmp 8)) ∧ (evA e (.tmp 10) = evA e_15 (.tmp 10)) ∧ (mem[4]? = m_7[4]?) ∧ (mem[3]? = m_7[3]?) ∧ (mem[2]? = m_7[2]?) ∧ (mem[1]? = m_7[1]?) ∧ (mem[0]? = m_7[0]?) ∧ (mem.length = 5) ∧ ((post ≤ i ∧ i ≤ ps.length ∧ 0 ≤ s ∧ s ≤ 20000000000 + 80000000000 * i ∧ stG ps b (ps.length - post.toNat) post.toNat sq = stG ps b (ps.length - i.toNat) i.toNat s))) (fun s => match s with | ⟨i, s⟩ => (ps.length - i).toNat) ⟨_, _⟩ ⟨s12_15, s11_15, rfl, rfl, rfl, rfl, rfl, rfl, rfl, rfl, ml_7, ?_⟩ ?_
       · (refine ⟨by omega, by omega, by omega, by omega, rfl⟩)
       · rintro ⟨i, s⟩ e_16 m_16 ⟨s12_16, s11_16, k6_16, k8_16, k10_16, mk4_16, mk3_16, mk2_16, mk1_16, mk0_16, ml_16, hinv⟩
         have s6_16 := k6_16.trans s6_15
         have s8_16 := k8_16.trans s8_15
         have s10_16 := k10_16.trans s10_15
         have mo4_16 := mk4_16.trans mo4_7
         have mo3_16 := mk3_16.trans mo3_7
         have mo2_16 := mk2_16.trans mo2_7
         have mo1_16 := mk1_16.trans mo1_7
         have mo0_16 := mk0_16.trans mo0_7
         refine aw_seq ?_
         refine aw_seq ?_
         refine aw_text (by kernel_rfl) ?_
         refine al_ro' (ro_move s12_16) trivial rfl ?_
         refine al_ro' (ro_fld_ptr k10_fl103_0 rfl (up_m rfl s8_16)) trivial rfl ?_
         refine al_ro' (ro_fld_ptr k10_fl101_0 rfl up_h) trivial rfl ?_
         refine al_ro' (ro_fld_ptr k10_fl24_1 rfl up_h) trivial rfl ?_
         refine al_ro' (ro_eq (ro_ld_ptr k10_ty22 rfl mo4_16 up_h (by first | exact Nat.le_of_ble_eq_true rfl | omega | (simp only [lnS] <;> omega) | (simp <;> omega))) (by first | (simp only [packA_t, packA_f, iE, bE, setAt, cellsA, Value.cells, map_vc, map_vn, Nat.reduceAdd, qS] <;> rfl) | rfl)) trivial rfl ?_
         refine al_ro' (ro_eq (ro_len_row up_h rfl k10_sl22.1) (by first | (simp only [lnS] <;> rfl) | rfl)) trivial rfl ?_
         refine al_ro' (ro_lss (up_m rfl (u4 rfl up_h)) up_h) trivial rfl ?_
         refine al_end (fun e_17 he_17 => ?_)
         have s6_17 := ef 6 he_17 (up_m rfl (u2 rfl (u4 rfl s6_16)))
         have s8_17 := ef 8 he_17 (up_m rfl (u2 rfl (u4 rfl s8_16)))
         have s10_17 := ef 10 he_17 (up_m rfl (u2 rfl (u4 rfl s10_16)))
         have s11_17 := ef 11 he_17 (up_m rfl (u2 rfl (u4 rfl s11_16)))
         have s12_17 := ef 12 he_17 (up_m rfl (u2 rfl (u4 rfl s12_16)))
         have s44_17 := ef 44 he_17 up_h
         clear he_17 s10_16 s11_16 s12_16 s6_16 s8_16
         refine then_n ?_
         refine aw_case s44_17 (fun hq_18 => ?_) (fun hq_18 => ?_)
         · (first | replace hq_18 := bnt hq_18 | replace hq_18 := bnf hq_18 | replace hq_18 := bt hq_18 | replace hq_18 := bf hq_18 | replace hq_18 := bt' hq_18 | replace hq_18 := bf' hq_18 | skip)
           first
           | (cases hq_18; done) | (exfalso; omega)
           | (
              (obtain ⟨p1, p2, p3, p4, p5⟩ := hinv; have hpa := hR.1.1.at i.toNat; have hle := hR.1.1.len (i := i.toNat) (by omega); have hlos := los_bound (dec := b) (p := ps.getD i.toNat default) (by omega) hpa.1 hpa.2.1; have hsu := sumL_bound hR.1.1 i.toNat; have hat : (plW ps ps.length).getD i.toNat default = sumL ps i.toNat := plW_at ps (by omega); have hby := los_by (dec := b) hle)
              refine aw_skip ?_
              refine then_n ?_
              refine aw_seq ?_
              refine aw_block ?_
              refine aw_seq ?_
              refine aw_text (by kernel_rfl) ?_
              refine al_ro' (ro_eq (ro_ld_ptr k10_ty103 rfl mo4_16 s8_17 (by first | exact Nat.le_of_ble_eq_true rfl | omega | (simp only [lnS] <;> omega) | (simp <;> omega))) (by first | (simp only [packA_t, packA_f, iE, bE, setAt, cellsA, Value.cells, map_vc, map_vn, Nat.reduceAdd, qS] <;> rfl) | rfl)) trivial rfl ?_
              refine al_ro' (ro_move (up_m rfl s12_17)) trivial rfl ?_
              refine al_ro' (ro_call (evL_cons (up_m rfl up_h) (evL_cons up_h evL_nil)) rfl (braked_ok nm ps hR.1.1 b d v i (by omega) (by omega) (by have := hR.2.1.1; omega)) k10_hcf82) trivial rfl ?_
              refine al_ro' (ro_assign up_h) trivial rfl ?_
              refine al_end (fun e_19 he_19 => ?_)
              have s6_19 := ef 6 he_19 (u4 rfl s6_17)
              have s8_19 := ef 8 he_19 (u4 rfl s8_17)
              have s10_19 := ef 10 he_19 (u4 rfl s10_17)
              have s11_19 := ef 11 he_19 (u4 rfl s11_17)
              have s12_19 := ef 12 he_19 (u4 rfl s12_17)
              have s13_19 := ef 13 he_19 up_h
              clear he_19 s10_17 s11_17 s12_17 s44_17 s6_17 s8_17
              refine then_n ?_
              refine aw_seq ?_
              refine aw_seq ?_
              refine aw_text (by kernel_rfl) ?_
              refine al_ro' (ro_move s13_19) trivial rfl ?_
              refine al_ro' (ro_gtr up_h ev_c) trivial rfl ?_
              refine al_ro' (ro_move up_h) trivial rfl ?_
              refine al_case up_h (fun hb_20 hq_20 => ?_) (fun hb_20 hq_20 => ?_)
              · (first | replace hq_20 := bnt hq_20 | replace hq_20 := bnf hq_20 | replace hq_20 := bt hq_20 | replace hq_20 := bf hq_20 | replace hq_20 := bt' hq_20 | replace hq_20 := bf' hq_20 | skip)
                first
                | (cases hq_20; done) | (exfalso; omega)
                | (
                   refine al_ro' (ro_move (up_m rfl (u2 rfl s13_19))) ⟨_, rfl, hb_20⟩ rfl ?_
                   refine al_ro' (ro_move (u4 rfl s11_19)) ⟨_, rfl, (up_m rfl hb_20)⟩ rfl ?_
                   refine al_ro' (ro_geq (up_m rfl up_h) up_h) ⟨_, rfl, (u2 rfl hb_20)⟩ rfl ?_
                   refine al_ro' (ro_pickT (up_m rfl (u2 rfl hb_20)) up_h) trivial rfl ?_
                   refine al_end (fun e_21 he_21 => ?_)
                   have s6_21 := ef 6 he_21 (up_m rfl (u2 rfl (u4 rfl s6_19)))
                   have s8_21 := ef 8 he_21 (up_m rfl (u2 rfl (u4 rfl s8_19)))
                   have s10_21 := ef 10 he_21 (up_m rfl (u2 rfl (u4 rfl s10_19)))
                   have s11_21 := ef 11 he_21 (up_m rfl (u2 rfl (u4 rfl s11_19)))
                   have s12_21 := ef 12 he_21 (up_m rfl (u2 rfl (u4 rfl s12_19)))
                   have s13_21 := ef 13 he_21 (up_m rfl (u2 rfl (u4 rfl s13_19)))
                   have s56_21 := ef 56 he_21 up_h
                   clear he_21 hb_20 s10_19 s11_19 s12_19 s13_19 s6_19 s8_19
                   refine then_n ?_
                   refine aw_case s56_21 (fun hq_22 => ?_) (fun hq_22 => ?_)
                   · (first | replace hq_22 := bnt hq_22 | replace hq_22 := bnf hq_22 | replace hq_22 := bt hq_22 | replace hq_22 := bf hq_22 | replace hq_22 := bt' hq_22 | replace hq_22 := bf' hq_22 | skip)
                     first
                     | (cases hq_22; done) | (exfalso; omega)
                     | (
                        (have hgt : losW b (ps.getD i.toNat default) > 0 ∧ losW b (ps.getD i.toNat default) ≥ s := (by omega); have hps := los_pos hle hgt.1; have ht1 := tdiv_bound (x := s) (y := (losW b (ps.getD i.toNat default)).tdiv (ps.getD i.toNat default).len) (by omega) (by omega); have ht2 := tdiv_bound (x := s + (losW b (ps.getD i.toNat default)).tdiv (ps.getD i.toNat default).len - 1) (y := (losW b (ps.getD i.toNat default)).tdiv (ps.getD i.toNat default).len) (by omega) (by omega))
                        refine aw_seq ?_
                        refine aw_text (by kernel_rfl) ?_
                        refine al_ro' (ro_move s13_21) trivial rfl ?_
                        refine al_ro' (ro_fld_ptr k10_fl103_0 rfl (up_m rfl s8_21)) trivial rfl ?_
                        refine al_ro' (ro_fld_ptr k10_fl101_0 rfl up_h) trivial rfl ?_
                        refine al_ro' (ro_fld_ptr k10_fl24_1 rfl up_h) trivial rfl ?_
                        refine al_ro' (ro_eq (ro_ld_ptr k10_ty22 rfl mo4_16 up_h (by first | exact Nat.le_of_ble_eq_true rfl | omega | (simp only [lnS] <;> omega) | (simp <;> omega))) (by first | (simp only [packA_t, packA_f, iE, bE, setAt, cellsA, Value.cells, map_vc, map_vn, Nat.reduceAdd, qS] <;> rfl) | rfl)) trivial rfl ?_
                        refine al_ro' (ro_move (up_m rfl (u4 rfl s12_21))) trivial rfl ?_
                        refine al_ro' (ro_eq (ro_ix k10_sl22 (up_m rfl up_h) up_h (by first | decide | omega | (simp <;> omega)) (by first | (refine idx_map ?_; first | omega | (simp only [lnS]; omega)) | (refine idx_mapI ?_; first | omega | (simp only [lnS]; omega)) | (refine idx_mapN ?_; first | omega | (simp only [lnS]; omega)) | rfl)) (by first | (simp only [packA_t, packA_f, iE, bE, setAt, cellsA, Value.cells, map_vc, map_vn, Nat.reduceAdd, qS] <;> rfl) | rfl)) trivial rfl ?_
                        refine al_ro' (ro_eq (ro_fld_ref k10_fl66_0 rfl up_h) (by first | (simp only [packA_t, packA_f, iE, bE, setAt, cellsA, Value.cells, map_vc, map_vn, Nat.reduceAdd, qS] <;> rfl) | rfl)) trivial rfl ?_
                        refine al_ro' (ro_eq (ro_ld_ref k10_ty3 rfl up_h (by first | exact Nat.le_of_ble_eq_true rfl | omega | (simp only [lnS] <;> omega) | (simp <;> omega))) (by first | (simp only [packA_t, packA_f, iE, bE, setAt, cellsA, Value.cells, map_vc, map_vn, Nat.reduceAdd, qS] <;> rfl) | rfl)) trivial rfl ?_
                        first | (refine al_ro' (ro_quo' (u8 rfl up_h) up_h (by first | decide | omega) ?_) trivial rfl ?_; · (unfold In64; omega)) | refine al_ro' (ro_quo (u8 rfl up_h) up_h (by first | decide | omega)) trivial rfl ?_
                        refine al_ro' (ro_assign up_h) trivial rfl ?_
                        refine al_end (fun e_23 he_23 => ?_)
                        have s6_23 := ef 6 he_23 (up_m rfl (u2 rfl (u8 rfl s6_21)))
                        have s10_23 := ef 10 he_23 (up_m rfl (u2 rfl (u8 rfl s10_21)))
                        have s11_23 := ef 11 he_23 (up_m rfl (u2 rfl (u8 rfl s11_21)))
                        have s12_23 := ef 12 he_23 (up_m rfl (u2 rfl (u8 rfl s12_21)))
                        have s14_23 := ef 14 he_23 up_h
                        clear he_23 s10_21 s11_21 s12_21 s13_21 s56_21 s6_21 s8_21
                        refine then_n ?_
                        refine aw_seq ?_
                        refine aw_draw 20 (by kernel_rfl) (by kernel_rfl) (by kernel_rfl) (by kernel_rfl) ?_
                        refine ds_ro' (ro_move s10_23) trivial rfl ?_
                        refine ds_ro' (ro_move (up_m rfl s12_23)) trivial rfl ?_
                        refine ds_ro' (ro_eq (ro_ix k10_sl30 (up_m rfl up_h) up_h (by first | decide | omega | (simp <;> omega)) (by first | (refine idx_map ?_; first | omega | (simp only [lnS]; omega)) | (refine idx_mapI ?_; first | omega | (simp only [lnS]; omega)) | (refine idx_mapN ?_; first | omega | (simp only [lnS]; omega)) | rfl)) (by first | (simp only [packA_t, packA_f, iE, bE, setAt, cellsA, Value.cells, map_vc, map_vn, Nat.reduceAdd, qS] <;> rfl) | rfl)) trivial rfl ?_
                        refine ds_ro' (ro_eq (ro_ld_ref k10_ty3 rfl up_h (by first | exact Nat.le_of_ble_eq_true rfl | omega | (simp only [lnS] <;> omega) | (simp <;> omega))) (by first | (simp only [packA_t, packA_f, iE, bE, setAt, cellsA, Value.cells, map_vc, map_vn, Nat.reduceAdd, qS] <;> rfl) | rfl)) trivial rfl ?_
                        refine ds_ro' (ro_move (u4 rfl s11_23)) trivial rfl ?_
                        refine ds_ro' (ro_move (up_m rfl (u4 rfl s14_23))) trivial rfl ?_
                        first | (refine ds_ro' (ro_quo' (up_m rfl up_h) up_h (by first | decide | omega) ?_) trivial rfl ?_; · (unfold In64; omega)) | refine ds_ro' (ro_quo (up_m rfl up_h) up_h (by first | decide | omega)) trivial rfl ?_
                        first | (refine ds_ro' (ro_add' (up_m rfl (u2 rfl up_h)) up_h ?_) trivial rfl ?_; · (unfold In64; omega)) | refine ds_ro' (ro_add (up_m rfl (u2 rfl up_h)) up_h) trivial rfl ?_
                        refine ds_ro' (ro_move (u8 rfl s10_23)) trivial rfl ?_
                        refine ds_ro' (ro_move (up_m rfl (u8 rfl s12_23))) trivial rfl ?_
                        refine ds_ro' (ro_eq (ro_ix k10_sl30 (up_m rfl up_h) up_h (by first | decide | omega | (simp <;> omega)) (by first | (refine idx_map ?_; first | omega | (simp only [lnS]; omega)) | (refine idx_mapI ?_; first | omega | (simp only [lnS]; omega)) | (refine idx_mapN ?_; first | omega | (simp only [lnS]; omega)) | rfl)) (by first | (simp only [packA_t, packA_f, iE, bE, setAt, cellsA, Value.cells, map_vc, map_vn, Nat.reduceAdd, qS] <;> rfl) | rfl)) trivial rfl ?_
                        refine ds_ro' (ro_eq (ro_ld_ref k10_ty3 rfl up_h (by first | exact Nat.le_of_ble_eq_true rfl | omega | (simp only [lnS] <;> omega) | (simp <;> omega))) (by first | (simp only [packA_t, packA_f, iE, bE, setAt, cellsA, Value.cells, map_vc, map_vn, Nat.reduceAdd, qS] <;> rfl) | rfl)) trivial rfl ?_
                        refine ds_ro' (ro_move (u4 rfl (u8 rfl s11_23))) trivial rfl ?_
                        refine ds_ro' (ro_move (up_m rfl (u4 rfl (u8 rfl s14_23)))) trivial rfl ?_
                        first | (refine ds_ro' (ro_add' (up_m rfl up_h) up_h ?_) trivial rfl ?_; · (unfold In64; omega)) | refine ds_ro' (ro_add (up_m rfl up_h) up_h) trivial rfl ?_
                        first | (refine ds_ro' (ro_sub' up_h ev_c ?_) trivial rfl ?_; · (unfold In64; omega)) | refine ds_ro' (ro_sub up_h ev_c) trivial rfl ?_
                        refine ds_ro' (ro_move (u16 rfl s14_23)) trivial rfl ?_
                        first | (refine ds_ro' (ro_quo' (up_m rfl up_h) up_h (by first | decide | omega) ?_) trivial rfl ?_; · (unfold In64; omega)) | refine ds_ro' (ro_quo (up_m rfl up_h) up_h (by first | decide | omega)) trivial rfl ?_
                        first | (refine ds_ro' (ro_add' (u2 rfl (u4 rfl up_h)) up_h ?_) trivial rfl ?_; · (unfold In64; omega)) | refine ds_ro' (ro_add (u2 rfl (u4 rfl up_h)) up_h) trivial rfl ?_
                        refine ds_ro' (ro_build (evP_cons (up_m rfl (u2 rfl (u8 rfl up_h))) (evP_cons up_h evP_nil)) k10_bz68 k10_bu68 k10_bp68 rfl) trivial rfl ?_
                        refine ds_nil ?_
                        refine al_stm (st_store (u4 rfl (u16 rfl s6_23)) up_h rfl rfl mo3_16 k10_sz68 rfl (by first | exact Nat.le_of_ble_eq_true rfl | omega | (simp only [lnS] <;> omega) | (simp <;> omega))) trivial rfl (fun m_24 hm_24 => ?_)
                        have mo3_24 := m_set hm_24 mo3_16
                        (try simp only [packA_t, packA_f, iE, bE, setAt, cellsA, Value.cells, map_vc, map_vn, Nat.reduceAdd, qS] at mo3_24)
                        have mo4_24 := m_set_o hm_24 mo4_16 (by decide)
                        have mo2_24 := m_set_o hm_24 mo2_16 (by decide)
                        have mo1_24 := m_set_o hm_24 mo1_16 (by decide)
                        have mo0_24 := m_set_o hm_24 mo0_16 (by decide)
                        have ml_24 := m_set_l hm_24 ml_16
                        clear hm_24 mo4_16 mo3_16 mo2_16 mo1_16 mo0_16
                        refine al_ro' (ro_assign ev_c) trivial rfl ?_
                        refine al_end (fun e_25 he_25 => ?_)
                        have s6_25 := ef 6 he_25 (up_m rfl (up_n (u4 rfl (u16 rfl s6_23))))
                        have s7_25 := ef 7 he_25 up_h
                        clear he_25 s10_23 s11_23 s12_23 s14_23 s6_23
                        refine then_n ?_
                        refine aw_ret ?_
                        refine then_r ?_
                        refine block_r ?_
                        refine then_r ?_
                        refine then_r ?_
                        refine block_r ?_
                        refine then_r ?_
                        refine ret2 (.inr rfl) (by kernel_rfl) (resV_cell s6_25 mo3_24 k10_ty68 (by first | exact Nat.le_of_ble_eq_true rfl | omega | (simp only [lnS] <;> omega) | (simp <;> omega)) (by simp)) (resV_tmp s7_25) (vw_r (.ro _ rfl)) (.ro _ rfl) ?_
                        clear s6_25 s7_25 mo3_24 mo4_24 mo2_24 mo1_24 mo0_24 ml_24
                        (have hst : stG ps b (ps.length - post.toNat) post.toNat sq = some (_, _) := (by rw [p5, show ps.length - i.toNat = (ps.length - (i + 1).toNat) + 1 by omega]; simp only [stG]; rw [if_pos hgt]); rw [if_pos hq, if_pos hq, stW, hst, hat]; rfl))
                   · (first | replace hq_22 := bnt hq_22 | replace hq_22 := bnf hq_22 | replace hq_22 := bt hq_22 | replace hq_22 := bf hq_22 | replace hq_22 := bt' hq_22 | replace hq_22 := bf' hq_22 | skip)
                     first
                     | (cases hq_22; done) | (exfalso; omega)
                     | (
                        refine aw_skip ?_
                        refine then_n ?_
                        refine aw_text (by kernel_rfl) ?_
                        refine al_ro' (ro_move s11_21) trivial rfl ?_
                        refine al_ro' (ro_move (up_m rfl s13_21)) trivial rfl ?_
                        first | (refine al_ro' (ro_sub' (up_m rfl up_h) up_h ?_) trivial rfl ?_; · (unfold In64; omega)) | refine al_ro' (ro_sub (up_m rfl up_h) up_h) trivial rfl ?_
                        refine al_ro' (ro_assign up_h) trivial rfl ?_
                        refine al_end (fun e_26 he_26 => ?_)
                        have s6_26 := ef 6 he_26 (u4 rfl s6_21)
                        have s8_26 := ef 8 he_26 (u4 rfl s8_21)
                        have s10_26 := ef 10 he_26 (u4 rfl s10_21)
                        have s11_26 := ef 11 he_26 up_h
                        have s12_26 := ef 12 he_26 (u4 rfl s12_21)
                        clear he_26 s10_21 s11_21 s12_21 s13_21 s56_21 s6_21 s8_21
                        refine block_n ?_
                        refine then_n ?_
                        refine aw_text (by kernel_rfl) ?_
                        refine al_ro' (ro_move s12_26) trivial rfl ?_
                        first | (refine al_ro' (ro_add' up_h ev_c ?_) trivial rfl ?_; · (unfold In64; omega)) | refine al_ro' (ro_add up_h ev_c) trivial rfl ?_
                        refine al_ro' (ro_assign up_h) trivial rfl ?_
                        refine al_end (fun e_27 he_27 => ?_)
                        have s6_27 := ef 6 he_27 (up_m rfl (u2 rfl s6_26))
                        have s8_27 := ef 8 he_27 (up_m rfl (u2 rfl s8_26))
                        have s10_27 := ef 10 he_27 (up_m rfl (u2 rfl s10_26))
                        have s11_27 := ef 11 he_27 (up_m rfl (u2 rfl s11_26))
                        have s12_27 := ef 12 he_27 up_h
                        clear he_27 s10_26 s11_26 s12_26 s6_26 s8_26
                        refine then_n ?_
                        refine ⟨⟨_, _⟩, ⟨s12_27, s11_27, (s6_27.trans s6_15.symm), (s8_27.trans s8_15.symm), (s10_27.trans s10_15.symm), (mo4_16.trans mo4_7.symm), (mo3_16.trans mo3_7.symm), (mo2_16.trans mo2_7.symm), (mo1_16.trans mo1_7.symm), (mo0_16.trans mo0_7.symm), ml_16, ?_⟩, ?_⟩
                        · (refine ⟨by omega, by omega, by omega, by omega, ?_⟩; rw [p5, show ps.length - i.toNat = (ps.length - (i + 1).toNat) + 1 by omega, show (i + 1).toNat = i.toNat + 1 by omega]; simp only [stG]; rw [if_neg (by omega)])
                        · ((try dsimp only); omega)))
              · (first | replace hq_20 := bnt hq_20 | replace hq_20 := bnf hq_20 | replace hq_20 := bt hq_20 | replace hq_20 := bf hq_20 | replace hq_20 := bt' hq_20 | replace hq_20 := bf' hq_20 | skip)
                first
                | (cases hq_20; done) | (exfalso; omega)
                | (
                   refine al_skip' ⟨_, rfl, .inl hb_20⟩ rfl ?_
                   refine al_skip' ⟨_, rfl, .inl (up_m rfl hb_20)⟩ rfl ?_
                   refine al_skip' ⟨_, rfl, .inl (u2 rfl hb_20)⟩ rfl ?_
                   refine al_ro' (ro_pickF (up_m rfl (u2 rfl hb_20)) ev_c) trivial rfl ?_
                   refine al_end (fun e_28 he_28 => ?_)
                   have s6_28 := ef 6 he_28 (up_m rfl (u2 rfl (u4 rfl s6_19)))
                   have s8_28 := ef 8 he_28 (up_m rfl (u2 rfl (u4 rfl s8_19)))
                   have s10_28 := ef 10 he_28 (up_m rfl (u2 rfl (u4 rfl s10_19)))
                   have s11_28 := ef 11 he_28 (up_m rfl (u2 rfl (u4 rfl s11_19)))
                   have s12_28 := ef 12 he_28 (up_m rfl (u2 rfl (u4 rfl s12_19)))
                   have s13_28 := ef 13 he_28 (up_m rfl (u2 rfl (u4 rfl s13_19)))
                   have s56_28 := ef 56 he_28 up_h
                   clear he_28 hb_20 s10_19 s11_19 s12_19 s13_19 s6_19 s8_19
                   refine then_n ?_
                   refine aw_false s56_28 ?_
                   refine aw_skip ?_
                   refine then_n ?_
                   refine aw_text (by kernel_rfl) ?_
                   refine al_ro' (ro_move s11_28) trivial rfl ?_
                   refine al_ro' (ro_move (up_m rfl s13_28)) trivial rfl ?_
                   first | (refine al_ro' (ro_sub' (up_m rfl up_h) up_h ?_) trivial rfl ?_; · (unfold In64; omega)) | refine al_ro' (ro_sub (up_m rfl up_h) up_h) trivial rfl ?_
                   refine al_ro' (ro_assign up_h) trivial rfl ?_
                   refine al_end (fun e_30 he_30 => ?_)
                   have s6_30 := ef 6 he_30 (u4 rfl s6_28)
                   have s8_30 := ef 8 he_30 (u4 rfl s8_28)
                   have s10_30 := ef 10 he_30 (u4 rfl s10_28)
                   have s11_30 := ef 11 he_30 up_h
                   have s12_30 := ef 12 he_30 (u4 rfl s12_28)
                   clear he_30 s10_28 s11_28 s12_28 s13_28 s56_28 s6_28 s8_28
                   refine block_n ?_
                   refine then_n ?_
                   refine aw_text (by kernel_rfl) ?_
                   refine al_ro' (ro_move s12_30) trivial rfl ?_
                   first | (refine al_ro' (ro_add' up_h ev_c ?_) trivial rfl ?_; · (unfold In64; omega)) | refine al_ro' (ro_add up_h ev_c) trivial rfl ?_
                   refine al_ro' (ro_assign up_h) trivial rfl ?_
                   refine al_end (fun e_31 he_31 => ?_)
                   have s6_31 := ef 6 he_31 (up_m rfl (u2 rfl s6_30))
                   have s8_31 := ef 8 he_31 (up_m rfl (u2 rfl s8_30))
                   have s10_31 := ef 10 he_31 (up_m rfl (u2 rfl s10_30))
                   have s11_31 := ef 11 he_31 (up_m rfl (u2 rfl s11_30))
                   have s12_31 := ef 12 he_31 up_h
                   clear he_31 s10_30 s11_30 s12_30 s6_30 s8_30
                   refine then_n ?_
                   refine ⟨⟨_, _⟩, ⟨s12_31, s11_31, (s6_31.trans s6_15.symm), (s8_31.trans s8_15.symm), (s10_31.trans s10_15.symm), (mo4_16.trans mo4_7.symm), (mo3_16.trans mo3_7.symm), (mo2_16.trans mo2_7.symm), (mo1_16.trans mo1_7.symm), (mo0_16.trans mo0_7.symm), ml_16, ?_⟩, ?_⟩
                   · (refine ⟨by omega, by omega, by omega, by omega, ?_⟩; rw [p5, show ps.length - i.toNat = (ps.length - (i + 1).toNat) + 1 by omega, show (i + 1).toNat = i.toNat + 1 by omega]; simp only [stG]; rw [if_neg (by omega)])
                   · ((try dsimp only); omega)))
         · (first | replace hq_18 := bnt hq_18 | replace hq_18 := bnf hq_18 | replace hq_18 := bt hq_18 | replace hq_18 := bf hq_18 | replace hq_18 := bt' hq_18 | replace hq_18 := bf' hq_18 | skip)
           first
           | (cases hq_18; done) | (exfalso; omega)
           | (
              refine aw_exit ?_
              refine then_x ?_
              refine then_x ?_
              refine block_hit ?_
              refine then_n ?_
              refine aw_seq ?_
              refine aw_text (by kernel_rfl) ?_
              refine al_ro' (ro_build evP_nil k10_bz68 k10_bu68 k10_bp68 rfl) trivial rfl ?_
              refine al_stm (st_store (up_m rfl s6_17) up_h rfl rfl mo3_16 k10_sz68 rfl (by first | exact Nat.le_of_ble_eq_true rfl | omega | (simp only [lnS] <;> omega) | (simp <;> omega))) trivial rfl (fun m_32 hm_32 => ?_)
              have mo3_32 := m_set hm_32 mo3_16
              (try simp only [packA_t, packA_f, iE, bE, setAt, cellsA, Value.cells, map_vc, map_vn, Nat.reduceAdd, qS] at mo3_32)
              have mo4_32 := m_set_o hm_32 mo4_16 (by decide)
              have mo2_32 := m_set_o hm_32 mo2_16 (by decide)
              have mo1_32 := m_set_o hm_32 mo1_16 (by decide)
              have mo0_32 := m_set_o hm_32 mo0_16 (by decide)
              have ml_32 := m_set_l hm_32 ml_16
              clear hm_32 mo4_16 mo3_16 mo2_16 mo1_16 mo0_16
              refine al_ro' (ro_assign ev_c) trivial rfl ?_
              refine al_end (fun e_33 he_33 => ?_)
              have s6_33 := ef 6 he_33 (up_m rfl (up_n (up_m rfl s6_17)))
              have s7_33 := ef 7 he_33 up_h
              clear he_33 s10_17 s11_17 s12_17 s44_17 s6_17 s8_17
              refine then_n ?_
              refine aw_ret ?_
              refine ret2 (.inr rfl) (by kernel_rfl) (resV_cell s6_33 mo3_32 k10_ty68 (by first | exact Nat.le_of_ble_eq_true rfl | omega | (simp only [lnS] <;> omega) | (simp <;> omega)) (by simp)) (resV_tmp s7_33) (vw_r (.ro _ rfl)) (.ro _ rfl) ?_
              clear s6_33 s7_33 mo3_32 mo4_32 mo2_32 mo1_32 mo0_32 ml_32
              (obtain ⟨p1, p2, p3, p4, p5⟩ := hinv; have hst : stG ps b (ps.length - post.toNat) post.toNat sq = none := (by rw [p5, show ps.length - i.toNat = 0 by omega]; rfl); rw [if_pos hq, if_pos hq, stW, hst]; rfl)))
end
end Go.Proofs.Ytelgkjekpcfffaa
