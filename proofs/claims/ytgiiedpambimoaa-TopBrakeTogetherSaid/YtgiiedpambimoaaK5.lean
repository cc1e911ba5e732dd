/- Contracts of chapter 5: places, limits. No conditions on a program. -/
import Derived.Test.YtgiiedpambimoaaK4
namespace Go.Proofs.Ytgiiedpambimoaa
open Go Go.RowKit Go.Proofs
set_option linter.unusedSimpArgs false
set_option linter.unusedVariables false
theorem k5_az118 : (Try.prog.info? 118).bind (·.zero) = some (.agg #[.int .i64 0, .int .i64 0, .int .i64 0, .bool false]) := by kernel_rfl
theorem k5_fl118_2 : FldIs Try.prog 118 2 2 false 1 := by unfold FldIs; kernel_rfl
theorem k5_hcf82 : ∀ args w, (callFunc 82 args).run Try.prog w = .ok (.enter 82 args) w := fun _ _ => by kernel_rfl
theorem k5_sl49 : SlIs Try.prog 49 118 4 32 (.agg #[.int .i64 0, .int .i64 0, .int .i64 0, .bool false]) := ⟨by kernel_rfl, by kernel_rfl, by kernel_rfl⟩
theorem k5_sz118 : (Try.prog.info? 118).map (·.size) = some 4 := by kernel_rfl
theorem k5_ty118 : TyIs Try.prog 118 true 4 := ⟨by kernel_rfl, by kernel_rfl⟩
theorem k5_ty3 : TyIs Try.prog 3 false 1 := ⟨by kernel_rfl, by kernel_rfl⟩
set_option maxRecDepth 100000 in
set_option maxHeartbeats 1000000 in
theorem limits1_ok (p q : Piece) (hp : 0 ≤ p.lim ∧ p.lim ≤ 20000000000) (hq : 0 ≤ q.lim ∧ q.lim ≤ 20000000000) : FnOk Try.prog 82 [.agg (pE p), .agg (pE q)] (fun r => r = iA (p.lim - q.lim)) := by
  refine fnOk_of (fn := Try.f82) 10 (by kernel_rfl) rfl (by kernel_rfl) (Nat.le_of_ble_eq_true rfl) ?_
  intro e_0 m_0 hA hm_0
  have s0_0 : evA e_0 (.tmp 0) = _ := hA 0 _ rfl
  have s1_0 : evA e_0 (.tmp 1) = _ := hA 1 _ rfl
  have ml_0 : m_0.length = 0 := by rw [hm_0]; rfl
  clear hA hm_0
  refine aw_seq ?_
  refine aw_text (by kernel_rfl) ?_
  refine al_stm (st_box s0_0 rfl ml_0) trivial rfl (fun m_1 hm_1 => ?_)
  have mo0_1 := m_push hm_1 ml_0
  (try simp only [packA_t, packA_f, iE, bE, setAt, cellsA, Value.cells, map_vc, map_vn, Nat.reduceAdd, qS, pE] at mo0_1)
  have ml_1 := m_push_l hm_1 ml_0
  have ml_1 : _ = 1 := ml_1
  clear hm_1
  refine al_stm (st_box (up_m rfl s1_0) rfl ml_1) trivial rfl (fun m_2 hm_2 => ?_)
  have mo1_2 := m_push hm_2 ml_1
  (try simp only [packA_t, packA_f, iE, bE, setAt, cellsA, Value.cells, map_vc, map_vn, Nat.reduceAdd, qS, pE] at mo1_2)
  have mo0_2 := m_push_o hm_2 mo0_1
  have ml_2 := m_push_l hm_2 ml_1
  have ml_2 : _ = 2 := ml_2
  clear hm_2 mo0_1
  refine al_ro' (ro_assign ev_c) trivial rfl ?_
  refine al_end (fun e_3 he_3 => ?_)
  have s2_3 := ef 2 he_3 (u2 rfl up_h)
  have s3_3 := ef 3 he_3 (up_m rfl up_h)
  clear he_3 s0_0 s1_0
  refine then_n ?_
  refine aw_seq ?_
  refine aw_text (by kernel_rfl) ?_
  refine al_ro' (ro_fld_ptr k5_fl118_2 rfl s2_3) trivial rfl ?_
  refine al_ro' (ro_eq (ro_ld_ptr k5_ty3 rfl mo0_2 up_h (by first | exact Nat.le_of_ble_eq_true rfl | omega | (simp only [lnS] <;> omega) | (simp <;> omega))) (by first | (simp only [packA_t, packA_f, iE, bE, setAt, cellsA, Value.cells, map_vc, map_vn, Nat.reduceAdd, qS, pE] <;> rfl) | rfl)) trivial rfl ?_
  refine al_ro' (ro_fld_ptr k5_fl118_2 rfl (u2 rfl s3_3)) trivial rfl ?_
  refine al_ro' (ro_eq (ro_ld_ptr k5_ty3 rfl mo1_2 up_h (by first | exact Nat.le_of_ble_eq_true rfl | omega | (simp only [lnS] <;> omega) | (simp <;> omega))) (by first | (simp only [packA_t, packA_f, iE, bE, setAt, cellsA, Value.cells, map_vc, map_vn, Nat.reduceAdd, qS, pE] <;> rfl) | rfl)) trivial rfl ?_
  first | (refine al_ro' (ro_sub' (u2 rfl up_h) up_h ?_) trivial rfl ?_; · (unfold In64; omega)) | refine al_ro' (ro_sub (u2 rfl up_h) up_h) trivial rfl ?_
  refine al_ro' (ro_assign up_h) trivial rfl ?_
  refine al_end (fun e_4 he_4 => ?_)
  have s4_4 := ef 4 he_4 up_h
  clear he_4 s2_3 s3_3
  refine then_n ?_
  refine aw_ret ?_
  refine ret1 (.inr rfl) (by kernel_rfl) (resV_tmp s4_4) (.ro _ rfl) ?_
  clear s4_4 mo1_2 mo0_2 ml_2
  rfl
/-- The piece with the least limit, the first one of those. -/
def minP (ps : List Piece) : Nat → Piece
  | 0 => ps.getD 0 default
  | n + 1 => if (ps.getD (n + 1) default).lim - (minP ps n).lim < 0 then ps.getD (n + 1) default else minP ps n
theorem minP_mem {ps : List Piece} (h : 0 < ps.length) : ∀ n : Nat, n < ps.length → minP ps n ∈ ps
  | 0, _ => by simp [minP, List.getD_eq_getElem?_getD, h]
  | n + 1, hn => by
    simp only [minP]
    split
    · simp [List.getD_eq_getElem?_getD, hn]
    · exact minP_mem h n (by omega)
set_option maxRecDepth 100000 in
set_option maxHeartbeats 1000000 in
theorem minFunc_ok (ps : List Piece) (hok : Ok ps) (h0 : 0 < ps.length) (hp : ps.length ≤ 1000) : FnOk Try.prog 81 [.row 4 (ps.map pE), .v (.func (.func 82) #[] #[])] (fun r => r = .agg (pE (minP ps (ps.length - 1)))) := by
  refine fnOk_of (fn := Try.f81) 33 (by kernel_rfl) rfl (by kernel_rfl) (Nat.le_of_ble_eq_true rfl) ?_
  intro e_0 m_0 hA hm_0
  have s0_0 : evA e_0 (.tmp 0) = _ := hA 0 _ rfl
  have s1_0 : evA e_0 (.tmp 1) = _ := hA 1 _ rfl
  have ml_0 : m_0.length = 0 := by rw [hm_0]; rfl
  clear hA hm_0
  refine aw_seq ?_
  refine aw_text (by kernel_rfl) ?_
  refine al_stm (st_alloc k5_az118 rfl ml_0) trivial rfl (fun m_1 hm_1 => ?_)
  have mo0_1 := m_push hm_1 ml_0
  (try simp only [packA_t, packA_f, iE, bE, setAt, cellsA, Value.cells, map_vc, map_vn, Nat.reduceAdd, qS, pE] at mo0_1)
  have ml_1 := m_push_l hm_1 ml_0
  have ml_1 : _ = 1 := ml_1
  clear hm_1
  refine al_end (fun e_2 he_2 => ?_)
  have s0_2 := ef 0 he_2 (up_m rfl s0_0)
  have s1_2 := ef 1 he_2 (up_m rfl s1_0)
  have s4_2 := ef 4 he_2 up_h
  clear he_2 s0_0 s1_0
  refine then_n ?_
  refine aw_seq ?_
  refine aw_seq ?_
  refine aw_text (by kernel_rfl) ?_
  refine al_ro' (ro_move s0_2) trivial rfl ?_
  refine al_ro' (ro_eq (ro_len_row up_h rfl k5_sl49.1) (by first | (simp only [lnS] <;> rfl) | rfl)) trivial rfl ?_
  refine al_ro' (ro_lss up_h ev_c) trivial rfl ?_
  refine al_end (fun e_3 he_3 => ?_)
  have s0_3 := ef 0 he_3 (up_m rfl (u2 rfl s0_2))
  have s1_3 := ef 1 he_3 (up_m rfl (u2 rfl s1_2))
  have s4_3 := ef 4 he_3 (up_m rfl (u2 rfl s4_2))
  have s9_3 := ef 9 he_3 up_h
  clear he_3 s0_2 s1_2 s4_2
  refine then_n ?_
  refine aw_case s9_3 (fun hq_4 => ?_) (fun hq_4 => ?_)
  · (first | replace hq_4 := bnt hq_4 | replace hq_4 := bnf hq_4 | replace hq_4 := bt hq_4 | replace hq_4 := bf hq_4 | replace hq_4 := bt' hq_4 | replace hq_4 := bf' hq_4 | skip)
    first
    | (cases hq_4; done) | (exfalso; omega)
    | (
       refine aw_text (by kernel_rfl) ?_
       fail "STOPPED operation makeInterface")
  · (first | replace hq_4 := bnt hq_4 | replace hq_4 := bnf hq_4 | replace hq_4 := bt hq_4 | replace hq_4 := bf hq_4 | replace hq_4 := bt' hq_4 | replace hq_4 := bf' hq_4 | skip)
    first
    | (cases hq_4; done) | (exfalso; omega)
    | (
       refine aw_skip ?_
       refine then_n ?_
       refine aw_seq ?_
       refine aw_text (by kernel_rfl) ?_
       refine al_ro' (ro_move s0_3) trivial rfl ?_
       refine al_ro' (ro_eq (ro_ix k5_sl49 up_h ev_c (by first | decide | omega | (simp <;> omega)) (by first | (refine idx_map ?_; first | omega | (simp only [lnS]; omega)) | (refine idx_mapI ?_; first | omega | (simp only [lnS]; omega)) | (refine idx_mapN ?_; first | omega | (simp only [lnS]; omega)) | rfl)) (by first | (simp only [packA_t, packA_f, iE, bE, setAt, cellsA, Value.cells, map_vc, map_vn, Nat.reduceAdd, qS, pE] <;> rfl) | rfl)) trivial rfl ?_
       refine al_ro' (ro_eq (ro_ld_ref k5_ty118 rfl up_h (by first | exact Nat.le_of_ble_eq_true rfl | omega | (simp only [lnS] <;> omega) | (simp <;> omega))) (by first | (simp only [packA_t, packA_f, iE, bE, setAt, cellsA, Value.cells, map_vc, map_vn, Nat.reduceAdd, qS, pE] <;> rfl) | rfl)) trivial rfl ?_
       refine al_stm (st_alloc k5_az118 rfl ml_1) trivial rfl (fun m_5 hm_5 => ?_)
       have mo1_5 := m_push hm_5 ml_1
       (try simp only [packA_t, packA_f, iE, bE, setAt, cellsA, Value.cells, map_vc, map_vn, Nat.reduceAdd, qS, pE] at mo1_5)
       have mo0_5 := m_push_o hm_5 mo0_1
       have ml_5 := m_push_l hm_5 ml_1
       have ml_5 : _ = 2 := ml_5
       clear hm_5 mo0_1
       refine al_stm (st_store up_h (up_m rfl up_h) rfl rfl mo1_5 k5_sz118 rfl (by first | exact Nat.le_of_ble_eq_true rfl | omega | (simp only [lnS] <;> omega) | (simp <;> omega))) trivial rfl (fun m_6 hm_6 => ?_)
       have mo1_6 := m_set hm_6 mo1_5
       (try simp only [packA_t, packA_f, iE, bE, setAt, cellsA, Value.cells, map_vc, map_vn, Nat.reduceAdd, qS, pE] at mo1_6)
       have mo0_6 := m_set_o hm_6 mo0_5 (by decide)
       have ml_6 := m_set_l hm_6 ml_5
       clear hm_6 mo1_5 mo0_5
       refine al_end (fun e_7 he_7 => ?_)
       have s0_7 := ef 0 he_7 (up_n (u4 rfl s0_3))
       have s1_7 := ef 1 he_7 (up_n (u4 rfl s1_3))
       have s4_7 := ef 4 he_7 (up_n (u4 rfl s4_3))
       have s5_7 := ef 5 he_7 (up_n up_h)
       clear he_7 s0_3 s1_3 s4_3 s9_3
       refine then_n ?_
       refine aw_seq ?_
       refine aw_seq ?_
       refine aw_text (by kernel_rfl) ?_
       refine al_ro' (ro_assign ev_c) trivial rfl ?_
       refine al_end (fun e_8 he_8 => ?_)
       have s0_8 := ef 0 he_8 (up_m rfl s0_7)
       have s1_8 := ef 1 he_8 (up_m rfl s1_7)
       have s4_8 := ef 4 he_8 (up_m rfl s4_7)
       have s5_8 := ef 5 he_8 (up_m rfl s5_7)
       have s6_8 := ef 6 he_8 up_h
       clear he_8 s0_7 s1_7 s4_7 s5_7
       refine then_n ?_
       refine aw_block ?_
       refine aw_loop (S := (Int × Piece)) (fun s e mem => match s with | ⟨i, p⟩ => (evA e (.tmp 6) = .v (.int .i64 i)) ∧ (evA e (.tmp 0) = evA e_8 (.tmp 0)) ∧ (evA e (.tmp 1) = evA e_8 (.tmp 1)) ∧ (evA e (.tmp 4) = evA e_8 (.tmp 4)) ∧ (evA e (.tmp 5) = evA e_8 (.tmp 5)) ∧ (mem[1]? = some (.box 118 [.v (.int .i64 p.len), .v (.int .i64 p.grad), .v (.int .i64 p.lim), .v (.bool p.leave)])) ∧ (mem[0]? = m_6[0]?) ∧ (mem.length = 2) ∧ ((1 ≤ i ∧ i ≤ ps.length ∧ p = minP ps (i.toNat - 1)))) (fun s => match s with | ⟨i, p⟩ => (ps.length - i).toNat) ⟨_, _⟩ ⟨s6_8, rfl, rfl, rfl, rfl, mo1_6, rfl, ml_6, ?_⟩ ?_
       · exact ⟨by omega, by omega, rfl⟩
       · rintro ⟨i, p⟩ e_9 m_9 ⟨s6_9, k0_9, k1_9, k4_9, k5_9, mo1_9, mk0_9, ml_9, hinv⟩
         have s0_9 := k0_9.trans s0_8
         have s1_9 := k1_9.trans s1_8
         have s4_9 := k4_9.trans s4_8
         have s5_9 := k5_9.trans s5_8
         have mo0_9 := mk0_9.trans mo0_6
         (have hpl : 0 ≤ p.lim ∧ p.lim ≤ 20000000000 := (by have hm := minP_mem h0 (i.toNat - 1) (by omega); rw [← hinv.2.2] at hm; obtain ⟨n, hn, he⟩ := List.getElem_of_mem hm; have := (hok.at n).2.2; rwa [List.getD_eq_getElem?_getD, List.getElem?_eq_getElem hn, Option.getD_some, he] at this); have hin := hinv.2.1; have hin0 := hinv.1)
         refine aw_seq ?_
         refine aw_seq ?_
         refine aw_text (by kernel_rfl) ?_
         refine al_ro' (ro_move s6_9) trivial rfl ?_
         refine al_ro' (ro_move (up_m rfl s0_9)) trivial rfl ?_
         refine al_ro' (ro_eq (ro_len_row up_h rfl k5_sl49.1) (by first | (simp only [lnS] <;> rfl) | rfl)) trivial rfl ?_
         refine al_ro' (ro_lss (u2 rfl up_h) up_h) trivial rfl ?_
         refine al_end (fun e_10 he_10 => ?_)
         have s0_10 := ef 0 he_10 (u4 rfl s0_9)
         have s1_10 := ef 1 he_10 (u4 rfl s1_9)
         have s4_10 := ef 4 he_10 (u4 rfl s4_9)
         have s5_10 := ef 5 he_10 (u4 rfl s5_9)
         have s6_10 := ef 6 he_10 (u4 rfl s6_9)
         have s17_10 := ef 17 he_10 up_h
         clear he_10 s0_9 s1_9 s4_9 s5_9 s6_9
         refine then_n ?_
         refine aw_case s17_10 (fun hq_11 => ?_) (fun hq_11 => ?_)
         · (first | replace hq_11 := bnt hq_11 | replace hq_11 := bnf hq_11 | replace hq_11 := bt hq_11 | replace hq_11 := bf hq_11 | replace hq_11 := bt' hq_11 | replace hq_11 := bf' hq_11 | skip)
           first
           | (cases hq_11; done) | (exfalso; omega)
           | (
              refine aw_skip ?_
              refine then_n ?_
              refine aw_seq ?_
              refine aw_block ?_
              refine aw_seq ?_
              refine aw_draw 8 (by kernel_rfl) (by kernel_rfl) (by kernel_rfl) (by kernel_rfl) ?_
              refine ds_ro' (ro_move s1_10) trivial rfl ?_
              refine ds_ro' (ro_move (up_m rfl s0_10)) trivial rfl ?_
              refine ds_ro' (ro_move (u2 rfl s6_10)) trivial rfl ?_
              refine ds_ro' (ro_eq (ro_ix k5_sl49 (up_m rfl up_h) up_h (by first | decide | omega | (simp <;> omega)) (by first | (refine idx_map ?_; first | omega | (simp only [lnS]; omega)) | (refine idx_mapI ?_; first | omega | (simp only [lnS]; omega)) | (refine idx_mapN ?_; first | omega | (simp only [lnS]; omega)) | rfl)) (by first | (simp only [packA_t, packA_f, iE, bE, setAt, cellsA, Value.cells, map_vc, map_vn, Nat.reduceAdd, qS, pE] <;> rfl) | rfl)) trivial rfl ?_
              refine ds_ro' (ro_eq (ro_ld_ref k5_ty118 rfl up_h (by first | exact Nat.le_of_ble_eq_true rfl | omega | (simp only [lnS] <;> omega) | (simp <;> omega))) (by first | (simp only [packA_t, packA_f, iE, bE, setAt, cellsA, Value.cells, map_vc, map_vn, Nat.reduceAdd, qS, pE] <;> rfl) | rfl)) trivial rfl ?_
              refine ds_ro' (ro_eq (ro_ld_ptr k5_ty118 rfl mo1_9 (up_m rfl (u4 rfl s5_10)) (by first | exact Nat.le_of_ble_eq_true rfl | omega | (simp only [lnS] <;> omega) | (simp <;> omega))) (by first | (simp only [packA_t, packA_f, iE, bE, setAt, cellsA, Value.cells, map_vc, map_vn, Nat.reduceAdd, qS, pE] <;> rfl) | rfl)) trivial rfl ?_
              refine ds_ro' (ro_callf (up_m rfl (u4 rfl up_h)) (evL_cons (up_m rfl up_h) (evL_cons up_h evL_nil)) rfl (limits1_ok _ _ (hok.at _).2.2 (by first | assumption | exact (hok.at _).2.2)) k5_hcf82) trivial rfl ?_
              refine ds_ro' (ro_lss up_h ev_c) trivial rfl ?_
              refine ds_nil ?_
              refine al_end (fun e_12 he_12 => ?_)
              have s0_12 := ef 0 he_12 (u8 rfl s0_10)
              have s1_12 := ef 1 he_12 (u8 rfl s1_10)
              have s4_12 := ef 4 he_12 (u8 rfl s4_10)
              have s5_12 := ef 5 he_12 (u8 rfl s5_10)
              have s6_12 := ef 6 he_12 (u8 rfl s6_10)
              have s27_12 := ef 27 he_12 up_h
              clear he_12 s0_10 s17_10 s1_10 s4_10 s5_10 s6_10
              refine then_n ?_
              refine aw_case s27_12 (fun hq_13 => ?_) (fun hq_13 => ?_)
              · (first | replace hq_13 := bnt hq_13 | replace hq_13 := bnf hq_13 | replace hq_13 := bt hq_13 | replace hq_13 := bf hq_13 | replace hq_13 := bt' hq_13 | replace hq_13 := bf' hq_13 | skip)
                first
                | (cases hq_13; done) | (exfalso; omega)
                | (
                   refine aw_text (by kernel_rfl) ?_
                   refine al_ro' (ro_move s0_12) trivial rfl ?_
                   refine al_ro' (ro_move (up_m rfl s6_12)) trivial rfl ?_
                   refine al_ro' (ro_eq (ro_ix k5_sl49 (up_m rfl up_h) up_h (by first | decide | omega | (simp <;> omega)) (by first | (refine idx_map ?_; first | omega | (simp only [lnS]; omega)) | (refine idx_mapI ?_; first | omega | (simp only [lnS]; omega)) | (refine idx_mapN ?_; first | omega | (simp only [lnS]; omega)) | rfl)) (by first | (simp only [packA_t, packA_f, iE, bE, setAt, cellsA, Value.cells, map_vc, map_vn, Nat.reduceAdd, qS, pE] <;> rfl) | rfl)) trivial rfl ?_
                   refine al_ro' (ro_eq (ro_ld_ref k5_ty118 rfl up_h (by first | exact Nat.le_of_ble_eq_true rfl | omega | (simp only [lnS] <;> omega) | (simp <;> omega))) (by first | (simp only [packA_t, packA_f, iE, bE, setAt, cellsA, Value.cells, map_vc, map_vn, Nat.reduceAdd, qS, pE] <;> rfl) | rfl)) trivial rfl ?_
                   refine al_stm (st_store (u4 rfl s5_12) up_h rfl rfl mo1_9 k5_sz118 rfl (by first | exact Nat.le_of_ble_eq_true rfl | omega | (simp only [lnS] <;> omega) | (simp <;> omega))) trivial rfl (fun m_14 hm_14 => ?_)
                   have mo1_14 := m_set hm_14 mo1_9
                   (try simp only [packA_t, packA_f, iE, bE, setAt, cellsA, Value.cells, map_vc, map_vn, Nat.reduceAdd, qS, pE] at mo1_14)
                   have mo0_14 := m_set_o hm_14 mo0_9 (by decide)
                   have ml_14 := m_set_l hm_14 ml_9
                   clear hm_14 mo1_9 mo0_9
                   refine al_end (fun e_15 he_15 => ?_)
                   have s0_15 := ef 0 he_15 (up_n (u4 rfl s0_12))
                   have s1_15 := ef 1 he_15 (up_n (u4 rfl s1_12))
                   have s4_15 := ef 4 he_15 (up_n (u4 rfl s4_12))
                   have s5_15 := ef 5 he_15 (up_n (u4 rfl s5_12))
                   have s6_15 := ef 6 he_15 (up_n (u4 rfl s6_12))
                   clear he_15 s0_12 s1_12 s27_12 s4_12 s5_12 s6_12
                   refine block_n ?_
                   refine then_n ?_
                   refine aw_text (by kernel_rfl) ?_
                   refine al_ro' (ro_move s6_15) trivial rfl ?_
                   first | (refine al_ro' (ro_add' up_h ev_c ?_) trivial rfl ?_; · (unfold In64; omega)) | refine al_ro' (ro_add up_h ev_c) trivial rfl ?_
                   refine al_ro' (ro_assign up_h) trivial rfl ?_
                   refine al_end (fun e_16 he_16 => ?_)
                   have s0_16 := ef 0 he_16 (up_m rfl (u2 rfl s0_15))
                   have s1_16 := ef 1 he_16 (up_m rfl (u2 rfl s1_15))
                   have s4_16 := ef 4 he_16 (up_m rfl (u2 rfl s4_15))
                   have s5_16 := ef 5 he_16 (up_m rfl (u2 rfl s5_15))
                   have s6_16 := ef 6 he_16 up_h
                   clear he_16 s0_15 s1_15 s4_15 s5_15 s6_15
                   refine then_n ?_
                   refine ⟨⟨_, _⟩, ⟨s6_16, (s0_16.trans s0_8.symm), (s1_16.trans s1_8.symm), (s4_16.trans s4_8.symm), (s5_16.trans s5_8.symm), mo1_14, (mo0_14.trans mo0_6.symm), ml_14, ?_⟩, ?_⟩
                   · (obtain ⟨h1, h2, h3⟩ := hinv; refine ⟨by omega, by omega, ?_⟩; have e1 : (i + 1).toNat - 1 = (i.toNat - 1) + 1 := (by omega); have e2 : i.toNat - 1 + 1 = i.toNat := (by omega); rw [e1]; simp only [minP]; rw [e2, ← h3]; first | rw [if_pos (by assumption)] | rw [if_neg (by assumption)])
                   · ((try dsimp only); omega))
              · (first | replace hq_13 := bnt hq_13 | replace hq_13 := bnf hq_13 | replace hq_13 := bt hq_13 | replace hq_13 := bf hq_13 | replace hq_13 := bt' hq_13 | replace hq_13 := bf' hq_13 | skip)
                first
                | (cases hq_13; done) | (exfalso; omega)
                | (
                   refine aw_skip ?_
                   refine block_n ?_
                   refine then_n ?_
                   refine aw_text (by kernel_rfl) ?_
                   refine al_ro' (ro_move s6_12) trivial rfl ?_
                   first | (refine al_ro' (ro_add' up_h ev_c ?_) trivial rfl ?_; · (unfold In64; omega)) | refine al_ro' (ro_add up_h ev_c) trivial rfl ?_
                   refine al_ro' (ro_assign up_h) trivial rfl ?_
                   refine al_end (fun e_17 he_17 => ?_)
                   have s0_17 := ef 0 he_17 (up_m rfl (u2 rfl s0_12))
                   have s1_17 := ef 1 he_17 (up_m rfl (u2 rfl s1_12))
                   have s4_17 := ef 4 he_17 (up_m rfl (u2 rfl s4_12))
                   have s5_17 := ef 5 he_17 (up_m rfl (u2 rfl s5_12))
                   have s6_17 := ef 6 he_17 up_h
                   clear he_17 s0_12 s1_12 s27_12 s4_12 s5_12 s6_12
                   refine then_n ?_
                   refine ⟨⟨_, _⟩, ⟨s6_17, (s0_17.trans s0_8.symm), (s1_17.trans s1_8.symm), (s4_17.trans s4_8.symm), (s5_17.trans s5_8.symm), mo1_9, (mo0_9.trans mo0_6.symm), ml_9, ?_⟩, ?_⟩
                   · (obtain ⟨h1, h2, h3⟩ := hinv; refine ⟨by omega, by omega, ?_⟩; have e1 : (i + 1).toNat - 1 = (i.toNat - 1) + 1 := (by omega); have e2 : i.toNat - 1 + 1 = i.toNat := (by omega); rw [e1]; simp only [minP]; rw [e2, ← h3]; first | rw [if_pos (by assumption)] | rw [if_neg (by assumption)])
                   · ((try dsimp only); omega)))
         · (first | replace hq_11 := bnt hq_11 | replace hq_11 := bnf hq_11 | replace hq_11 := bt hq_11 | replace hq_11 := bf hq_11 | replace hq_11 := bt' hq_11 | replace hq_11 := bf' hq_11 | skip)
           first
           | (cases hq_11; done) | (exfalso; omega)
           | (
              refine aw_exit ?_
              refine then_x ?_
              refine then_x ?_
              refine block_hit ?_
              refine then_n ?_
              refine aw_seq ?_
              refine aw_text (by kernel_rfl) ?_
              refine al_ro' (ro_eq (ro_ld_ptr k5_ty118 rfl mo1_9 s5_10 (by first | exact Nat.le_of_ble_eq_true rfl | omega | (simp only [lnS] <;> omega) | (simp <;> omega))) (by first | (simp only [packA_t, packA_f, iE, bE, setAt, cellsA, Value.cells, map_vc, map_vn, Nat.reduceAdd, qS, pE] <;> rfl) | rfl)) trivial rfl ?_
              refine al_stm (st_store (up_m rfl s4_10) up_h rfl rfl mo0_9 k5_sz118 rfl (by first | exact Nat.le_of_ble_eq_true rfl | omega | (simp only [lnS] <;> omega) | (simp <;> omega))) trivial rfl (fun m_18 hm_18 => ?_)
              have mo0_18 := m_set hm_18 mo0_9
              (try simp only [packA_t, packA_f, iE, bE, setAt, cellsA, Value.cells, map_vc, map_vn, Nat.reduceAdd, qS, pE] at mo0_18)
              have mo1_18 := m_set_o hm_18 mo1_9 (by decide)
              have ml_18 := m_set_l hm_18 ml_9
              clear hm_18 mo1_9 mo0_9
              refine al_end (fun e_19 he_19 => ?_)
              have s4_19 := ef 4 he_19 (up_n (up_m rfl s4_10))
              clear he_19 s0_10 s17_10 s1_10 s4_10 s5_10 s6_10
              refine then_n ?_
              refine aw_ret ?_
              refine ret1 (.inr rfl) (by kernel_rfl) (resV_cell s4_19 mo0_18 k5_ty118 (by first | exact Nat.le_of_ble_eq_true rfl | omega | (simp only [lnS] <;> omega) | (simp <;> omega)) (by simp)) (vw_r (.ro _ rfl)) ?_
              clear s4_19 mo0_18 mo1_18 ml_18
              (obtain ⟨h1, h2, h3⟩ := hinv; rw [h3, show i.toNat - 1 = ps.length - 1 by omega]; rfl)))
end Go.Proofs.Ytgiiedpambimoaa
