/- The law of chapter 5 on curves. No conditions on a program. -/
import Derived.Test.YtelgkjekpcfffaaK30
namespace Go.Proofs.Ytelgkjekpcfffaa
open Go Go.RowKit Go.Proofs
set_option linter.unusedSimpArgs false
set_option linter.unusedVariables false
theorem k14_fl26_0 : FldIs Try.prog 26 0 0 false 1 := by unfold FldIs; kernel_rfl
theorem k14_hcf39 : ∀ args w, (callFunc 39 args).run Try.prog w = .ok (.enter 39 args) w := fun _ _ => by kernel_rfl
theorem k14_hcf70 : ∀ args w, (callFunc 70 args).run Try.prog w = .ok (.enter 70 args) w := fun _ _ => by kernel_rfl
theorem k14_sl30 : SlIs Try.prog 30 3 1 8 (.int .i64 0) := ⟨by kernel_rfl, by kernel_rfl, by kernel_rfl⟩
theorem k14_sz3 : (Try.prog.info? 3).map (·.size) = some 1 := by kernel_rfl
theorem k14_ty24 : TyIs Try.prog 24 true 2 := ⟨by kernel_rfl, by kernel_rfl⟩
theorem k14_ty3 : TyIs Try.prog 3 false 1 := ⟨by kernel_rfl, by kernel_rfl⟩

set_option maxRecDepth 100000 in
set_option maxHeartbeats 4000000 in
theorem rCurveOf_ok (nm : ByteArray) (ps : List Piece) (hok : trackR ps) (b d v : Int) (hb : sysR b d v) (stop : Int) (h0 : 0 ≤ stop) (h1 : stop < ps.length) :
    FnOk Try.prog 30 [trA nm ps, syA b d v, iA stop] (fun q => q = .row 1 ((bwL ps b 0 (stop + 1).toNat).map iE)) := by
  obtain ⟨q1, q2, q3⟩ := hok
  obtain ⟨r1, r2, r3, r4⟩ := hb
  refine fnOk_of (fn := Try.f30) 53 (by kernel_rfl) rfl (by kernel_rfl) (Nat.le_of_ble_eq_true rfl) ?_
  intro e_0 m_0 hA hm_0
  have s0_0 : evA e_0 (.tmp 0) = _ := hA 0 _ rfl
  have s1_0 : evA e_0 (.tmp 1) = _ := hA 1 _ rfl
  have s2_0 : evA e_0 (.tmp 2) = _ := hA 2 _ rfl
  have ml_0 : m_0.length = 0 := by rw [hm_0]; rfl
  clear hA hm_0
  have hlw := liW_len ps (ps.length + 1)
  refine aw_seq ?_
  refine aw_text (by kernel_rfl) ?_
  refine al_stm (st_box s0_0 rfl ml_0) trivial rfl (fun m_1 hm_1 => ?_)
  have mo0_1 := m_push hm_1 ml_0
  (try simp only [packA_t, packA_f, iE, bE, setAt, cellsA, Value.cells, map_vc, map_vn, Nat.reduceAdd, qS, rep_iE, set_iE] at mo0_1)
  have ml_1 := m_push_l hm_1 ml_0
  have ml_1 : _ = 1 := ml_1
  clear hm_1
  refine al_stm (st_box (up_m rfl s1_0) rfl ml_1) trivial rfl (fun m_2 hm_2 => ?_)
  have mo1_2 := m_push hm_2 ml_1
  (try simp only [packA_t, packA_f, iE, bE, setAt, cellsA, Value.cells, map_vc, map_vn, Nat.reduceAdd, qS, rep_iE, set_iE] at mo1_2)
  have mo0_2 := m_push_o hm_2 mo0_1
  have ml_2 := m_push_l hm_2 ml_1
  have ml_2 : _ = 2 := ml_2
  clear hm_2 mo0_1
  refine al_ro' (ro_assign ev_c) trivial rfl ?_
  refine al_end (fun e_3 he_3 => ?_)
  have s2_3 := ef 2 he_3 (up_m rfl (u2 rfl s2_0))
  have s3_3 := ef 3 he_3 (u2 rfl up_h)
  have s4_3 := ef 4 he_3 (up_m rfl up_h)
  clear he_3 s0_0 s1_0 s2_0
  refine then_n ?_
  refine aw_seq ?_
  refine aw_text (by kernel_rfl) ?_
  refine al_ro' (ro_move s2_3) trivial rfl ?_
  first | (refine al_ro' (ro_add' up_h ev_c ?_) trivial rfl ?_; · (unfold In64; omega)) | refine al_ro' (ro_add up_h ev_c) trivial rfl ?_
  refine al_stm (st_mk k14_sl30 rfl rfl ml_2 up_h up_h (by first | decide | omega | (simp <;> omega)) (by first | omega | (simp only [lnS] <;> omega) | (simp <;> omega))) trivial rfl (fun m_4 hm_4 => ?_)
  have mo2_4 := m_push hm_4 ml_2
  (try simp only [packA_t, packA_f, iE, bE, setAt, cellsA, Value.cells, map_vc, map_vn, Nat.reduceAdd, qS, rep_iE, set_iE] at mo2_4)
  have mo1_4 := m_push_o hm_4 mo1_2
  have mo0_4 := m_push_o hm_4 mo0_2
  have ml_4 := m_push_l hm_4 ml_2
  have ml_4 : _ = 3 := ml_4
  clear hm_4 mo1_2 mo0_2
  refine al_ro' (ro_assign up_h) trivial rfl ?_
  refine al_end (fun e_5 he_5 => ?_)
  have s2_5 := ef 2 he_5 (u4 rfl s2_3)
  have s3_5 := ef 3 he_5 (u4 rfl s3_3)
  have s4_5 := ef 4 he_5 (u4 rfl s4_3)
  have s7_5 := ef 7 he_5 up_h
  clear he_5 s2_3 s3_3 s4_3
  refine then_n ?_
  refine aw_seq ?_
  refine aw_text (by kernel_rfl) ?_
  refine al_ro' (ro_eq (ro_ld_ptr k14_ty24 rfl mo0_4 s3_5 (by first | exact Nat.le_of_ble_eq_true rfl | omega | (simp only [lnS] <;> omega) | (simp <;> omega))) (by first | (simp only [packA_t, packA_f, iE, bE, setAt, cellsA, Value.cells, map_vc, map_vn, Nat.reduceAdd, qS, rep_iE, set_iE] <;> rfl) | rfl)) trivial rfl ?_
  refine al_ro' (ro_call (evL_cons up_h evL_nil) rfl (rLimitsAt_ok nm ps q1 (by omega) (by omega)) k14_hcf39) trivial rfl ?_
  refine al_ro' (ro_assign up_h) trivial rfl ?_
  refine al_end (fun e_6 he_6 => ?_)
  have s2_6 := ef 2 he_6 (up_m rfl (u2 rfl s2_5))
  have s3_6 := ef 3 he_6 (up_m rfl (u2 rfl s3_5))
  have s4_6 := ef 4 he_6 (up_m rfl (u2 rfl s4_5))
  have s7_6 := ef 7 he_6 (up_m rfl (u2 rfl s7_5))
  have s8_6 := ef 8 he_6 up_h
  clear he_6 s2_5 s3_5 s4_5 s7_5
  refine then_n ?_
  refine aw_seq ?_
  refine aw_seq ?_
  refine aw_text (by kernel_rfl) ?_
  refine al_ro' (ro_move s2_6) trivial rfl ?_
  refine al_ro' (ro_assign up_h) trivial rfl ?_
  refine al_end (fun e_7 he_7 => ?_)
  have s3_7 := ef 3 he_7 (u2 rfl s3_6)
  have s4_7 := ef 4 he_7 (u2 rfl s4_6)
  have s7_7 := ef 7 he_7 (u2 rfl s7_6)
  have s8_7 := ef 8 he_7 (u2 rfl s8_6)
  have s9_7 := ef 9 he_7 up_h
  clear he_7 s2_6 s3_6 s4_6 s7_6 s8_6
  refine then_n ?_
  refine aw_block ?_
  refine aw_loop (S := (Int × List Int)) (fun s e mem => match s with | ⟨i, xs⟩ => (evA e (.tmp 9) = .v (.int .i64 i)) ∧ (evA e (.tmp 3) = evA e_7 (.tmp 3)) ∧ (evA e (.tmp 4) = evA e_7 (.tmp 4)) ∧ (evA e (.tmp 7) = evA e_7 (.tmp 7)) ∧ (evA e (.tmp 8) = evA e_7 (.tmp 8)) ∧ (mem[2]? = some (.row 3 1 (xs.map iE))) ∧ (mem[1]? = m_4[1]?) ∧ (mem[0]? = m_4[0]?) ∧ (mem.length = 3) ∧ ((-1 ≤ i ∧ i < stop + 1 ∧ xs.length = (stop + 1).toNat + 1 ∧ ∀ j : Nat, i < j → j ≤ (stop + 1).toNat → xs.getD j default = bwD ps b 0 (stop + 1).toNat ((stop + 1).toNat - j)))) (fun s => match s with | ⟨i, xs⟩ => (i + 1).toNat) ⟨_, _⟩ ⟨s9_7, rfl, rfl, rfl, rfl, mo2_4, rfl, rfl, ml_4, ?_⟩ ?_
  · (refine ⟨by omega, by omega, by simp; omega, fun j hj hj2 => ?_⟩; have hjp : j = (stop + 1).toNat := (by omega); rw [hjp, Nat.sub_self]; simp [bwD, List.getD_eq_getElem?_getD, List.getElem?_replicate]; split <;> rfl)
  · rintro ⟨i, xs⟩ e_8 m_8 ⟨s9_8, k3_8, k4_8, k7_8, k8_8, mo2_8, mk1_8, mk0_8, ml_8, hinv⟩
    have s3_8 := k3_8.trans s3_7
    have s4_8 := k4_8.trans s4_7
    have s7_8 := k7_8.trans s7_7
    have s8_8 := k8_8.trans s8_7
    have mo1_8 := mk1_8.trans mo1_4
    have mo0_8 := mk0_8.trans mo0_4
    refine aw_seq ?_
    refine aw_seq ?_
    refine aw_text (by kernel_rfl) ?_
    refine al_ro' (ro_move s9_8) trivial rfl ?_
    refine al_ro' (ro_geq up_h ev_c) trivial rfl ?_
    refine al_end (fun e_9 he_9 => ?_)
    have s3_9 := ef 3 he_9 (u2 rfl s3_8)
    have s4_9 := ef 4 he_9 (u2 rfl s4_8)
    have s7_9 := ef 7 he_9 (u2 rfl s7_8)
    have s8_9 := ef 8 he_9 (u2 rfl s8_8)
    have s9_9 := ef 9 he_9 (u2 rfl s9_8)
    have s18_9 := ef 18 he_9 up_h
    clear he_9 s3_8 s4_8 s7_8 s8_8 s9_8
    refine then_n ?_
    refine aw_case s18_9 (fun hq_10 => ?_) (fun hq_10 => ?_)
    · (first | replace hq_10 := bnt hq_10 | replace hq_10 := bnf hq_10 | replace hq_10 := bt hq_10 | replace hq_10 := bf hq_10 | replace hq_10 := bt' hq_10 | replace hq_10 := bf' hq_10 | skip)
      first
      | (cases hq_10; done) | (exfalso; omega)
      | (
         (obtain ⟨p1, p2, p3, p4⟩ := hinv; have hq4 := p4 (i + 1).toNat (by omega) (by omega); have hbd := bwD_bound q1 (b := b) (post := (stop + 1).toNat) (sq := 0) (by omega) ((stop + 1).toNat - (i + 1).toNat); have hlb := limW_bound q1 i.toNat; have hpa := q1.at i.toNat; have hlos := los_bound (dec := b) (p := ps.getD i.toNat default) (by omega) hpa.1 hpa.2.1; have hset : (xs.set i.toNat (-1)).getD (i + 1).toNat default = xs.getD (i + 1).toNat default := getD_sn (by omega); have hse1 : (xs.set i.toNat (-1)).getD i.toNat default = -1 := getD_se (by omega); have hli : (liW ps (ps.length + 1)).getD i.toNat default = limW ps i.toNat := liW_at ps (by omega); have hstep : bwD ps b 0 (stop + 1).toNat ((stop + 1).toNat - i.toNat) = if bwD ps b 0 (stop + 1).toNat ((stop + 1).toNat - (i + 1).toNat) = -1 then -1 else max (-1) (min (limW ps i.toNat) (bwD ps b 0 (stop + 1).toNat ((stop + 1).toNat - (i + 1).toNat) + losW b (ps.getD i.toNat default))) := (by rw [show (stop + 1).toNat - i.toNat = ((stop + 1).toNat - (i + 1).toNat) + 1 by omega]; simp only [bwD]; rw [show (stop + 1).toNat - ((stop + 1).toNat - (i + 1).toNat) - 1 = i.toNat by omega]))
         refine aw_skip ?_
         refine then_n ?_
         refine aw_seq ?_
         refine aw_block ?_
         refine aw_seq ?_
         refine aw_text (by kernel_rfl) ?_
         refine al_ro' (ro_move s7_9) trivial rfl ?_
         refine al_ro' (ro_move (up_m rfl s9_9)) trivial rfl ?_
         refine al_ro' (ro_ix_own k14_sl30 mo2_8 (up_m rfl up_h) up_h (by first | decide | omega | (simp <;> omega)) (by first | omega | (simp only [lnS] <;> omega) | (simp <;> omega))) trivial rfl ?_
         refine al_stm (st_store_el up_h ev_c rfl rfl rfl mo2_8 (Nat.add_zero _).symm (by first | (refine idx_map ?_; first | omega | (simp only [lnS]; omega)) | (refine idx_mapI ?_; first | omega | (simp only [lnS]; omega)) | (refine idx_mapN ?_; first | omega | (simp only [lnS]; omega)) | rfl) k14_sz3 rfl (by first | exact Nat.le_of_ble_eq_true rfl | omega | (simp only [lnS] <;> omega) | (simp <;> omega))) trivial rfl (fun m_11 hm_11 => ?_)
         have mo2_11 := m_set hm_11 mo2_8
         (try simp only [packA_t, packA_f, iE, bE, setAt, cellsA, Value.cells, map_vc, map_vn, Nat.reduceAdd, qS, rep_iE, set_iE] at mo2_11)
         have mo1_11 := m_set_o hm_11 mo1_8 (by decide)
         have mo0_11 := m_set_o hm_11 mo0_8 (by decide)
         have ml_11 := m_set_l hm_11 ml_8
         clear hm_11 mo2_8 mo1_8 mo0_8
         refine al_end (fun e_12 he_12 => ?_)
         have s3_12 := ef 3 he_12 (up_n (up_m rfl (u2 rfl s3_9)))
         have s4_12 := ef 4 he_12 (up_n (up_m rfl (u2 rfl s4_9)))
         have s7_12 := ef 7 he_12 (up_n (up_m rfl (u2 rfl s7_9)))
         have s8_12 := ef 8 he_12 (up_n (up_m rfl (u2 rfl s8_9)))
         have s9_12 := ef 9 he_12 (up_n (up_m rfl (u2 rfl s9_9)))
         clear he_12 s18_9 s3_9 s4_9 s7_9 s8_9 s9_9
         refine then_n ?_
         refine aw_seq ?_
         refine aw_text (by kernel_rfl) ?_
         refine al_ro' (ro_move s7_12) trivial rfl ?_
         refine al_ro' (ro_move (up_m rfl s9_12)) trivial rfl ?_
         first | (refine al_ro' (ro_add' up_h ev_c ?_) trivial rfl ?_; · (unfold In64; omega)) | refine al_ro' (ro_add up_h ev_c) trivial rfl ?_
         refine al_ro' (ro_ix_own k14_sl30 mo2_11 (u2 rfl up_h) up_h (by first | decide | omega | (simp <;> omega)) (by first | omega | (simp only [lnS] <;> omega) | (simp <;> omega))) trivial rfl ?_
         refine al_ro' (ro_eq (ro_ld_el k14_ty3 rfl mo2_11 up_h (by first | exact Nat.le_of_ble_eq_true rfl | omega | (simp only [lnS] <;> omega) | (simp <;> omega)) (by first | (refine idx_map ?_; first | omega | (simp only [lnS]; omega)) | (refine idx_mapI ?_; first | omega | (simp only [lnS]; omega)) | (refine idx_mapN ?_; first | omega | (simp only [lnS]; omega)) | rfl)) (by first | (simp only [packA_t, packA_f, iE, bE, setAt, cellsA, Value.cells, map_vc, map_vn, Nat.reduceAdd, qS, rep_iE, set_iE] <;> rfl) | rfl)) trivial rfl ?_
         refine al_ro' (ro_neq up_h ev_c) trivial rfl ?_
         refine al_end (fun e_13 he_13 => ?_)
         have s3_13 := ef 3 he_13 (u2 rfl (u4 rfl s3_12))
         have s4_13 := ef 4 he_13 (u2 rfl (u4 rfl s4_12))
         have s7_13 := ef 7 he_13 (u2 rfl (u4 rfl s7_12))
         have s8_13 := ef 8 he_13 (u2 rfl (u4 rfl s8_12))
         have s9_13 := ef 9 he_13 (u2 rfl (u4 rfl s9_12))
         have s29_13 := ef 29 he_13 up_h
         clear he_13 s3_12 s4_12 s7_12 s8_12 s9_12
         refine then_n ?_
         refine aw_case s29_13 (fun hq_14 => ?_) (fun hq_14 => ?_)
         · (first | replace hq_14 := bnt hq_14 | replace hq_14 := bnf hq_14 | replace hq_14 := bt hq_14 | replace hq_14 := bf hq_14 | replace hq_14 := bt' hq_14 | replace hq_14 := bf' hq_14 | skip)
           first
           | (cases hq_14; done) | (exfalso; omega)
           | (
              refine aw_seq ?_
              refine aw_draw 17 (by kernel_rfl) (by kernel_rfl) (by kernel_rfl) (by kernel_rfl) ?_
              refine ds_ro' (ro_move s8_13) trivial rfl ?_
              refine ds_ro' (ro_move (up_m rfl s9_13)) trivial rfl ?_
              refine ds_ro' (ro_eq (ro_ix k14_sl30 (up_m rfl up_h) up_h (by first | decide | omega | (simp <;> omega)) (by first | (refine idx_map ?_; first | omega | (simp only [lnS]; omega)) | (refine idx_mapI ?_; first | omega | (simp only [lnS]; omega)) | (refine idx_mapN ?_; first | omega | (simp only [lnS]; omega)) | rfl)) (by first | (simp only [packA_t, packA_f, iE, bE, setAt, cellsA, Value.cells, map_vc, map_vn, Nat.reduceAdd, qS, rep_iE, set_iE] <;> rfl) | rfl)) trivial rfl ?_
              refine ds_ro' (ro_eq (ro_ld_ref k14_ty3 rfl up_h (by first | exact Nat.le_of_ble_eq_true rfl | omega | (simp only [lnS] <;> omega) | (simp <;> omega))) (by first | (simp only [packA_t, packA_f, iE, bE, setAt, cellsA, Value.cells, map_vc, map_vn, Nat.reduceAdd, qS, rep_iE, set_iE] <;> rfl) | rfl)) trivial rfl ?_
              refine ds_ro' (ro_move (u4 rfl s7_13)) trivial rfl ?_
              refine ds_ro' (ro_move (up_m rfl (u4 rfl s9_13))) trivial rfl ?_
              first | (refine ds_ro' (ro_add' up_h ev_c ?_) trivial rfl ?_; · (unfold In64; omega)) | refine ds_ro' (ro_add up_h ev_c) trivial rfl ?_
              refine ds_ro' (ro_ix_own k14_sl30 mo2_11 (u2 rfl up_h) up_h (by first | decide | omega | (simp <;> omega)) (by first | omega | (simp only [lnS] <;> omega) | (simp <;> omega))) trivial rfl ?_
              refine ds_ro' (ro_eq (ro_ld_el k14_ty3 rfl mo2_11 up_h (by first | exact Nat.le_of_ble_eq_true rfl | omega | (simp only [lnS] <;> omega) | (simp <;> omega)) (by first | (refine idx_map ?_; first | omega | (simp only [lnS]; omega)) | (refine idx_mapI ?_; first | omega | (simp only [lnS]; omega)) | (refine idx_mapN ?_; first | omega | (simp only [lnS]; omega)) | rfl)) (by first | (simp only [packA_t, packA_f, iE, bE, setAt, cellsA, Value.cells, map_vc, map_vn, Nat.reduceAdd, qS, rep_iE, set_iE] <;> rfl) | rfl)) trivial rfl ?_
              refine ds_ro' (ro_eq (ro_ld_ptr k14_ty24 rfl mo0_11 (up_m rfl (u8 rfl s3_13)) (by first | exact Nat.le_of_ble_eq_true rfl | omega | (simp only [lnS] <;> omega) | (simp <;> omega))) (by first | (simp only [packA_t, packA_f, iE, bE, setAt, cellsA, Value.cells, map_vc, map_vn, Nat.reduceAdd, qS, rep_iE, set_iE] <;> rfl) | rfl)) trivial rfl ?_
              refine ds_ro' (ro_move (u2 rfl (u8 rfl s9_13))) trivial rfl ?_
              refine ds_ro' (ro_fld_ptr k14_fl26_0 rfl (up_m rfl (u2 rfl (u8 rfl s4_13)))) trivial rfl ?_
              refine ds_ro' (ro_eq (ro_ld_ptr k14_ty3 rfl mo1_11 up_h (by first | exact Nat.le_of_ble_eq_true rfl | omega | (simp only [lnS] <;> omega) | (simp <;> omega))) (by first | (simp only [packA_t, packA_f, iE, bE, setAt, cellsA, Value.cells, map_vc, map_vn, Nat.reduceAdd, qS, rep_iE, set_iE] <;> rfl) | rfl)) trivial rfl ?_
              refine ds_ro' (ro_call (evL_cons (up_m rfl (u2 rfl up_h)) (evL_cons (u2 rfl up_h) (evL_cons up_h evL_nil))) rfl (rloses_ok nm ps q1 i (by omega) (by omega) b (by omega)) k14_hcf70) trivial rfl ?_
              first | (refine ds_ro' (ro_add' (up_m rfl (u4 rfl up_h)) up_h ?_) trivial rfl ?_; · (unfold In64; omega)) | refine ds_ro' (ro_add (up_m rfl (u4 rfl up_h)) up_h) trivial rfl ?_
              refine ds_ro' (ro_min (up_m rfl (u2 rfl (u8 rfl up_h))) up_h) trivial rfl ?_
              refine ds_ro' (ro_assign up_h) trivial rfl ?_
              refine ds_nil ?_
              refine al_end (fun e_15 he_15 => ?_)
              have s3_15 := ef 3 he_15 (up_m rfl (u16 rfl s3_13))
              have s4_15 := ef 4 he_15 (up_m rfl (u16 rfl s4_13))
              have s7_15 := ef 7 he_15 (up_m rfl (u16 rfl s7_13))
              have s8_15 := ef 8 he_15 (up_m rfl (u16 rfl s8_13))
              have s9_15 := ef 9 he_15 (up_m rfl (u16 rfl s9_13))
              have s10_15 := ef 10 he_15 up_h
              clear he_15 s29_13 s3_13 s4_13 s7_13 s8_13 s9_13
              refine then_n ?_
              refine aw_seq ?_
              refine aw_text (by kernel_rfl) ?_
              refine al_ro' (ro_move s10_15) trivial rfl ?_
              refine al_ro' (ro_geq up_h ev_c) trivial rfl ?_
              refine al_end (fun e_16 he_16 => ?_)
              have s3_16 := ef 3 he_16 (u2 rfl s3_15)
              have s4_16 := ef 4 he_16 (u2 rfl s4_15)
              have s7_16 := ef 7 he_16 (u2 rfl s7_15)
              have s8_16 := ef 8 he_16 (u2 rfl s8_15)
              have s9_16 := ef 9 he_16 (u2 rfl s9_15)
              have s10_16 := ef 10 he_16 (u2 rfl s10_15)
              have s47_16 := ef 47 he_16 up_h
              clear he_16 s10_15 s3_15 s4_15 s7_15 s8_15 s9_15
              refine then_n ?_
              refine aw_case s47_16 (fun hq_17 => ?_) (fun hq_17 => ?_)
              · (first | replace hq_17 := bnt hq_17 | replace hq_17 := bnf hq_17 | replace hq_17 := bt hq_17 | replace hq_17 := bf hq_17 | replace hq_17 := bt' hq_17 | replace hq_17 := bf' hq_17 | skip)
                first
                | (cases hq_17; done) | (exfalso; omega)
                | (
                   refine aw_text (by kernel_rfl) ?_
                   refine al_ro' (ro_move s7_16) trivial rfl ?_
                   refine al_ro' (ro_move (up_m rfl s9_16)) trivial rfl ?_
                   refine al_ro' (ro_move (u2 rfl s10_16)) trivial rfl ?_
                   refine al_ro' (ro_ix_own k14_sl30 mo2_11 (u2 rfl up_h) (up_m rfl up_h) (by first | decide | omega | (simp <;> omega)) (by first | omega | (simp only [lnS] <;> omega) | (simp <;> omega))) trivial rfl ?_
                   refine al_stm (st_store_el up_h (up_m rfl up_h) rfl rfl rfl mo2_11 (Nat.add_zero _).symm (by first | (refine idx_map ?_; first | omega | (simp only [lnS]; omega)) | (refine idx_mapI ?_; first | omega | (simp only [lnS]; omega)) | (refine idx_mapN ?_; first | omega | (simp only [lnS]; omega)) | rfl) k14_sz3 rfl (by first | exact Nat.le_of_ble_eq_true rfl | omega | (simp only [lnS] <;> omega) | (simp <;> omega))) trivial rfl (fun m_18 hm_18 => ?_)
                   have mo2_18 := m_set hm_18 mo2_11
                   (try simp only [packA_t, packA_f, iE, bE, setAt, cellsA, Value.cells, map_vc, map_vn, Nat.reduceAdd, qS, rep_iE, set_iE] at mo2_18)
                   have mo1_18 := m_set_o hm_18 mo1_11 (by decide)
                   have mo0_18 := m_set_o hm_18 mo0_11 (by decide)
                   have ml_18 := m_set_l hm_18 ml_11
                   clear hm_18 mo2_11 mo1_11 mo0_11
                   refine al_end (fun e_19 he_19 => ?_)
                   have s3_19 := ef 3 he_19 (up_n (u4 rfl s3_16))
                   have s4_19 := ef 4 he_19 (up_n (u4 rfl s4_16))
                   have s7_19 := ef 7 he_19 (up_n (u4 rfl s7_16))
                   have s8_19 := ef 8 he_19 (up_n (u4 rfl s8_16))
                   have s9_19 := ef 9 he_19 (up_n (u4 rfl s9_16))
                   clear he_19 s10_16 s3_16 s47_16 s4_16 s7_16 s8_16 s9_16
                   refine block_n ?_
                   refine then_n ?_
                   refine aw_text (by kernel_rfl) ?_
                   refine al_ro' (ro_move s9_19) trivial rfl ?_
                   first | (refine al_ro' (ro_sub' up_h ev_c ?_) trivial rfl ?_; · (unfold In64; omega)) | refine al_ro' (ro_sub up_h ev_c) trivial rfl ?_
                   refine al_ro' (ro_assign up_h) trivial rfl ?_
                   refine al_end (fun e_20 he_20 => ?_)
                   have s3_20 := ef 3 he_20 (up_m rfl (u2 rfl s3_19))
                   have s4_20 := ef 4 he_20 (up_m rfl (u2 rfl s4_19))
                   have s7_20 := ef 7 he_20 (up_m rfl (u2 rfl s7_19))
                   have s8_20 := ef 8 he_20 (up_m rfl (u2 rfl s8_19))
                   have s9_20 := ef 9 he_20 up_h
                   clear he_20 s3_19 s4_19 s7_19 s8_19 s9_19
                   refine then_n ?_
                   refine ⟨⟨_, _⟩, ⟨s9_20, (s3_20.trans s3_7.symm), (s4_20.trans s4_7.symm), (s7_20.trans s7_7.symm), (s8_20.trans s8_7.symm), mo2_18, (mo1_18.trans mo1_4.symm), (mo0_18.trans mo0_4.symm), ml_18, ?_⟩, ?_⟩
                   · (refine ⟨by omega, by omega, by simp; omega, fun j hj hj2 => ?_⟩; by_cases hji : j = i.toNat; (rw [hji, hstep]; first | (rw [getD_se (by simp; omega)]; omega) | omega); (rw [getD_sn (by omega)]; first | exact p4 j (by omega) hj2 | (rw [getD_sn (by omega)]; exact p4 j (by omega) hj2)))
                   · ((try dsimp only); omega))
              · (first | replace hq_17 := bnt hq_17 | replace hq_17 := bnf hq_17 | replace hq_17 := bt hq_17 | replace hq_17 := bf hq_17 | replace hq_17 := bt' hq_17 | replace hq_17 := bf' hq_17 | skip)
                first
                | (cases hq_17; done) | (exfalso; omega)
                | (
                   refine aw_skip ?_
                   refine block_n ?_
                   refine then_n ?_
                   refine aw_text (by kernel_rfl) ?_
                   refine al_ro' (ro_move s9_16) trivial rfl ?_
                   first | (refine al_ro' (ro_sub' up_h ev_c ?_) trivial rfl ?_; · (unfold In64; omega)) | refine al_ro' (ro_sub up_h ev_c) trivial rfl ?_
                   refine al_ro' (ro_assign up_h) trivial rfl ?_
                   refine al_end (fun e_21 he_21 => ?_)
                   have s3_21 := ef 3 he_21 (up_m rfl (u2 rfl s3_16))
                   have s4_21 := ef 4 he_21 (up_m rfl (u2 rfl s4_16))
                   have s7_21 := ef 7 he_21 (up_m rfl (u2 rfl s7_16))
                   have s8_21 := ef 8 he_21 (up_m rfl (u2 rfl s8_16))
                   have s9_21 := ef 9 he_21 up_h
                   clear he_21 s10_16 s3_16 s47_16 s4_16 s7_16 s8_16 s9_16
                   refine then_n ?_
                   refine ⟨⟨_, _⟩, ⟨s9_21, (s3_21.trans s3_7.symm), (s4_21.trans s4_7.symm), (s7_21.trans s7_7.symm), (s8_21.trans s8_7.symm), mo2_11, (mo1_11.trans mo1_4.symm), (mo0_11.trans mo0_4.symm), ml_11, ?_⟩, ?_⟩
                   · (refine ⟨by omega, by omega, by simp; omega, fun j hj hj2 => ?_⟩; by_cases hji : j = i.toNat; (rw [hji, hstep]; first | (rw [getD_se (by simp; omega)]; omega) | omega); (rw [getD_sn (by omega)]; first | exact p4 j (by omega) hj2 | (rw [getD_sn (by omega)]; exact p4 j (by omega) hj2)))
                   · ((try dsimp only); omega)))
         · (first | replace hq_14 := bnt hq_14 | replace hq_14 := bnf hq_14 | replace hq_14 := bt hq_14 | replace hq_14 := bf hq_14 | replace hq_14 := bt' hq_14 | replace hq_14 := bf' hq_14 | skip)
           first
           | (cases hq_14; done) | (exfalso; omega)
           | (
              refine aw_skip ?_
              refine block_n ?_
              refine then_n ?_
              refine aw_text (by kernel_rfl) ?_
              refine al_ro' (ro_move s9_13) trivial rfl ?_
              first | (refine al_ro' (ro_sub' up_h ev_c ?_) trivial rfl ?_; · (unfold In64; omega)) | refine al_ro' (ro_sub up_h ev_c) trivial rfl ?_
              refine al_ro' (ro_assign up_h) trivial rfl ?_
              refine al_end (fun e_22 he_22 => ?_)
              have s3_22 := ef 3 he_22 (up_m rfl (u2 rfl s3_13))
              have s4_22 := ef 4 he_22 (up_m rfl (u2 rfl s4_13))
              have s7_22 := ef 7 he_22 (up_m rfl (u2 rfl s7_13))
              have s8_22 := ef 8 he_22 (up_m rfl (u2 rfl s8_13))
              have s9_22 := ef 9 he_22 up_h
              clear he_22 s29_13 s3_13 s4_13 s7_13 s8_13 s9_13
              refine then_n ?_
              refine ⟨⟨_, _⟩, ⟨s9_22, (s3_22.trans s3_7.symm), (s4_22.trans s4_7.symm), (s7_22.trans s7_7.symm), (s8_22.trans s8_7.symm), mo2_11, (mo1_11.trans mo1_4.symm), (mo0_11.trans mo0_4.symm), ml_11, ?_⟩, ?_⟩
              · (refine ⟨by omega, by omega, by simp; omega, fun j hj hj2 => ?_⟩; by_cases hji : j = i.toNat; (rw [hji, hstep]; first | (rw [getD_se (by simp; omega)]; omega) | omega); (rw [getD_sn (by omega)]; first | exact p4 j (by omega) hj2 | (rw [getD_sn (by omega)]; exact p4 j (by omega) hj2)))
              · ((try dsimp only); omega)))
    · (first | replace hq_10 := bnt hq_10 | replace hq_10 := bnf hq_10 | replace hq_10 := bt hq_10 | replace hq_10 := bf hq_10 | replace hq_10 := bt' hq_10 | replace hq_10 := bf' hq_10 | skip)
      first
      | (cases hq_10; done) | (exfalso; omega)
      | (
         refine aw_exit ?_
         refine then_x ?_
         refine then_x ?_
         refine block_hit ?_
         refine then_n ?_
         refine aw_seq ?_
         refine aw_text (by kernel_rfl) ?_
         refine al_ro' (ro_move s7_9) trivial rfl ?_
         refine al_ro' (ro_assign up_h) trivial rfl ?_
         refine al_end (fun e_23 he_23 => ?_)
         have s6_23 := ef 6 he_23 up_h
         clear he_23 s18_9 s3_9 s4_9 s7_9 s8_9 s9_9
         refine then_n ?_
         refine aw_ret ?_
         refine ret1 (.inr rfl) (by kernel_rfl) (resV_tmp s6_23) (.own _ _ _ _ mo2_8) ?_
         clear s6_23 mo2_8 mo1_8 mo0_8 ml_8
         (obtain ⟨p1, p2, p3, p4⟩ := hinv; congr 2; exact list_eq p3 (fun j hj => p4 j (by omega) (by omega))))
end Go.Proofs.Ytelgkjekpcfffaa
