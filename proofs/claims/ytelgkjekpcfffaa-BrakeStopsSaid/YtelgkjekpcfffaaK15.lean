/- The law of chapter 5 on what is reached. No conditions on a program. -/
import Derived.Test.YtelgkjekpcfffaaK14
namespace Go.Proofs.Ytelgkjekpcfffaa
open Go Go.RowKit Go.Proofs
set_option linter.unusedSimpArgs false
set_option linter.unusedVariables false
theorem k15_fl26_1 : FldIs Try.prog 26 1 1 false 1 := by unfold FldIs; kernel_rfl
theorem k15_fl42_0 : FldIs Try.prog 42 0 0 false 1 := by unfold FldIs; kernel_rfl
theorem k15_fl42_1 : FldIs Try.prog 42 1 1 false 1 := by unfold FldIs; kernel_rfl
theorem k15_hcf30 : ∀ args w, (callFunc 30 args).run Try.prog w = .ok (.enter 30 args) w := fun _ _ => by kernel_rfl
theorem k15_hcf70 : ∀ args w, (callFunc 70 args).run Try.prog w = .ok (.enter 70 args) w := fun _ _ => by kernel_rfl
theorem k15_sl30 : SlIs Try.prog 30 3 1 8 (.int .i64 0) := ⟨by kernel_rfl, by kernel_rfl, by kernel_rfl⟩
theorem k15_ty24 : TyIs Try.prog 24 true 2 := ⟨by kernel_rfl, by kernel_rfl⟩
theorem k15_ty26 : TyIs Try.prog 26 true 3 := ⟨by kernel_rfl, by kernel_rfl⟩
theorem k15_ty3 : TyIs Try.prog 3 false 1 := ⟨by kernel_rfl, by kernel_rfl⟩

set_option maxRecDepth 100000 in
set_option maxHeartbeats 4000000 in
theorem rRunTo_ok (nm : ByteArray) (ps : List Piece) (hok : trackR ps) (b d v : Int) (hb : sysR b d v) (post sq stop : Int) (h0 : 0 ≤ post) (h1 : post ≤ stop) (h2 : stop < ps.length) (hsq : 0 ≤ sq ∧ sq ≤ 20000000000) :
    FnOk Try.prog 27 [trA nm ps, syA b d v, .agg [iA post, iA sq], iA stop] (fun q => q = .tuple [.row 1 ((runW ps b d stop post sq).1.map iE), iA (runW ps b d stop post sq).2]) := by
  obtain ⟨q1, q2, q3⟩ := id hok
  obtain ⟨r1, r2, r3, r4⟩ := id hb
  have hcl := bwL_len ps b 0 (stop + 1).toNat
  refine fnOk_of (fn := Try.f27) 61 (by kernel_rfl) rfl (by kernel_rfl) (Nat.le_of_ble_eq_true rfl) ?_
  intro e_0 m_0 hA hm_0
  have s0_0 : evA e_0 (.tmp 0) = _ := hA 0 _ rfl
  have s1_0 : evA e_0 (.tmp 1) = _ := hA 1 _ rfl
  have s2_0 : evA e_0 (.tmp 2) = _ := hA 2 _ rfl
  have s3_0 : evA e_0 (.tmp 3) = _ := hA 3 _ rfl
  have ml_0 : m_0.length = 0 := by rw [hm_0]; rfl
  clear hA hm_0
  refine aw_seq ?_
  refine aw_text (by kernel_rfl) ?_
  refine al_stm (st_box s0_0 rfl ml_0) trivial rfl (fun m_1 hm_1 => ?_)
  have mo0_1 := m_push hm_1 ml_0
  (try simp only [packA_t, packA_f, iE, bE, setAt, cellsA, Value.cells, map_vc, map_vn, Nat.reduceAdd, qS, one_iE, app_m] at mo0_1)
  have ml_1 := m_push_l hm_1 ml_0
  have ml_1 : _ = 1 := ml_1
  clear hm_1
  refine al_stm (st_box (up_m rfl s1_0) rfl ml_1) trivial rfl (fun m_2 hm_2 => ?_)
  have mo1_2 := m_push hm_2 ml_1
  (try simp only [packA_t, packA_f, iE, bE, setAt, cellsA, Value.cells, map_vc, map_vn, Nat.reduceAdd, qS, one_iE, app_m] at mo1_2)
  have mo0_2 := m_push_o hm_2 mo0_1
  have ml_2 := m_push_l hm_2 ml_1
  have ml_2 : _ = 2 := ml_2
  clear hm_2 mo0_1
  refine al_stm (st_box (u2 rfl s2_0) rfl ml_2) trivial rfl (fun m_3 hm_3 => ?_)
  have mo2_3 := m_push hm_3 ml_2
  (try simp only [packA_t, packA_f, iE, bE, setAt, cellsA, Value.cells, map_vc, map_vn, Nat.reduceAdd, qS, one_iE, app_m] at mo2_3)
  have mo1_3 := m_push_o hm_3 mo1_2
  have mo0_3 := m_push_o hm_3 mo0_2
  have ml_3 := m_push_l hm_3 ml_2
  have ml_3 : _ = 3 := ml_3
  clear hm_3 mo1_2 mo0_2
  refine al_ro' (ro_assign ev_c) trivial rfl ?_
  refine al_ro' (ro_assign ev_c) trivial rfl ?_
  refine al_end (fun e_4 he_4 => ?_)
  have s3_4 := ef 3 he_4 (up_m rfl (u4 rfl s3_0))
  have s4_4 := ef 4 he_4 (u4 rfl up_h)
  have s5_4 := ef 5 he_4 (up_m rfl (u2 rfl up_h))
  have s6_4 := ef 6 he_4 (u2 rfl up_h)
  clear he_4 s0_0 s1_0 s2_0 s3_0
  refine then_n ?_
  refine aw_seq ?_
  refine aw_text (by kernel_rfl) ?_
  refine al_ro' (ro_eq (ro_ld_ptr k15_ty24 rfl mo0_3 s4_4 (by first | exact Nat.le_of_ble_eq_true rfl | omega | (simp only [lnS] <;> omega) | (simp <;> omega))) (by first | (simp only [packA_t, packA_f, iE, bE, setAt, cellsA, Value.cells, map_vc, map_vn, Nat.reduceAdd, qS, one_iE, app_m] <;> rfl) | rfl)) trivial rfl ?_
  refine al_ro' (ro_eq (ro_ld_ptr k15_ty26 rfl mo1_3 (up_m rfl s5_4) (by first | exact Nat.le_of_ble_eq_true rfl | omega | (simp only [lnS] <;> omega) | (simp <;> omega))) (by first | (simp only [packA_t, packA_f, iE, bE, setAt, cellsA, Value.cells, map_vc, map_vn, Nat.reduceAdd, qS, one_iE, app_m] <;> rfl) | rfl)) trivial rfl ?_
  refine al_ro' (ro_move (u2 rfl s3_4)) trivial rfl ?_
  refine al_ro' (ro_call (evL_cons (u2 rfl up_h) (evL_cons (up_m rfl up_h) (evL_cons up_h evL_nil))) rfl (rCurveOf_ok nm ps hok b d v hb stop (by omega) h2) k15_hcf30) trivial rfl ?_
  refine al_ro' (ro_assign up_h) trivial rfl ?_
  refine al_end (fun e_5 he_5 => ?_)
  have s3_5 := ef 3 he_5 (up_m rfl (u4 rfl s3_4))
  have s4_5 := ef 4 he_5 (up_m rfl (u4 rfl s4_4))
  have s5_5 := ef 5 he_5 (up_m rfl (u4 rfl s5_4))
  have s6_5 := ef 6 he_5 (up_m rfl (u4 rfl s6_4))
  have s10_5 := ef 10 he_5 up_h
  clear he_5 s3_4 s4_4 s5_4 s6_4
  refine then_n ?_
  refine aw_seq ?_
  refine aw_seq ?_
  refine aw_draw 8 (by kernel_rfl) (by kernel_rfl) (by kernel_rfl) (by kernel_rfl) ?_
  refine ds_ro' (ro_fld_ptr k15_fl42_1 rfl s6_5) trivial rfl ?_
  refine ds_ro' (ro_eq (ro_ld_ptr k15_ty3 rfl mo2_3 up_h (by first | exact Nat.le_of_ble_eq_true rfl | omega | (simp only [lnS] <;> omega) | (simp <;> omega))) (by first | (simp only [packA_t, packA_f, iE, bE, setAt, cellsA, Value.cells, map_vc, map_vn, Nat.reduceAdd, qS, one_iE, app_m] <;> rfl) | rfl)) trivial rfl ?_
  refine ds_ro' (ro_move (u2 rfl s10_5)) trivial rfl ?_
  refine ds_ro' (ro_fld_ptr k15_fl42_0 rfl (up_m rfl (u2 rfl s6_5))) trivial rfl ?_
  refine ds_ro' (ro_eq (ro_ld_ptr k15_ty3 rfl mo2_3 up_h (by first | exact Nat.le_of_ble_eq_true rfl | omega | (simp only [lnS] <;> omega) | (simp <;> omega))) (by first | (simp only [packA_t, packA_f, iE, bE, setAt, cellsA, Value.cells, map_vc, map_vn, Nat.reduceAdd, qS, one_iE, app_m] <;> rfl) | rfl)) trivial rfl ?_
  refine ds_ro' (ro_eq (ro_ix k15_sl30 (u2 rfl up_h) up_h (by first | decide | omega | (simp <;> omega)) (by first | (refine idx_map ?_; first | omega | (simp only [lnS]; omega)) | (refine idx_mapI ?_; first | omega | (simp only [lnS]; omega)) | (refine idx_mapN ?_; first | omega | (simp only [lnS]; omega)) | rfl)) (by first | (simp only [packA_t, packA_f, iE, bE, setAt, cellsA, Value.cells, map_vc, map_vn, Nat.reduceAdd, qS, one_iE, app_m] <;> rfl) | rfl)) trivial rfl ?_
  refine ds_ro' (ro_eq (ro_ld_ref k15_ty3 rfl up_h (by first | exact Nat.le_of_ble_eq_true rfl | omega | (simp only [lnS] <;> omega) | (simp <;> omega))) (by first | (simp only [packA_t, packA_f, iE, bE, setAt, cellsA, Value.cells, map_vc, map_vn, Nat.reduceAdd, qS, one_iE, app_m] <;> rfl) | rfl)) trivial rfl ?_
  refine ds_ro' (ro_gtr (up_m rfl (u4 rfl up_h)) up_h) trivial rfl ?_
  refine ds_nil ?_
  refine al_end (fun e_6 he_6 => ?_)
  have s3_6 := ef 3 he_6 (u8 rfl s3_5)
  have s4_6 := ef 4 he_6 (u8 rfl s4_5)
  have s5_6 := ef 5 he_6 (u8 rfl s5_5)
  have s6_6 := ef 6 he_6 (u8 rfl s6_5)
  have s10_6 := ef 10 he_6 (u8 rfl s10_5)
  have s25_6 := ef 25 he_6 up_h
  clear he_6 s10_5 s3_5 s4_5 s5_5 s6_5
  refine then_n ?_
  refine aw_case s25_6 (fun hq_7 => ?_) (fun hq_7 => ?_)
  · (first | replace hq_7 := bnt hq_7 | replace hq_7 := bnf hq_7 | replace hq_7 := bt hq_7 | replace hq_7 := bf hq_7 | replace hq_7 := bt' hq_7 | replace hq_7 := bf' hq_7 | skip)
    first
    | (cases hq_7; done) | (exfalso; omega)
    | (
       (have hc : (bwL ps b 0 (stop + 1).toNat).getD post.toNat default = -1 ∨ (bwL ps b 0 (stop + 1).toNat).getD post.toNat default < sq := (by omega))
       refine aw_seq ?_
       refine aw_text (by kernel_rfl) ?_
       refine al_ro' (ro_assign ev_c) trivial rfl ?_
       refine al_ro' (ro_assign ev_c) trivial rfl ?_
       refine al_end (fun e_8 he_8 => ?_)
       have s8_8 := ef 8 he_8 (up_m rfl up_h)
       have s9_8 := ef 9 he_8 up_h
       clear he_8 s10_6 s25_6 s3_6 s4_6 s5_6 s6_6
       refine then_n ?_
       refine aw_ret ?_
       refine then_r ?_
       refine ret2 (.inr rfl) (by kernel_rfl) (resV_tmp s8_8) (resV_tmp s9_8) (.nil 1) (.ro _ rfl) ?_
       clear s8_8 s9_8 mo2_3 mo1_3 mo0_3 ml_3
       (rw [runW, if_pos hc]; rfl))
  · (first | replace hq_7 := bnt hq_7 | replace hq_7 := bnf hq_7 | replace hq_7 := bt hq_7 | replace hq_7 := bf hq_7 | replace hq_7 := bt' hq_7 | replace hq_7 := bf' hq_7 | skip)
    first
    | (cases hq_7; done) | (exfalso; omega)
    | (
       (have hc : ¬ ((bwL ps b 0 (stop + 1).toNat).getD post.toNat default = -1 ∨ (bwL ps b 0 (stop + 1).toNat).getD post.toNat default < sq) := (by omega))
       refine aw_skip ?_
       refine then_n ?_
       refine aw_seq ?_
       refine aw_text (by kernel_rfl) ?_
       refine al_ro' (ro_fld_ptr k15_fl42_1 rfl s6_6) trivial rfl ?_
       refine al_ro' (ro_eq (ro_ld_ptr k15_ty3 rfl mo2_3 up_h (by first | exact Nat.le_of_ble_eq_true rfl | omega | (simp only [lnS] <;> omega) | (simp <;> omega))) (by first | (simp only [packA_t, packA_f, iE, bE, setAt, cellsA, Value.cells, map_vc, map_vn, Nat.reduceAdd, qS, one_iE, app_m] <;> rfl) | rfl)) trivial rfl ?_
       refine al_stm (st_lit k15_sl30 ml_3 (evP_cons up_h evP_nil) rfl rfl rfl rfl) trivial rfl (fun m_9 hm_9 => ?_)
       have mo3_9 := m_push hm_9 ml_3
       (try simp only [packA_t, packA_f, iE, bE, setAt, cellsA, Value.cells, map_vc, map_vn, Nat.reduceAdd, qS, one_iE, app_m] at mo3_9)
       have mo2_9 := m_push_o hm_9 mo2_3
       have mo1_9 := m_push_o hm_9 mo1_3
       have mo0_9 := m_push_o hm_9 mo0_3
       have ml_9 := m_push_l hm_9 ml_3
       have ml_9 : _ = 4 := ml_9
       clear hm_9 mo2_3 mo1_3 mo0_3
       refine al_ro' (ro_assign up_h) trivial rfl ?_
       refine al_end (fun e_10 he_10 => ?_)
       have s3_10 := ef 3 he_10 (u4 rfl s3_6)
       have s4_10 := ef 4 he_10 (u4 rfl s4_6)
       have s5_10 := ef 5 he_10 (u4 rfl s5_6)
       have s6_10 := ef 6 he_10 (u4 rfl s6_6)
       have s10_10 := ef 10 he_10 (u4 rfl s10_6)
       have s11_10 := ef 11 he_10 up_h
       clear he_10 s10_6 s25_6 s3_6 s4_6 s5_6 s6_6
       refine then_n ?_
       refine aw_seq ?_
       refine aw_seq ?_
       refine aw_text (by kernel_rfl) ?_
       refine al_ro' (ro_fld_ptr k15_fl42_0 rfl s6_10) trivial rfl ?_
       refine al_ro' (ro_eq (ro_ld_ptr k15_ty3 rfl mo2_9 up_h (by first | exact Nat.le_of_ble_eq_true rfl | omega | (simp only [lnS] <;> omega) | (simp <;> omega))) (by first | (simp only [packA_t, packA_f, iE, bE, setAt, cellsA, Value.cells, map_vc, map_vn, Nat.reduceAdd, qS, one_iE, app_m] <;> rfl) | rfl)) trivial rfl ?_
       refine al_ro' (ro_assign up_h) trivial rfl ?_
       refine al_end (fun e_11 he_11 => ?_)
       have s3_11 := ef 3 he_11 (up_m rfl (u2 rfl s3_10))
       have s4_11 := ef 4 he_11 (up_m rfl (u2 rfl s4_10))
       have s5_11 := ef 5 he_11 (up_m rfl (u2 rfl s5_10))
       have s10_11 := ef 10 he_11 (up_m rfl (u2 rfl s10_10))
       have s11_11 := ef 11 he_11 (up_m rfl (u2 rfl s11_10))
       have s12_11 := ef 12 he_11 up_h
       clear he_11 s10_10 s11_10 s3_10 s4_10 s5_10 s6_10
       refine then_n ?_
       refine aw_block ?_
       refine aw_loop (S := (Int × List Int)) (fun s e mem => match s with | ⟨i, xs⟩ => (evA e (.tmp 12) = .v (.int .i64 i)) ∧ (evA e (.tmp 3) = evA e_11 (.tmp 3)) ∧ (evA e (.tmp 4) = evA e_11 (.tmp 4)) ∧ (evA e (.tmp 5) = evA e_11 (.tmp 5)) ∧ (evA e (.tmp 10) = evA e_11 (.tmp 10)) ∧ (mem[2]? = m_9[2]?) ∧ (mem[1]? = m_9[1]?) ∧ (mem[0]? = m_9[0]?) ∧ (∃ j, evA e (.tmp 11) = .own j ∧ mem[j]? = some (.row 3 1 (xs.map iE)) ∧ j ≠ 2 ∧ j ≠ 1 ∧ j ≠ 0) ∧ (∃ n, mem.length = n ∧ 4 ≤ n) ∧ ((post ≤ i ∧ i ≤ stop ∧ goL (runF ps b d stop post.toNat) sq (i - post).toNat = some xs ∧ 0 ≤ xs.getD (i - post).toNat default ∧ xs.getD (i - post).toNat default ≤ 20000000000))) (fun s => match s with | ⟨i, xs⟩ => (stop - i).toNat) ⟨_, [sq]⟩ ⟨s12_11, rfl, rfl, rfl, rfl, rfl, rfl, rfl, ⟨_, s11_11, mo3_9, (by decide), (by decide), (by decide)⟩, ⟨_, ml_9, Nat.le_refl _⟩, ?_⟩ ?_
       · (refine ⟨by omega, by omega, ?_, ?_⟩; (rw [show (post - post).toNat = 0 by omega]; rfl); (rw [show (post - post).toNat = 0 by omega]; exact hsq))
       · rintro ⟨i, xs⟩ e_12 m_12 ⟨s12_12, k3_12, k4_12, k5_12, k10_12, mk2_12, mk1_12, mk0_12, ⟨j11_12, s11_12, mo_j11_12, nj11_2_12, nj11_1_12, nj11_0_12⟩, ⟨n_12, ml_12, hn_12⟩, hinv⟩
         have s3_12 := k3_12.trans s3_11
         have s4_12 := k4_12.trans s4_11
         have s5_12 := k5_12.trans s5_11
         have s10_12 := k10_12.trans s10_11
         have mo2_12 := mk2_12.trans mo2_9
         have mo1_12 := mk1_12.trans mo1_9
         have mo0_12 := mk0_12.trans mo0_9
         have jl11_12 := m_lt mo_j11_12 ml_12
         (obtain ⟨p1, p2, p3, p4, p5⟩ := hinv; have hl := goL_len p3; have hpa := q1.at i.toNat; have hlos := los_bound (dec := d) (p := ps.getD i.toNat default) (by omega) hpa.1 hpa.2.1; have hlast : xs.getD ((xs.length : Int) - 1).toNat default = xs.getD (i - post).toNat default := (by congr 1; omega); have hcb := bwL_bound q1 (b := b) (sq := 0) (by omega) (stop + 1).toNat (i + 1).toNat; have hf : ∀ x, runF ps b d stop post.toNat (i - post).toNat x = min ((bwL ps b 0 (stop + 1).toNat).getD (i + 1).toNat default) (x - losW d (ps.getD i.toNat default)) := (fun x => by unfold runF; rw [show post.toNat + (i - post).toNat + 1 = (i + 1).toNat by omega, show post.toNat + (i - post).toNat = i.toNat by omega]))
         refine aw_seq ?_
         refine aw_seq ?_
         refine aw_text (by kernel_rfl) ?_
         refine al_ro' (ro_move s12_12) trivial rfl ?_
         refine al_ro' (ro_move (up_m rfl s3_12)) trivial rfl ?_
         refine al_ro' (ro_lss (up_m rfl up_h) up_h) trivial rfl ?_
         refine al_end (fun e_13 he_13 => ?_)
         have s3_13 := ef 3 he_13 (up_m rfl (u2 rfl s3_12))
         have s4_13 := ef 4 he_13 (up_m rfl (u2 rfl s4_12))
         have s5_13 := ef 5 he_13 (up_m rfl (u2 rfl s5_12))
         have s10_13 := ef 10 he_13 (up_m rfl (u2 rfl s10_12))
         have s11_13 := ef 11 he_13 (up_m rfl (u2 rfl s11_12))
         have s12_13 := ef 12 he_13 (up_m rfl (u2 rfl s12_12))
         have s33_13 := ef 33 he_13 up_h
         clear he_13 s10_12 s11_12 s12_12 s3_12 s4_12 s5_12
         refine then_n ?_
         refine aw_case s33_13 (fun hq_14 => ?_) (fun hq_14 => ?_)
         · (first | replace hq_14 := bnt hq_14 | replace hq_14 := bnf hq_14 | replace hq_14 := bt hq_14 | replace hq_14 := bf hq_14 | replace hq_14 := bt' hq_14 | replace hq_14 := bf' hq_14 | skip)
           first
           | (cases hq_14; done) | (exfalso; omega)
           | (
              refine aw_skip ?_
              refine then_n ?_
              refine aw_seq ?_
              refine aw_block ?_
              refine aw_seq ?_
              refine aw_draw 19 (by kernel_rfl) (by kernel_rfl) (by kernel_rfl) (by kernel_rfl) ?_
              refine ds_ro' (ro_move s10_13) trivial rfl ?_
              refine ds_ro' (ro_move (up_m rfl s12_13)) trivial rfl ?_
              first | (refine ds_ro' (ro_add' up_h ev_c ?_) trivial rfl ?_; · (unfold In64; omega)) | refine ds_ro' (ro_add up_h ev_c) trivial rfl ?_
              refine ds_ro' (ro_eq (ro_ix k15_sl30 (u2 rfl up_h) up_h (by first | decide | omega | (simp <;> omega)) (by first | (refine idx_map ?_; first | omega | (simp only [lnS]; omega)) | (refine idx_mapI ?_; first | omega | (simp only [lnS]; omega)) | (refine idx_mapN ?_; first | omega | (simp only [lnS]; omega)) | rfl)) (by first | (simp only [packA_t, packA_f, iE, bE, setAt, cellsA, Value.cells, map_vc, map_vn, Nat.reduceAdd, qS, one_iE, app_m] <;> rfl) | rfl)) trivial rfl ?_
              refine ds_ro' (ro_eq (ro_ld_ref k15_ty3 rfl up_h (by first | exact Nat.le_of_ble_eq_true rfl | omega | (simp only [lnS] <;> omega) | (simp <;> omega))) (by first | (simp only [packA_t, packA_f, iE, bE, setAt, cellsA, Value.cells, map_vc, map_vn, Nat.reduceAdd, qS, one_iE, app_m] <;> rfl) | rfl)) trivial rfl ?_
              refine ds_ro' (ro_move (up_m rfl (u4 rfl s11_13))) trivial rfl ?_
              refine ds_ro' (ro_move (u2 rfl (u4 rfl s11_13))) trivial rfl ?_
              refine ds_ro' (ro_eq (ro_len_own up_h mo_j11_12 rfl k15_sl30.1) (by first | (simp only [lnS] <;> rfl) | rfl)) trivial rfl ?_
              first | (refine ds_ro' (ro_sub' up_h ev_c ?_) trivial rfl ?_; · (unfold In64; omega)) | refine ds_ro' (ro_sub up_h ev_c) trivial rfl ?_
              refine ds_ro' (ro_ix_own k15_sl30 mo_j11_12 (up_m rfl (u2 rfl up_h)) up_h (by first | decide | omega | (simp <;> omega)) (by first | omega | (simp only [lnS] <;> omega) | (simp <;> omega))) trivial rfl ?_
              refine ds_ro' (ro_eq (ro_ld_el k15_ty3 rfl mo_j11_12 up_h (by first | exact Nat.le_of_ble_eq_true rfl | omega | (simp only [lnS] <;> omega) | (simp <;> omega)) (by first | (refine idx_map ?_; first | omega | (simp only [lnS]; omega)) | (refine idx_mapI ?_; first | omega | (simp only [lnS]; omega)) | (refine idx_mapN ?_; first | omega | (simp only [lnS]; omega)) | rfl)) (by first | (simp only [packA_t, packA_f, iE, bE, setAt, cellsA, Value.cells, map_vc, map_vn, Nat.reduceAdd, qS, one_iE, app_m] <;> rfl) | rfl)) trivial rfl ?_
              refine ds_ro' (ro_eq (ro_ld_ptr k15_ty24 rfl mo0_12 (up_m rfl (u2 rfl (u8 rfl s4_13))) (by first | exact Nat.le_of_ble_eq_true rfl | omega | (simp only [lnS] <;> omega) | (simp <;> omega))) (by first | (simp only [packA_t, packA_f, iE, bE, setAt, cellsA, Value.cells, map_vc, map_vn, Nat.reduceAdd, qS, one_iE, app_m] <;> rfl) | rfl)) trivial rfl ?_
              refine ds_ro' (ro_move (u4 rfl (u8 rfl s12_13))) trivial rfl ?_
              refine ds_ro' (ro_fld_ptr k15_fl26_1 rfl (up_m rfl (u4 rfl (u8 rfl s5_13)))) trivial rfl ?_
              refine ds_ro' (ro_eq (ro_ld_ptr k15_ty3 rfl mo1_12 up_h (by first | exact Nat.le_of_ble_eq_true rfl | omega | (simp only [lnS] <;> omega) | (simp <;> omega))) (by first | (simp only [packA_t, packA_f, iE, bE, setAt, cellsA, Value.cells, map_vc, map_vn, Nat.reduceAdd, qS, one_iE, app_m] <;> rfl) | rfl)) trivial rfl ?_
              refine ds_ro' (ro_call (evL_cons (up_m rfl (u2 rfl up_h)) (evL_cons (u2 rfl up_h) (evL_cons up_h evL_nil))) rfl (rloses_ok nm ps q1 i (by omega) (by omega) d (by omega)) k15_hcf70) trivial rfl ?_
              first | (refine ds_ro' (ro_sub' (up_m rfl (u4 rfl up_h)) up_h ?_) trivial rfl ?_; · (unfold In64; omega)) | refine ds_ro' (ro_sub (up_m rfl (u4 rfl up_h)) up_h) trivial rfl ?_
              refine ds_ro' (ro_min (u4 rfl (u8 rfl up_h)) up_h) trivial rfl ?_
              refine ds_ro' (ro_assign up_h) trivial rfl ?_
              refine ds_nil ?_
              refine al_end (fun e_15 he_15 => ?_)
              have s3_15 := ef 3 he_15 (up_m rfl (u2 rfl (u16 rfl s3_13)))
              have s4_15 := ef 4 he_15 (up_m rfl (u2 rfl (u16 rfl s4_13)))
              have s5_15 := ef 5 he_15 (up_m rfl (u2 rfl (u16 rfl s5_13)))
              have s10_15 := ef 10 he_15 (up_m rfl (u2 rfl (u16 rfl s10_13)))
              have s11_15 := ef 11 he_15 (up_m rfl (u2 rfl (u16 rfl s11_13)))
              have s12_15 := ef 12 he_15 (up_m rfl (u2 rfl (u16 rfl s12_13)))
              have s13_15 := ef 13 he_15 up_h
              clear he_15 s10_13 s11_13 s12_13 s33_13 s3_13 s4_13 s5_13
              refine then_n ?_
              refine aw_seq ?_
              refine aw_seq ?_
              refine aw_text (by kernel_rfl) ?_
              refine al_ro' (ro_move s13_15) trivial rfl ?_
              refine al_ro' (ro_lss up_h ev_c) trivial rfl ?_
              refine al_end (fun e_16 he_16 => ?_)
              have s3_16 := ef 3 he_16 (u2 rfl s3_15)
              have s4_16 := ef 4 he_16 (u2 rfl s4_15)
              have s5_16 := ef 5 he_16 (u2 rfl s5_15)
              have s10_16 := ef 10 he_16 (u2 rfl s10_15)
              have s11_16 := ef 11 he_16 (u2 rfl s11_15)
              have s12_16 := ef 12 he_16 (u2 rfl s12_15)
              have s13_16 := ef 13 he_16 (u2 rfl s13_15)
              have s55_16 := ef 55 he_16 up_h
              clear he_16 s10_15 s11_15 s12_15 s13_15 s3_15 s4_15 s5_15
              refine then_n ?_
              refine aw_case s55_16 (fun hq_17 => ?_) (fun hq_17 => ?_)
              · (first | replace hq_17 := bnt hq_17 | replace hq_17 := bnf hq_17 | replace hq_17 := bt hq_17 | replace hq_17 := bf hq_17 | replace hq_17 := bt' hq_17 | replace hq_17 := bf' hq_17 | skip)
                first
                | (cases hq_17; done) | (exfalso; omega)
                | (
                   refine aw_seq ?_
                   refine aw_text (by kernel_rfl) ?_
                   refine al_ro' (ro_assign ev_c) trivial rfl ?_
                   refine al_ro' (ro_assign ev_c) trivial rfl ?_
                   refine al_end (fun e_18 he_18 => ?_)
                   have s8_18 := ef 8 he_18 (up_m rfl up_h)
                   have s9_18 := ef 9 he_18 up_h
                   clear he_18 s10_16 s11_16 s12_16 s13_16 s3_16 s4_16 s55_16 s5_16
                   refine then_n ?_
                   refine aw_ret ?_
                   refine then_r ?_
                   refine block_r ?_
                   refine then_r ?_
                   refine then_r ?_
                   refine block_r ?_
                   refine then_r ?_
                   refine ret2 (.inr rfl) (by kernel_rfl) (resV_tmp s8_18) (resV_tmp s9_18) (.nil 1) (.ro _ rfl) ?_
                   clear s8_18 s9_18 mo2_12 mo1_12 mo0_12 mo_j11_12 ml_12
                   (have hn := ‹min _ _ < (0 : Int)›; rw [hlast] at hn; rw [runW, if_neg hc, goL_stop (n := (stop - post).toNat) p3 (by omega) (by rw [hf]; exact hn)]; rfl))
              · (first | replace hq_17 := bnt hq_17 | replace hq_17 := bnf hq_17 | replace hq_17 := bt hq_17 | replace hq_17 := bf hq_17 | replace hq_17 := bt' hq_17 | replace hq_17 := bf' hq_17 | skip)
                first
                | (cases hq_17; done) | (exfalso; omega)
                | (
                   (have hq_NEG := ‹¬ (min _ _ < (0 : Int))›)
                   refine aw_skip ?_
                   refine then_n ?_
                   refine aw_text (by kernel_rfl) ?_
                   refine al_ro' (ro_move s11_16) trivial rfl ?_
                   refine al_ro' (ro_move (up_m rfl s13_16)) trivial rfl ?_
                   refine al_ro' (ro_lit k15_sl30 (evP_cons up_h evP_nil) rfl rfl rfl rfl) trivial rfl ?_
                   refine al_stm (st_app k15_sl30 rfl ml_12 mo_j11_12 (u2 rfl up_h) up_h (by first | rfl | (simp [oneA]; done)) (by first | omega | (simp only [lnS] <;> omega) | (simp <;> omega))) trivial rfl (fun m_19 hm_19 => ?_)
                   have mon_12_19 := m_swap hm_19 ml_12
                   (try simp only [packA_t, packA_f, iE, bE, setAt, cellsA, Value.cells, map_vc, map_vn, Nat.reduceAdd, qS, one_iE, app_m] at mon_12_19)
                   have mo2_19 := m_swap_o hm_19 mo2_12 (by omega)
                   have mo1_19 := m_swap_o hm_19 mo1_12 (by omega)
                   have mo0_19 := m_swap_o hm_19 mo0_12 (by omega)
                   have ml_19 := m_swap_l hm_19 ml_12
                   clear hm_19 mo2_12 mo1_12 mo0_12 mo_j11_12
                   refine al_ro' (ro_assign up_h) trivial rfl ?_
                   refine al_end (fun e_20 he_20 => ?_)
                   have s3_20 := ef 3 he_20 (up_m rfl (u4 rfl s3_16))
                   have s4_20 := ef 4 he_20 (up_m rfl (u4 rfl s4_16))
                   have s5_20 := ef 5 he_20 (up_m rfl (u4 rfl s5_16))
                   have s10_20 := ef 10 he_20 (up_m rfl (u4 rfl s10_16))
                   have s11_20 := ef 11 he_20 up_h
                   have s12_20 := ef 12 he_20 (up_m rfl (u4 rfl s12_16))
                   clear he_20 s10_16 s11_16 s12_16 s13_16 s3_16 s4_16 s55_16 s5_16
                   refine block_n ?_
                   refine then_n ?_
                   refine aw_text (by kernel_rfl) ?_
                   refine al_ro' (ro_move s12_20) trivial rfl ?_
                   first | (refine al_ro' (ro_add' up_h ev_c ?_) trivial rfl ?_; · (unfold In64; omega)) | refine al_ro' (ro_add up_h ev_c) trivial rfl ?_
                   refine al_ro' (ro_assign up_h) trivial rfl ?_
                   refine al_end (fun e_21 he_21 => ?_)
                   have s3_21 := ef 3 he_21 (up_m rfl (u2 rfl s3_20))
                   have s4_21 := ef 4 he_21 (up_m rfl (u2 rfl s4_20))
                   have s5_21 := ef 5 he_21 (up_m rfl (u2 rfl s5_20))
                   have s10_21 := ef 10 he_21 (up_m rfl (u2 rfl s10_20))
                   have s11_21 := ef 11 he_21 (up_m rfl (u2 rfl s11_20))
                   have s12_21 := ef 12 he_21 up_h
                   clear he_21 s10_20 s11_20 s12_20 s3_20 s4_20 s5_20
                   refine then_n ?_
                   refine ⟨⟨_, _⟩, ⟨s12_21, (s3_21.trans s3_11.symm), (s4_21.trans s4_11.symm), (s5_21.trans s5_11.symm), (s10_21.trans s10_11.symm), (mo2_19.trans mo2_9.symm), (mo1_19.trans mo1_9.symm), (mo0_19.trans mo0_9.symm), ⟨_, s11_21, mon_12_19, (by omega), (by omega), (by omega)⟩, ⟨_, ml_19, by omega⟩, ?_⟩, ?_⟩
                   · (have hn := hq_NEG; rw [hlast] at hn; have hst := goL_step p3 (by rw [hf]; exact hn); rw [hf] at hst; rw [hlast]; refine ⟨by omega, by omega, ?_, ?_⟩; (rw [show (i + 1 - post).toNat = (i - post).toNat + 1 by omega]; exact hst); (rw [show (i + 1 - post).toNat = (i - post).toNat + 1 by omega, getD_snoc (by omega)]; omega))
                   · ((try dsimp only); omega)))
         · (first | replace hq_14 := bnt hq_14 | replace hq_14 := bnf hq_14 | replace hq_14 := bt hq_14 | replace hq_14 := bf hq_14 | replace hq_14 := bt' hq_14 | replace hq_14 := bf' hq_14 | skip)
           first
           | (cases hq_14; done) | (exfalso; omega)
           | (
              refine aw_exit ?_
              refine then_x ?_
              refine then_x ?_
              refine block_hit ?_
              refine then_n ?_
              refine aw_seq ?_
              refine aw_text (by kernel_rfl) ?_
              refine al_ro' (ro_move s11_13) trivial rfl ?_
              refine al_ro' (ro_assign up_h) trivial rfl ?_
              refine al_ro' (ro_assign ev_c) trivial rfl ?_
              refine al_end (fun e_22 he_22 => ?_)
              have s8_22 := ef 8 he_22 (up_m rfl up_h)
              have s9_22 := ef 9 he_22 up_h
              clear he_22 s10_13 s11_13 s12_13 s33_13 s3_13 s4_13 s5_13
              refine then_n ?_
              refine aw_ret ?_
              refine ret2 (.inr rfl) (by kernel_rfl) (resV_tmp s8_22) (resV_tmp s9_22) (.own _ _ _ _ mo_j11_12) (.ro _ rfl) ?_
              clear s8_22 s9_22 mo2_12 mo1_12 mo0_12 mo_j11_12 ml_12
              (have hi : i = stop := (by omega); rw [hi] at p3; rw [runW, if_neg hc, p3])))
end Go.Proofs.Ytelgkjekpcfffaa
