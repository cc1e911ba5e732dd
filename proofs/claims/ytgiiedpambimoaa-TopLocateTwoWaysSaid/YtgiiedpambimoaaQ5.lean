/- Contracts of chapter 4: the only place that is possible. No conditions on a program. -/
import Derived.Test.YtgiiedpambimoaaQ4
namespace Go.Proofs.Ytgiiedpambimoaa
open Go Go.RowKit Go.Proofs
set_option linter.unusedSimpArgs false
set_option linter.unusedVariables false
theorem q5_az90 : (Try.prog.info? 90).bind (·.zero) = some (.agg #[.slice none 0 0, .int .i64 0, .int .i64 0, .int .i64 0, .int .i64 0, .int .i64 0, .int .i64 0, .int .i64 0, .bool false]) := by kernel_rfl
theorem q5_fl24_3 : FldIs Try.prog 24 3 3 false 1 := by unfold FldIs; kernel_rfl
theorem q5_fl24_5 : FldIs Try.prog 24 5 5 false 1 := by unfold FldIs; kernel_rfl
theorem q5_fl24_6 : FldIs Try.prog 24 6 6 false 1 := by unfold FldIs; kernel_rfl
theorem q5_fl42_1 : FldIs Try.prog 42 1 1 false 1 := by unfold FldIs; kernel_rfl
theorem q5_fl46_0 : FldIs Try.prog 46 0 0 false 1 := by unfold FldIs; kernel_rfl
theorem q5_fl46_1 : FldIs Try.prog 46 1 1 false 1 := by unfold FldIs; kernel_rfl
theorem q5_hcf40 : ∀ args w, (callFunc 40 args).run Try.prog w = .ok (.enter 40 args) w := fun _ _ => by kernel_rfl
theorem q5_hcf41 : ∀ args w, (callFunc 41 args).run Try.prog w = .ok (.enter 41 args) w := fun _ _ => by kernel_rfl
theorem q5_hcf42 : ∀ args w, (callFunc 42 args).run Try.prog w = .ok (.enter 42 args) w := fun _ _ => by kernel_rfl
theorem q5_hcf51 : ∀ args w, (callFunc 51 args).run Try.prog w = .ok (.enter 51 args) w := fun _ _ => by kernel_rfl
theorem q5_hcf76 : ∀ args w, (callFunc 76 args).run Try.prog w = .ok (.enter 76 args) w := fun _ _ => by kernel_rfl
theorem q5_hcf77 : ∀ args w, (callFunc 77 args).run Try.prog w = .ok (.enter 77 args) w := fun _ _ => by kernel_rfl
theorem q5_sl126 : SlIs Try.prog 126 33 1 8 (.int .i64 0) := ⟨by kernel_rfl, by kernel_rfl, by kernel_rfl⟩
theorem q5_sl22 : SlIs Try.prog 22 3 1 8 (.int .i64 0) := ⟨by kernel_rfl, by kernel_rfl, by kernel_rfl⟩
theorem q5_sl97 : SlIs Try.prog 97 42 2 16 (.agg #[.int .i64 0, .int .i64 0]) := ⟨by kernel_rfl, by kernel_rfl, by kernel_rfl⟩
theorem q5_sz90 : (Try.prog.info? 90).map (·.size) = some 9 := by kernel_rfl
theorem q5_ty22 : TyIs Try.prog 22 false 1 := ⟨by kernel_rfl, by kernel_rfl⟩
theorem q5_ty24 : TyIs Try.prog 24 true 9 := ⟨by kernel_rfl, by kernel_rfl⟩
theorem q5_ty3 : TyIs Try.prog 3 false 1 := ⟨by kernel_rfl, by kernel_rfl⟩
theorem q5_ty90 : TyIs Try.prog 90 true 9 := ⟨by kernel_rfl, by kernel_rfl⟩

def rE (p : Int × Int) : List AV := [.v (.int .i64 p.1), .v (.int .i64 p.2)]
theorem one_rE (a b : Int) : [[AV.v (.int .i64 a), AV.v (.int .i64 b)]] = [((a, b) : Int × Int)].map rE := rfl
/-- How far off a tooth is. -/
def offW (t : Trk) (count tooth : Int) : Int := (tooth.tmod t.mod + t.mod - count).tmod t.mod
def pasB (t : Trk) (count tooth : Int) : Prop := ¬ t.sla < min (offW t count tooth) (t.mod - offW t count tooth)
theorem off_bd {t : Trk} (h : RT t) {count tooth : Int} (hc : 0 ≤ count ∧ count < t.mod) (h0 : 0 ≤ tooth) : (0 ≤ tooth.tmod t.mod ∧ tooth.tmod t.mod < t.mod) ∧ 0 ≤ offW t count tooth ∧ offW t count tooth < t.mod := by
  have hm := h.mod
  have a1 := Int.tmod_nonneg t.mod h0
  have a2 := Int.tmod_lt_of_pos tooth (show 0 < t.mod by omega)
  refine ⟨⟨a1, a2⟩, ?_, ?_⟩
  · exact Int.tmod_nonneg _ (by omega)
  · exact Int.tmod_lt_of_pos _ (by omega)
theorem mul_per {t : Trk} (h : RT t) {w : Int} (h0 : 0 ≤ w) (h1 : w < wnd t) : 0 ≤ w * t.per ∧ (w + 1) * t.per = w * t.per + t.per ∧ w * t.per + t.per ≤ tee t := by
  have hp := h.per
  refine ⟨Int.mul_nonneg h0 (by omega), by rw [Int.add_mul, Int.one_mul], ?_⟩
  have := Int.mul_le_mul_of_nonneg_right (show w + 1 ≤ wnd t by omega) (show 0 ≤ t.per by omega)
  rw [Int.add_mul, Int.one_mul] at this
  exact this
theorem nodup_take {l : List Int} (h : l.Nodup) {i : Nat} (hi : i < l.length) : l.getD i default ∉ l.take i := by
  intro hm
  obtain ⟨j, hj, e⟩ := List.getElem_of_mem hm
  rw [List.length_take] at hj
  rw [List.getElem_take, List.getD_eq_getElem?_getD, List.getElem?_eq_getElem hi, Option.getD_some] at e
  exact (List.pairwise_iff_getElem.1 h) j i (by omega) hi (by omega) e
theorem mem_take_succ {l : List Int} {i : Nat} (hi : i < l.length) (x : Int) : x ∈ l.take (i + 1) ↔ x ∈ l.take i ∨ x = l.getD i default := by
  rw [List.take_add_one, List.mem_append, List.getElem?_eq_getElem hi, List.getD_eq_getElem?_getD, List.getElem?_eq_getElem hi]
  simp
/-- The teeth that pass. -/
structure OneT (t : Trk) (xs : List Int) (count T : Int) : Prop where
  lo : 0 ≤ T ∧ T < tee t
  win : T / t.per ∈ neaV t xs (wnd t).toNat
  uni : ∀ w ∈ neaV t xs (wnd t).toNat, ∀ k : Int, w * t.per ≤ k → k < w * t.per + t.per → (pasB t count k ↔ k = T)
theorem OneT.mid {t : Trk} {xs : List Int} {count T : Int} (hR : RT t) (h : OneT t xs count T) : T / t.per * t.per ≤ T ∧ T < T / t.per * t.per + t.per := by
  have hp := hR.per
  have a := Int.emod_add_mul_ediv T t.per
  have b := Int.emod_nonneg T (show t.per ≠ 0 by omega)
  have c := Int.emod_lt_of_pos T (show 0 < t.per by omega)
  rw [Int.mul_comm] at a
  omega
theorem OneT.other {t : Trk} {xs : List Int} {count T w : Int} (hR : RT t) (h : OneT t xs count T) (hw : w * t.per ≤ T ∧ T < w * t.per + t.per) : T / t.per = w := by
  have hp := hR.per
  have a : w ≤ T / t.per := (Int.le_ediv_iff_mul_le (by omega)).2 hw.1
  have b : T / t.per < w + 1 := (Int.ediv_lt_iff_lt_mul (by omega)).2 (by rw [Int.add_mul, Int.one_mul]; exact hw.2)
  omega
/-- What is told so far. -/
def outV (t : Trk) (T : Int) (b : Prop) [Decidable b] : List (Int × Int) := if b then [(plLo t T, plHi t T)] else []
theorem outV_congr {t : Trk} {T : Int} {a b : Prop} [Decidable a] [Decidable b] (h : a ↔ b) : outV t T a = outV t T b := by
  unfold outV
  by_cases ha : a
  · rw [if_pos ha, if_pos (h.1 ha)]
  · rw [if_neg ha, if_neg fun hb => ha (h.2 hb)]
theorem getD_memI {l : List Int} {i : Nat} (h : i < l.length) : l.getD i default ∈ l := by
  rw [List.getD_eq_getElem?_getD, List.getElem?_eq_getElem h]; exact List.getElem_mem h
set_option maxRecDepth 100000 in
set_option maxHeartbeats 4000000 in
theorem possible_ok (t : Trk) (ht : RT t) (xs : List Int) (hx : (xs.length : Int) = t.win) (hsee : ∀ j : Nat, j < xs.length → seeB (xs.getD j default) = true) (count T : Int) (hc : 0 ≤ count ∧ count < t.mod) (hO : OneT t xs count T) :
    FnOk Try.prog 50 [qA t, .agg [.row 1 (xs.map iE), zA count]] (fun q => q = .tuple [.row 2 ([(plLo t T, plHi t T)].map rE), zA 0]) := by
  have h1 := ht.win
  have h2 := ht.mod
  have h3 := ht.wnd
  have h4 := ht.per
  have h5 := ht.sla
  have h6 := ht.tee
  have hnl := neaV_len t xs (wnd t).toNat
  have hnd := neaV_nodup t xs (wnd t).toNat
  have e1 : firstE [0, unlessE (withinB count 0 (t.mod - 1)) 2] = 0 := by rw [show withinB count 0 (t.mod - 1) = true by simp [withinB]; omega]; rfl
  refine fnOk_of (fn := Try.f50) 108 (by kernel_rfl) rfl (by kernel_rfl) (Nat.le_of_ble_eq_true rfl) ?_
  intro e_0 m_0 hA hm_0
  have s0_0 : evA e_0 (.tmp 0) = _ := hA 0 _ rfl
  have s1_0 : evA e_0 (.tmp 1) = _ := hA 1 _ rfl
  have ml_0 : m_0.length = 0 := by rw [hm_0]; rfl
  clear hA hm_0
  refine aw_seq ?_
  refine aw_text (by kernel_rfl) ?_
  refine al_stm (st_box s0_0 rfl ml_0) trivial rfl (fun m_1 hm_1 => ?_)
  have mo0_1 := m_push hm_1 ml_0
  (try simp only [packA_t, packA_f, iE, bE, setAt, cellsA, Value.cells, map_vc, map_vn, Nat.reduceAdd, qS, rE, one_rE, app_m] at mo0_1)
  have ml_1 := m_push_l hm_1 ml_0
  have ml_1 : _ = 1 := ml_1
  clear hm_1
  refine al_stm (st_box (up_m rfl s1_0) rfl ml_1) trivial rfl (fun m_2 hm_2 => ?_)
  have mo1_2 := m_push hm_2 ml_1
  (try simp only [packA_t, packA_f, iE, bE, setAt, cellsA, Value.cells, map_vc, map_vn, Nat.reduceAdd, qS, rE, one_rE, app_m] at mo1_2)
  have mo0_2 := m_push_o hm_2 mo0_1
  have ml_2 := m_push_l hm_2 ml_1
  have ml_2 : _ = 2 := ml_2
  clear hm_2 mo0_1
  refine al_ro' (ro_assign ev_c) trivial rfl ?_
  refine al_ro' (ro_assign ev_c) trivial rfl ?_
  refine al_end (fun e_3 he_3 => ?_)
  have s2_3 := ef 2 he_3 (up_m rfl (u2 rfl up_h))
  have s3_3 := ef 3 he_3 (u2 rfl up_h)
  clear he_3 s0_0 s1_0
  refine then_n ?_
  refine aw_seq ?_
  refine aw_text (by kernel_rfl) ?_
  refine al_ro' (ro_eq (ro_ld_ptr q5_ty24 rfl mo0_2 s2_3 (by first | exact Nat.le_of_ble_eq_true rfl | omega | (simp only [lnS] <;> omega) | (simp <;> omega))) (by first | (simp only [packA_t, packA_f, iE, bE, setAt, cellsA, Value.cells, map_vc, map_vn, Nat.reduceAdd, qS, rE, one_rE, app_m] <;> rfl) | rfl)) trivial rfl ?_
  refine al_ro' (ro_fld_ptr q5_fl46_0 rfl (up_m rfl s3_3)) trivial rfl ?_
  refine al_ro' (ro_eq (ro_ld_ptr q5_ty22 rfl mo1_2 up_h (by first | exact Nat.le_of_ble_eq_true rfl | omega | (simp only [lnS] <;> omega) | (simp <;> omega))) (by first | (simp only [packA_t, packA_f, iE, bE, setAt, cellsA, Value.cells, map_vc, map_vn, Nat.reduceAdd, qS, rE, one_rE, app_m] <;> rfl) | rfl)) trivial rfl ?_
  refine al_ro' (ro_call (evL_cons (u2 rfl up_h) (evL_cons up_h evL_nil)) rfl (openSeen_ok t ht xs hx hsee) q5_hcf76) trivial rfl ?_
  refine al_ro' (ro_move up_h) trivial rfl ?_
  refine al_ro' (ro_extract up_h rfl) trivial rfl ?_
  refine al_ro' (ro_extract (up_m rfl up_h) rfl) trivial rfl ?_
  refine al_stm (st_alloc q5_az90 rfl ml_2) trivial rfl (fun m_4 hm_4 => ?_)
  have mo2_4 := m_push hm_4 ml_2
  (try simp only [packA_t, packA_f, iE, bE, setAt, cellsA, Value.cells, map_vc, map_vn, Nat.reduceAdd, qS, rE, one_rE, app_m] at mo2_4)
  have mo1_4 := m_push_o hm_4 mo1_2
  have mo0_4 := m_push_o hm_4 mo0_2
  have ml_4 := m_push_l hm_4 ml_2
  have ml_4 : _ = 3 := ml_4
  clear hm_4 mo1_2 mo0_2
  refine al_stm (st_store up_h (u2 rfl up_h) rfl rfl mo2_4 q5_sz90 rfl (by first | exact Nat.le_of_ble_eq_true rfl | omega | (simp only [lnS] <;> omega) | (simp <;> omega))) trivial rfl (fun m_5 hm_5 => ?_)
  have mo2_5 := m_set hm_5 mo2_4
  (try simp only [packA_t, packA_f, iE, bE, setAt, cellsA, Value.cells, map_vc, map_vn, Nat.reduceAdd, qS, rE, one_rE, app_m] at mo2_5)
  have mo1_5 := m_set_o hm_5 mo1_4 (by decide)
  have mo0_5 := m_set_o hm_5 mo0_4 (by decide)
  have ml_5 := m_set_l hm_5 ml_4
  clear hm_5 mo2_4 mo1_4 mo0_4
  refine al_ro' (ro_assign (up_n (up_m rfl up_h))) trivial rfl ?_
  refine al_end (fun e_6 he_6 => ?_)
  have s2_6 := ef 2 he_6 (up_m rfl (up_n (u8 rfl s2_3)))
  have s3_6 := ef 3 he_6 (up_m rfl (up_n (u8 rfl s3_3)))
  have s6_6 := ef 6 he_6 (up_m rfl (up_n up_h))
  have s7_6 := ef 7 he_6 up_h
  clear he_6 s2_3 s3_3
  refine then_n ?_
  refine aw_seq ?_
  refine aw_seq ?_
  refine aw_text (by kernel_rfl) ?_
  refine al_ro' (ro_move s7_6) trivial rfl ?_
  refine al_ro' (ro_fld_ptr q5_fl46_1 rfl (up_m rfl s3_6)) trivial rfl ?_
  refine al_ro' (ro_eq (ro_ld_ptr q5_ty3 rfl mo1_5 up_h (by first | exact Nat.le_of_ble_eq_true rfl | omega | (simp only [lnS] <;> omega) | (simp <;> omega))) (by first | (simp only [packA_t, packA_f, iE, bE, setAt, cellsA, Value.cells, map_vc, map_vn, Nat.reduceAdd, qS, rE, one_rE, app_m] <;> rfl) | rfl)) trivial rfl ?_
  refine al_ro' (ro_fld_ptr q5_fl24_5 rfl (up_m rfl (u2 rfl s2_6))) trivial rfl ?_
  refine al_ro' (ro_eq (ro_ld_ptr q5_ty3 rfl mo0_5 up_h (by first | exact Nat.le_of_ble_eq_true rfl | omega | (simp only [lnS] <;> omega) | (simp <;> omega))) (by first | (simp only [packA_t, packA_f, iE, bE, setAt, cellsA, Value.cells, map_vc, map_vn, Nat.reduceAdd, qS, rE, one_rE, app_m] <;> rfl) | rfl)) trivial rfl ?_
  first | (refine al_ro' (ro_sub' up_h ev_c ?_) trivial rfl ?_; · (unfold In64; omega)) | refine al_ro' (ro_sub up_h ev_c) trivial rfl ?_
  refine al_ro' (ro_call (evL_cons (up_m rfl (u2 rfl up_h)) (evL_cons ev_c (evL_cons up_h evL_nil))) rfl (qWithin_ok _ _ _) q5_hcf42) trivial rfl ?_
  refine al_ro' (ro_call (evL_cons up_h (evL_cons ev_c evL_nil)) rfl (qUnless_ok _ _) q5_hcf41) trivial rfl ?_
  refine al_ro' (ro_lit q5_sl126 (evP_cons (up_m rfl (u2 rfl (u4 rfl up_h))) (evP_cons up_h evP_nil)) rfl rfl rfl rfl) trivial rfl ?_
  refine al_ro' (ro_call (evL_cons up_h evL_nil) rfl ((qFirst_ok [_, _] (by simp)).mono (fun q h => h.trans (by rw [e1]))) q5_hcf40) trivial rfl ?_
  refine al_ro' (ro_assign up_h) trivial rfl ?_
  refine al_end (fun e_7 he_7 => ?_)
  have s2_7 := ef 2 he_7 (up_m rfl (u2 rfl (u8 rfl s2_6)))
  have s3_7 := ef 3 he_7 (up_m rfl (u2 rfl (u8 rfl s3_6)))
  have s6_7 := ef 6 he_7 (up_m rfl (u2 rfl (u8 rfl s6_6)))
  have s7_7 := ef 7 he_7 up_h
  clear he_7 s2_6 s3_6 s6_6 s7_6
  refine then_n ?_
  refine aw_seq ?_
  refine aw_text (by kernel_rfl) ?_
  refine al_ro' (ro_move s7_7) trivial rfl ?_
  refine al_ro' (ro_neq up_h ev_c) trivial rfl ?_
  refine al_end (fun e_8 he_8 => ?_)
  have s2_8 := ef 2 he_8 (u2 rfl s2_7)
  have s3_8 := ef 3 he_8 (u2 rfl s3_7)
  have s6_8 := ef 6 he_8 (u2 rfl s6_7)
  have s7_8 := ef 7 he_8 (u2 rfl s7_7)
  have s32_8 := ef 32 he_8 up_h
  clear he_8 s2_7 s3_7 s6_7 s7_7
  refine then_n ?_
  refine aw_case s32_8 (fun hq_9 => ?_) (fun hq_9 => ?_)
  · (first | replace hq_9 := bnt hq_9 | replace hq_9 := bnf hq_9 | replace hq_9 := bt hq_9 | replace hq_9 := bf hq_9 | replace hq_9 := bt' hq_9 | replace hq_9 := bf' hq_9 | skip)
    first
    | (cases hq_9; done) | (exfalso; omega)
    | (
       refine aw_seq ?_
       refine aw_text (by kernel_rfl) ?_
       refine al_ro' (ro_move s7_8) trivial rfl ?_
       refine al_ro' (ro_assign ev_c) trivial rfl ?_
       refine al_ro' (ro_assign (up_m rfl up_h)) trivial rfl ?_
       refine al_end (fun e_10 he_10 => ?_)
       have s4_10 := ef 4 he_10 (up_m rfl up_h)
       have s5_10 := ef 5 he_10 up_h
       clear he_10 s2_8 s32_8 s3_8 s6_8 s7_8
       refine then_n ?_
       refine aw_ret ?_
       refine then_r ?_
       refine ret2 (.inr rfl) (by kernel_rfl) (resV_tmp s4_10) (resV_tmp s5_10) (.nil 2) (.ro _ rfl) ?_
       clear s4_10 s5_10 mo2_5 mo1_5 mo0_5 ml_5
       (rw [p3, List.take_of_length_le (by omega)]; unfold outV; rw [if_pos hO.win]))
  · (first | replace hq_9 := bnt hq_9 | replace hq_9 := bnf hq_9 | replace hq_9 := bt hq_9 | replace hq_9 := bf hq_9 | replace hq_9 := bt' hq_9 | replace hq_9 := bf' hq_9 | skip)
    first
    | (cases hq_9; done) | (exfalso; omega)
    | (
       refine aw_skip ?_
       refine then_n ?_
       refine aw_seq ?_
       refine aw_text (by kernel_rfl) ?_
       refine al_ro' (ro_assign ev_c) trivial rfl ?_
       refine al_end (fun e_11 he_11 => ?_)
       have s2_11 := ef 2 he_11 (up_m rfl s2_8)
       have s3_11 := ef 3 he_11 (up_m rfl s3_8)
       have s6_11 := ef 6 he_11 (up_m rfl s6_8)
       have s8_11 := ef 8 he_11 up_h
       clear he_11 s2_8 s32_8 s3_8 s6_8 s7_8
       refine then_n ?_
       refine aw_seq ?_
       refine aw_text (by kernel_rfl) ?_
       refine al_ro' (ro_assign ev_c) trivial rfl ?_
       refine al_end (fun e_12 he_12 => ?_)
       have s2_12 := ef 2 he_12 (up_m rfl s2_11)
       have s3_12 := ef 3 he_12 (up_m rfl s3_11)
       have s6_12 := ef 6 he_12 (up_m rfl s6_11)
       have s8_12 := ef 8 he_12 (up_m rfl s8_11)
       have s9_12 := ef 9 he_12 up_h
       clear he_12 s2_11 s3_11 s6_11 s8_11
       refine then_n ?_
       refine aw_seq ?_
       refine aw_seq ?_
       refine aw_text (by kernel_rfl) ?_
       refine al_ro' (ro_eq (ro_ld_ptr q5_ty90 rfl mo2_5 s6_12 (by first | exact Nat.le_of_ble_eq_true rfl | omega | (simp only [lnS] <;> omega) | (simp <;> omega))) (by first | (simp only [packA_t, packA_f, iE, bE, setAt, cellsA, Value.cells, map_vc, map_vn, Nat.reduceAdd, qS, rE, one_rE, app_m] <;> rfl) | rfl)) trivial rfl ?_
       refine al_ro' (ro_fld_ptr q5_fl46_0 rfl (up_m rfl s3_12)) trivial rfl ?_
       refine al_ro' (ro_eq (ro_ld_ptr q5_ty22 rfl mo1_5 up_h (by first | exact Nat.le_of_ble_eq_true rfl | omega | (simp only [lnS] <;> omega) | (simp <;> omega))) (by first | (simp only [packA_t, packA_f, iE, bE, setAt, cellsA, Value.cells, map_vc, map_vn, Nat.reduceAdd, qS, rE, one_rE, app_m] <;> rfl) | rfl)) trivial rfl ?_
       refine al_ro' (ro_call (evL_cons (u2 rfl up_h) (evL_cons up_h evL_nil)) rfl (near_ok t ht xs (by omega)) q5_hcf77) trivial rfl ?_
       refine al_ro' (ro_eq (ro_len_row up_h rfl q5_sl22.1) (by first | (simp only [lnS] <;> rfl) | rfl)) trivial rfl ?_
       refine al_ro' (ro_move ev_c) trivial rfl ?_
       refine al_end (fun e_13 he_13 => ?_)
       have s2_13 := ef 2 he_13 (u2 rfl (u4 rfl s2_12))
       have s3_13 := ef 3 he_13 (u2 rfl (u4 rfl s3_12))
       have s6_13 := ef 6 he_13 (u2 rfl (u4 rfl s6_12))
       have s8_13 := ef 8 he_13 (u2 rfl (u4 rfl s8_12))
       have s9_13 := ef 9 he_13 (u2 rfl (u4 rfl s9_12))
       have s37_13 := ef 37 he_13 (u2 rfl up_h)
       have s38_13 := ef 38 he_13 (up_m rfl up_h)
       have s39_13 := ef 39 he_13 up_h
       clear he_13 s2_12 s3_12 s6_12 s8_12 s9_12
       refine then_n ?_
       refine aw_block ?_
       refine aw_adopt 42 2 s8_13 ml_5 (fun m_14 e_14 hm_14 he_14 => ?_)
       have mo3_14 := m_push hm_14 ml_5
       have mo2_14 := m_push_o hm_14 mo2_5
       have mo1_14 := m_push_o hm_14 mo1_5
       have mo0_14 := m_push_o hm_14 mo0_5
       have ml_14 := m_push_l hm_14 ml_5
       have ml_14 : _ = 4 := ml_14
       have s2_14 : evA e_14 (.tmp 2) = _ := (congrArg (fun q => evA q (.tmp 2)) he_14).trans (up_m rfl s2_13)
       have s3_14 : evA e_14 (.tmp 3) = _ := (congrArg (fun q => evA q (.tmp 3)) he_14).trans (up_m rfl s3_13)
       have s6_14 : evA e_14 (.tmp 6) = _ := (congrArg (fun q => evA q (.tmp 6)) he_14).trans (up_m rfl s6_13)
       have s8_14 : evA e_14 (.tmp 8) = _ := (congrArg (fun q => evA q (.tmp 8)) he_14).trans up_h
       have s9_14 : evA e_14 (.tmp 9) = _ := (congrArg (fun q => evA q (.tmp 9)) he_14).trans (up_m rfl s9_13)
       have s37_14 : evA e_14 (.tmp 37) = _ := (congrArg (fun q => evA q (.tmp 37)) he_14).trans (up_m rfl s37_13)
       have s38_14 : evA e_14 (.tmp 38) = _ := (congrArg (fun q => evA q (.tmp 38)) he_14).trans (up_m rfl s38_13)
       have s39_14 : evA e_14 (.tmp 39) = _ := (congrArg (fun q => evA q (.tmp 39)) he_14).trans (up_m rfl s39_13)
       clear hm_14 he_14
       refine aw_loop (S := (Int × Int × List (Int × Int))) (fun s e mem => match s with | ⟨i, la, ys⟩ => (evA e (.tmp 39) = .v (.int .i64 i)) ∧ (evA e (.tmp 9) = .v (.int .i64 la)) ∧ (evA e (.tmp 2) = evA e_14 (.tmp 2)) ∧ (evA e (.tmp 3) = evA e_14 (.tmp 3)) ∧ (evA e (.tmp 6) = evA e_14 (.tmp 6)) ∧ (evA e (.tmp 37) = evA e_14 (.tmp 37)) ∧ (evA e (.tmp 38) = evA e_14 (.tmp 38)) ∧ (mem[2]? = m_14[2]?) ∧ (mem[1]? = m_14[1]?) ∧ (mem[0]? = m_14[0]?) ∧ (∃ j, evA e (.tmp 8) = .own j ∧ mem[j]? = some (.row 42 2 (ys.map rE)) ∧ j ≠ 2 ∧ j ≠ 1 ∧ j ≠ 0) ∧ (∃ n, mem.length = n ∧ 4 ≤ n) ∧ ((0 ≤ i ∧ i ≤ (neaV t xs (wnd t).toNat).length ∧ ys = outV t T (T / t.per ∈ (neaV t xs (wnd t).toNat).take i.toNat)))) (fun s => match s with | ⟨i, la, ys⟩ => ((neaV t xs (wnd t).toNat).length - i).toNat) ⟨_, _, []⟩ ⟨s39_14, s9_14, rfl, rfl, rfl, rfl, rfl, rfl, rfl, rfl, ⟨_, s8_14, mo3_14, (by decide), (by decide), (by decide)⟩, ⟨_, ml_14, Nat.le_refl _⟩, ?_⟩ ?_
       · (exact ⟨by omega, by omega, by simp [outV]⟩)
       · rintro ⟨i, la, ys⟩ e_15 m_15 ⟨s39_15, s9_15, k2_15, k3_15, k6_15, k37_15, k38_15, mk2_15, mk1_15, mk0_15, ⟨j8_15, s8_15, mo_j8_15, nj8_2_15, nj8_1_15, nj8_0_15⟩, ⟨n_15, ml_15, hn_15⟩, hinv⟩
         have s2_15 := k2_15.trans s2_14
         have s3_15 := k3_15.trans s3_14
         have s6_15 := k6_15.trans s6_14
         have s37_15 := k37_15.trans s37_14
         have s38_15 := k38_15.trans s38_14
         have mo2_15 := mk2_15.trans mo2_14
         have mo1_15 := mk1_15.trans mo1_14
         have mo0_15 := mk0_15.trans mo0_14
         have jl8_15 := m_lt mo_j8_15 ml_15
         (obtain ⟨p1, p2, p3⟩ := hinv)
         refine aw_seq ?_
         refine aw_text (by kernel_rfl) ?_
         refine al_ro' (ro_lss s39_15 s38_15) trivial rfl ?_
         refine al_end (fun e_16 he_16 => ?_)
         have s2_16 := ef 2 he_16 (up_m rfl s2_15)
         have s3_16 := ef 3 he_16 (up_m rfl s3_15)
         have s6_16 := ef 6 he_16 (up_m rfl s6_15)
         have s8_16 := ef 8 he_16 (up_m rfl s8_15)
         have s9_16 := ef 9 he_16 (up_m rfl s9_15)
         have s37_16 := ef 37 he_16 (up_m rfl s37_15)
         have s38_16 := ef 38 he_16 (up_m rfl s38_15)
         have s39_16 := ef 39 he_16 (up_m rfl s39_15)
         have s40_16 := ef 40 he_16 up_h
         clear he_16 s2_15 s37_15 s38_15 s39_15 s3_15 s6_15 s8_15 s9_15
         refine then_n ?_
         refine aw_seq ?_
         refine aw_case s40_16 (fun hq_17 => ?_) (fun hq_17 => ?_)
         · (first | replace hq_17 := bnt hq_17 | replace hq_17 := bnf hq_17 | replace hq_17 := bt hq_17 | replace hq_17 := bf hq_17 | replace hq_17 := bt' hq_17 | replace hq_17 := bf' hq_17 | skip)
           first
           | (cases hq_17; done) | (exfalso; omega)
           | (
              (have hwm := getD_memI (l := (neaV t xs (wnd t).toNat)) (i := i.toNat) (by omega); have hwl := neaV_lt t xs hwm; have hmp := mul_per ht hwl.1 (by omega); have hnt := nodup_take hnd (i := i.toNat) (by omega); have hmid := hO.mid ht)
              refine aw_skip ?_
              refine then_n ?_
              refine aw_seq ?_
              refine aw_block ?_
              refine aw_seq ?_
              refine aw_text (by kernel_rfl) ?_
              refine al_ro' (ro_eq (ro_ix q5_sl22 s37_16 s39_16 (by first | decide | omega | (simp <;> omega)) (by first | (refine idx_map ?_; first | omega | (simp only [lnS]; omega)) | (refine idx_mapI ?_; first | omega | (simp only [lnS]; omega)) | (refine idx_mapN ?_; first | omega | (simp only [lnS]; omega)) | rfl)) (by first | (simp only [packA_t, packA_f, iE, bE, setAt, cellsA, Value.cells, map_vc, map_vn, Nat.reduceAdd, qS, rE, one_rE, app_m] <;> rfl) | rfl)) trivial rfl ?_
              refine al_ro' (ro_eq (ro_ld_ref q5_ty3 rfl up_h (by first | exact Nat.le_of_ble_eq_true rfl | omega | (simp only [lnS] <;> omega) | (simp <;> omega))) (by first | (simp only [packA_t, packA_f, iE, bE, setAt, cellsA, Value.cells, map_vc, map_vn, Nat.reduceAdd, qS, rE, one_rE, app_m] <;> rfl) | rfl)) trivial rfl ?_
              refine al_ro' (ro_assign up_h) trivial rfl ?_
              refine al_end (fun e_18 he_18 => ?_)
              have s2_18 := ef 2 he_18 (up_m rfl (u2 rfl s2_16))
              have s3_18 := ef 3 he_18 (up_m rfl (u2 rfl s3_16))
              have s6_18 := ef 6 he_18 (up_m rfl (u2 rfl s6_16))
              have s8_18 := ef 8 he_18 (up_m rfl (u2 rfl s8_16))
              have s9_18 := ef 9 he_18 (up_m rfl (u2 rfl s9_16))
              have s11_18 := ef 11 he_18 up_h
              have s37_18 := ef 37 he_18 (up_m rfl (u2 rfl s37_16))
              have s38_18 := ef 38 he_18 (up_m rfl (u2 rfl s38_16))
              have s39_18 := ef 39 he_18 (up_m rfl (u2 rfl s39_16))
              clear he_18 s2_16 s37_16 s38_16 s39_16 s3_16 s40_16 s6_16 s8_16 s9_16
              refine then_n ?_
              refine aw_seq ?_
              refine aw_text (by kernel_rfl) ?_
              refine al_ro' (ro_move s11_18) trivial rfl ?_
              refine al_ro' (ro_fld_ptr q5_fl24_3 rfl (up_m rfl s2_18)) trivial rfl ?_
              refine al_ro' (ro_eq (ro_ld_ptr q5_ty3 rfl mo0_15 up_h (by first | exact Nat.le_of_ble_eq_true rfl | omega | (simp only [lnS] <;> omega) | (simp <;> omega))) (by first | (simp only [packA_t, packA_f, iE, bE, setAt, cellsA, Value.cells, map_vc, map_vn, Nat.reduceAdd, qS, rE, one_rE, app_m] <;> rfl) | rfl)) trivial rfl ?_
              first | (refine al_ro' (ro_mul' (u2 rfl up_h) up_h ?_) trivial rfl ?_; · (unfold In64; omega)) | refine al_ro' (ro_mul (u2 rfl up_h) up_h) trivial rfl ?_
              refine al_ro' (ro_assign up_h) trivial rfl ?_
              refine al_end (fun e_19 he_19 => ?_)
              have s2_19 := ef 2 he_19 (up_m rfl (u4 rfl s2_18))
              have s3_19 := ef 3 he_19 (up_m rfl (u4 rfl s3_18))
              have s6_19 := ef 6 he_19 (up_m rfl (u4 rfl s6_18))
              have s8_19 := ef 8 he_19 (up_m rfl (u4 rfl s8_18))
              have s9_19 := ef 9 he_19 (up_m rfl (u4 rfl s9_18))
              have s11_19 := ef 11 he_19 (up_m rfl (u4 rfl s11_18))
              have s12_19 := ef 12 he_19 up_h
              have s37_19 := ef 37 he_19 (up_m rfl (u4 rfl s37_18))
              have s38_19 := ef 38 he_19 (up_m rfl (u4 rfl s38_18))
              have s39_19 := ef 39 he_19 (up_m rfl (u4 rfl s39_18))
              clear he_19 s11_18 s2_18 s37_18 s38_18 s39_18 s3_18 s6_18 s8_18 s9_18
              refine then_n ?_
              refine aw_block ?_
              refine aw_loop (S := (Int × Int × List (Int × Int))) (fun s e mem => match s with | ⟨k, lb, zs⟩ => (evA e (.tmp 12) = .v (.int .i64 k)) ∧ (evA e (.tmp 9) = .v (.int .i64 lb)) ∧ (evA e (.tmp 2) = evA e_19 (.tmp 2)) ∧ (evA e (.tmp 3) = evA e_19 (.tmp 3)) ∧ (evA e (.tmp 6) = evA e_19 (.tmp 6)) ∧ (evA e (.tmp 11) = evA e_19 (.tmp 11)) ∧ (evA e (.tmp 37) = evA e_19 (.tmp 37)) ∧ (evA e (.tmp 38) = evA e_19 (.tmp 38)) ∧ (evA e (.tmp 39) = evA e_19 (.tmp 39)) ∧ (mem[2]? = m_15[2]?) ∧ (mem[1]? = m_15[1]?) ∧ (mem[0]? = m_15[0]?) ∧ (∃ j, evA e (.tmp 8) = .own j ∧ mem[j]? = some (.row 42 2 (zs.map rE)) ∧ j ≠ 2 ∧ j ≠ 1 ∧ j ≠ 0) ∧ (∃ n, mem.length = n ∧ n_15 ≤ n) ∧ (((neaV t xs (wnd t).toNat).getD i.toNat default * t.per ≤ k ∧ k ≤ (neaV t xs (wnd t).toNat).getD i.toNat default * t.per + t.per ∧ zs = outV t T (T / t.per ∈ (neaV t xs (wnd t).toNat).take i.toNat ∨ (T / t.per = (neaV t xs (wnd t).toNat).getD i.toNat default ∧ T < k))))) (fun s => match s with | ⟨k, lb, zs⟩ => ((neaV t xs (wnd t).toNat).getD i.toNat default * t.per + t.per - k).toNat) ⟨_, _, ys⟩ ⟨s12_19, s9_19, rfl, rfl, rfl, rfl, rfl, rfl, rfl, rfl, rfl, rfl, ⟨_, s8_19, mo_j8_15, (by omega), (by omega), (by omega)⟩, ⟨_, ml_15, Nat.le_refl _⟩, ?_⟩ ?_
              · (refine ⟨by omega, by omega, ?_⟩; rw [p3]; refine outV_congr ⟨fun h => .inl h, fun h => ?_⟩; rcases h with h | ⟨h, h'⟩; (exact h); (rw [h] at hmid; omega))
              · rintro ⟨k, lb, zs⟩ e_20 m_20 ⟨s12_20, s9_20, k2_20, k3_20, k6_20, k11_20, k37_20, k38_20, k39_20, mk2_20, mk1_20, mk0_20, ⟨j8_20, s8_20, mo_j8_20, nj8_2_20, nj8_1_20, nj8_0_20⟩, ⟨n_20, ml_20, hn_20⟩, hinv⟩
                have s2_20 := k2_20.trans s2_19
                have s3_20 := k3_20.trans s3_19
                have s6_20 := k6_20.trans s6_19
                have s11_20 := k11_20.trans s11_19
                have s37_20 := k37_20.trans s37_19
                have s38_20 := k38_20.trans s38_19
                have s39_20 := k39_20.trans s39_19
                have mo2_20 := mk2_20.trans mo2_15
                have mo1_20 := mk1_20.trans mo1_15
                have mo0_20 := mk0_20.trans mo0_15
                have jl8_20 := m_lt mo_j8_20 ml_20
                (obtain ⟨r1, r2, r3⟩ := hinv; have hob := off_bd ht hc (tooth := k) (by omega); unfold offW at hob)
                refine aw_seq ?_
                refine aw_seq ?_
                refine aw_text (by kernel_rfl) ?_
                refine al_ro' (ro_move s12_20) trivial rfl ?_
                refine al_ro' (ro_move (up_m rfl s11_20)) trivial rfl ?_
                first | (refine al_ro' (ro_add' up_h ev_c ?_) trivial rfl ?_; · (unfold In64; omega)) | refine al_ro' (ro_add up_h ev_c) trivial rfl ?_
                refine al_ro' (ro_fld_ptr q5_fl24_3 rfl (up_m rfl (u2 rfl s2_20))) trivial rfl ?_
                refine al_ro' (ro_eq (ro_ld_ptr q5_ty3 rfl mo0_20 up_h (by first | exact Nat.le_of_ble_eq_true rfl | omega | (simp only [lnS] <;> omega) | (simp <;> omega))) (by first | (simp only [packA_t, packA_f, iE, bE, setAt, cellsA, Value.cells, map_vc, map_vn, Nat.reduceAdd, qS, rE, one_rE, app_m] <;> rfl) | rfl)) trivial rfl ?_
                first | (refine al_ro' (ro_mul' (u2 rfl up_h) up_h ?_) trivial rfl ?_; · (unfold In64; omega)) | refine al_ro' (ro_mul (u2 rfl up_h) up_h) trivial rfl ?_
                refine al_ro' (ro_lss (up_m rfl (u4 rfl up_h)) up_h) trivial rfl ?_
                refine al_end (fun e_21 he_21 => ?_)
                have s2_21 := ef 2 he_21 (up_m rfl (u2 rfl (u4 rfl s2_20)))
                have s3_21 := ef 3 he_21 (up_m rfl (u2 rfl (u4 rfl s3_20)))
                have s6_21 := ef 6 he_21 (up_m rfl (u2 rfl (u4 rfl s6_20)))
                have s8_21 := ef 8 he_21 (up_m rfl (u2 rfl (u4 rfl s8_20)))
                have s9_21 := ef 9 he_21 (up_m rfl (u2 rfl (u4 rfl s9_20)))
                have s11_21 := ef 11 he_21 (up_m rfl (u2 rfl (u4 rfl s11_20)))
                have s12_21 := ef 12 he_21 (up_m rfl (u2 rfl (u4 rfl s12_20)))
                have s37_21 := ef 37 he_21 (up_m rfl (u2 rfl (u4 rfl s37_20)))
                have s38_21 := ef 38 he_21 (up_m rfl (u2 rfl (u4 rfl s38_20)))
                have s39_21 := ef 39 he_21 (up_m rfl (u2 rfl (u4 rfl s39_20)))
                have s53_21 := ef 53 he_21 up_h
                clear he_21 s11_20 s12_20 s2_20 s37_20 s38_20 s39_20 s3_20 s6_20 s8_20 s9_20
                refine then_n ?_
                refine aw_case s53_21 (fun hq_22 => ?_) (fun hq_22 => ?_)
                · (first | replace hq_22 := bnt hq_22 | replace hq_22 := bnf hq_22 | replace hq_22 := bt hq_22 | replace hq_22 := bf hq_22 | replace hq_22 := bt' hq_22 | replace hq_22 := bf' hq_22 | skip)
                  first
                  | (cases hq_22; done) | (exfalso; omega)
                  | (
                     (have hu := hO.uni _ hwm k r1 (by omega))
                     refine aw_skip ?_
                     refine then_n ?_
                     refine aw_seq ?_
                     refine aw_block ?_
                     refine aw_seq ?_
                     refine aw_draw 14 (by kernel_rfl) (by kernel_rfl) (by kernel_rfl) (by kernel_rfl) ?_
                     refine ds_ro' (ro_move s12_21) trivial rfl ?_
                     refine ds_ro' (ro_fld_ptr q5_fl24_5 rfl (up_m rfl s2_21)) trivial rfl ?_
                     refine ds_ro' (ro_eq (ro_ld_ptr q5_ty3 rfl mo0_20 up_h (by first | exact Nat.le_of_ble_eq_true rfl | omega | (simp only [lnS] <;> omega) | (simp <;> omega))) (by first | (simp only [packA_t, packA_f, iE, bE, setAt, cellsA, Value.cells, map_vc, map_vn, Nat.reduceAdd, qS, rE, one_rE, app_m] <;> rfl) | rfl)) trivial rfl ?_
                     refine ds_ro' (ro_rem (u2 rfl up_h) up_h (by first | decide | omega)) trivial rfl ?_
                     refine ds_ro' (ro_fld_ptr q5_fl24_5 rfl (u4 rfl s2_21)) trivial rfl ?_
                     refine ds_ro' (ro_eq (ro_ld_ptr q5_ty3 rfl mo0_20 up_h (by first | exact Nat.le_of_ble_eq_true rfl | omega | (simp only [lnS] <;> omega) | (simp <;> omega))) (by first | (simp only [packA_t, packA_f, iE, bE, setAt, cellsA, Value.cells, map_vc, map_vn, Nat.reduceAdd, qS, rE, one_rE, app_m] <;> rfl) | rfl)) trivial rfl ?_
                     first | (refine ds_ro' (ro_add' (u2 rfl up_h) up_h ?_) trivial rfl ?_; · (unfold In64; omega)) | refine ds_ro' (ro_add (u2 rfl up_h) up_h) trivial rfl ?_
                     refine ds_ro' (ro_fld_ptr q5_fl46_1 rfl (up_m rfl (u2 rfl (u4 rfl s3_21)))) trivial rfl ?_
                     refine ds_ro' (ro_eq (ro_ld_ptr q5_ty3 rfl mo1_20 up_h (by first | exact Nat.le_of_ble_eq_true rfl | omega | (simp only [lnS] <;> omega) | (simp <;> omega))) (by first | (simp only [packA_t, packA_f, iE, bE, setAt, cellsA, Value.cells, map_vc, map_vn, Nat.reduceAdd, qS, rE, one_rE, app_m] <;> rfl) | rfl)) trivial rfl ?_
                     first | (refine ds_ro' (ro_sub' (u2 rfl up_h) up_h ?_) trivial rfl ?_; · (unfold In64; omega)) | refine ds_ro' (ro_sub (u2 rfl up_h) up_h) trivial rfl ?_
                     refine ds_ro' (ro_fld_ptr q5_fl24_5 rfl (u2 rfl (u8 rfl s2_21))) trivial rfl ?_
                     refine ds_ro' (ro_eq (ro_ld_ptr q5_ty3 rfl mo0_20 up_h (by first | exact Nat.le_of_ble_eq_true rfl | omega | (simp only [lnS] <;> omega) | (simp <;> omega))) (by first | (simp only [packA_t, packA_f, iE, bE, setAt, cellsA, Value.cells, map_vc, map_vn, Nat.reduceAdd, qS, rE, one_rE, app_m] <;> rfl) | rfl)) trivial rfl ?_
                     refine ds_ro' (ro_rem (u2 rfl up_h) up_h (by first | decide | omega)) trivial rfl ?_
                     refine ds_ro' (ro_assign up_h) trivial rfl ?_
                     refine ds_nil ?_
                     refine al_end (fun e_23 he_23 => ?_)
                     have s2_23 := ef 2 he_23 (u2 rfl (u4 rfl (u8 rfl s2_21)))
                     have s3_23 := ef 3 he_23 (u2 rfl (u4 rfl (u8 rfl s3_21)))
                     have s6_23 := ef 6 he_23 (u2 rfl (u4 rfl (u8 rfl s6_21)))
                     have s8_23 := ef 8 he_23 (u2 rfl (u4 rfl (u8 rfl s8_21)))
                     have s9_23 := ef 9 he_23 (u2 rfl (u4 rfl (u8 rfl s9_21)))
                     have s11_23 := ef 11 he_23 (u2 rfl (u4 rfl (u8 rfl s11_21)))
                     have s12_23 := ef 12 he_23 (u2 rfl (u4 rfl (u8 rfl s12_21)))
                     have s13_23 := ef 13 he_23 up_h
                     have s37_23 := ef 37 he_23 (u2 rfl (u4 rfl (u8 rfl s37_21)))
                     have s38_23 := ef 38 he_23 (u2 rfl (u4 rfl (u8 rfl s38_21)))
                     have s39_23 := ef 39 he_23 (u2 rfl (u4 rfl (u8 rfl s39_21)))
                     clear he_23 s11_21 s12_21 s2_21 s37_21 s38_21 s39_21 s3_21 s53_21 s6_21 s8_21 s9_21
                     refine then_n ?_
                     refine aw_seq ?_
                     refine aw_seq ?_
                     refine aw_text (by kernel_rfl) ?_
                     refine al_ro' (ro_move s13_23) trivial rfl ?_
                     refine al_ro' (ro_fld_ptr q5_fl24_5 rfl (up_m rfl s2_23)) trivial rfl ?_
                     refine al_ro' (ro_eq (ro_ld_ptr q5_ty3 rfl mo0_20 up_h (by first | exact Nat.le_of_ble_eq_true rfl | omega | (simp only [lnS] <;> omega) | (simp <;> omega))) (by first | (simp only [packA_t, packA_f, iE, bE, setAt, cellsA, Value.cells, map_vc, map_vn, Nat.reduceAdd, qS, rE, one_rE, app_m] <;> rfl) | rfl)) trivial rfl ?_
                     refine al_ro' (ro_move (up_m rfl (u2 rfl s13_23))) trivial rfl ?_
                     first | (refine al_ro' (ro_sub' (up_m rfl up_h) up_h ?_) trivial rfl ?_; · (unfold In64; omega)) | refine al_ro' (ro_sub (up_m rfl up_h) up_h) trivial rfl ?_
                     refine al_ro' (ro_min (u4 rfl up_h) up_h) trivial rfl ?_
                     refine al_ro' (ro_fld_ptr q5_fl24_6 rfl (u2 rfl (u4 rfl s2_23))) trivial rfl ?_
                     refine al_ro' (ro_eq (ro_ld_ptr q5_ty3 rfl mo0_20 up_h (by first | exact Nat.le_of_ble_eq_true rfl | omega | (simp only [lnS] <;> omega) | (simp <;> omega))) (by first | (simp only [packA_t, packA_f, iE, bE, setAt, cellsA, Value.cells, map_vc, map_vn, Nat.reduceAdd, qS, rE, one_rE, app_m] <;> rfl) | rfl)) trivial rfl ?_
                     refine al_ro' (ro_gtr (u2 rfl up_h) up_h) trivial rfl ?_
                     refine al_end (fun e_24 he_24 => ?_)
                     have s2_24 := ef 2 he_24 (up_m rfl (u8 rfl s2_23))
                     have s3_24 := ef 3 he_24 (up_m rfl (u8 rfl s3_23))
                     have s6_24 := ef 6 he_24 (up_m rfl (u8 rfl s6_23))
                     have s8_24 := ef 8 he_24 (up_m rfl (u8 rfl s8_23))
                     have s9_24 := ef 9 he_24 (up_m rfl (u8 rfl s9_23))
                     have s11_24 := ef 11 he_24 (up_m rfl (u8 rfl s11_23))
                     have s12_24 := ef 12 he_24 (up_m rfl (u8 rfl s12_23))
                     have s37_24 := ef 37 he_24 (up_m rfl (u8 rfl s37_23))
                     have s38_24 := ef 38 he_24 (up_m rfl (u8 rfl s38_23))
                     have s39_24 := ef 39 he_24 (up_m rfl (u8 rfl s39_23))
                     have s77_24 := ef 77 he_24 up_h
                     clear he_24 s11_23 s12_23 s13_23 s2_23 s37_23 s38_23 s39_23 s3_23 s6_23 s8_23 s9_23
                     refine then_n ?_
                     refine aw_case s77_24 (fun hq_25 => ?_) (fun hq_25 => ?_)
                     · (first | replace hq_25 := bnt hq_25 | replace hq_25 := bnf hq_25 | replace hq_25 := bt hq_25 | replace hq_25 := bf hq_25 | replace hq_25 := bt' hq_25 | replace hq_25 := bf' hq_25 | skip)
                       first
                       | (cases hq_25; done) | (exfalso; omega)
                       | (
                          refine aw_exit ?_
                          refine then_x ?_
                          refine block_hit ?_
                          refine then_n ?_
                          refine aw_text (by kernel_rfl) ?_
                          refine al_ro' (ro_move s12_24) trivial rfl ?_
                          first | (refine al_ro' (ro_add' up_h ev_c ?_) trivial rfl ?_; · (unfold In64; omega)) | refine al_ro' (ro_add up_h ev_c) trivial rfl ?_
                          refine al_ro' (ro_assign up_h) trivial rfl ?_
                          refine al_end (fun e_26 he_26 => ?_)
                          have s2_26 := ef 2 he_26 (up_m rfl (u2 rfl s2_24))
                          have s3_26 := ef 3 he_26 (up_m rfl (u2 rfl s3_24))
                          have s6_26 := ef 6 he_26 (up_m rfl (u2 rfl s6_24))
                          have s8_26 := ef 8 he_26 (up_m rfl (u2 rfl s8_24))
                          have s9_26 := ef 9 he_26 (up_m rfl (u2 rfl s9_24))
                          have s11_26 := ef 11 he_26 (up_m rfl (u2 rfl s11_24))
                          have s12_26 := ef 12 he_26 up_h
                          have s37_26 := ef 37 he_26 (up_m rfl (u2 rfl s37_24))
                          have s38_26 := ef 38 he_26 (up_m rfl (u2 rfl s38_24))
                          have s39_26 := ef 39 he_26 (up_m rfl (u2 rfl s39_24))
                          clear he_26 s11_24 s12_24 s2_24 s37_24 s38_24 s39_24 s3_24 s6_24 s77_24 s8_24 s9_24
                          refine then_n ?_
                          refine ⟨⟨_, _, _⟩, ⟨s12_26, s9_26, (s2_26.trans s2_19.symm), (s3_26.trans s3_19.symm), (s6_26.trans s6_19.symm), (s11_26.trans s11_19.symm), (s37_26.trans s37_19.symm), (s38_26.trans s38_19.symm), (s39_26.trans s39_19.symm), (mo2_20.trans mo2_15.symm), (mo1_20.trans mo1_15.symm), (mo0_20.trans mo0_15.symm), ⟨_, s8_26, mo_j8_20, nj8_2_20, nj8_1_20, nj8_0_20⟩, ⟨_, ml_20, by omega⟩, ?_⟩, ?_⟩
                          · (refine ⟨by omega, by omega, ?_⟩; first | (rw [hz]; unfold outV; rw [if_pos (.inr ⟨hTw, by omega⟩), hkT]; rfl) | (have hne : k ≠ T := (fun e => (hu.2 e) (by unfold offW; assumption)); rw [r3]; exact outV_congr ⟨fun h => h.imp id fun h => ⟨h.1, by omega⟩, fun h => h.imp id fun h => ⟨h.1, by omega⟩⟩))
                          · ((try dsimp only); omega))
                     · (first | replace hq_25 := bnt hq_25 | replace hq_25 := bnf hq_25 | replace hq_25 := bt hq_25 | replace hq_25 := bf hq_25 | replace hq_25 := bt' hq_25 | replace hq_25 := bf' hq_25 | skip)
                       first
                       | (cases hq_25; done) | (exfalso; omega)
                       | (
                          (have hkT : k = T := (hu.1 (by unfold pasB offW; assumption)); have hTw : T / t.per = (neaV t xs (wnd t).toNat).getD i.toNat default := hO.other ht ⟨by omega, by omega⟩; have hz : zs = [] := (by rw [r3]; unfold outV; rw [if_neg]; rintro (h | ⟨_, h⟩); (rw [hTw] at h; exact hnt h); omega); have hzl : zs.length = 0 := (by rw [hz]; rfl))
                          refine aw_skip ?_
                          refine then_n ?_
                          refine aw_seq ?_
                          refine aw_seq ?_
                          refine aw_text (by kernel_rfl) ?_
                          refine al_ro' (ro_move s8_24) trivial rfl ?_
                          refine al_ro' (ro_eq (ro_len_own up_h mo_j8_20 rfl q5_sl97.1) (by first | (simp only [lnS] <;> rfl) | rfl)) trivial rfl ?_
                          refine al_ro' (ro_gtr up_h ev_c) trivial rfl ?_
                          refine al_ro' (ro_move up_h) trivial rfl ?_
                          refine al_case up_h (fun hb_27 hq_27 => ?_) (fun hb_27 hq_27 => ?_)
                          · (first | replace hq_27 := bnt hq_27 | replace hq_27 := bnf hq_27 | replace hq_27 := bt hq_27 | replace hq_27 := bf hq_27 | replace hq_27 := bt' hq_27 | replace hq_27 := bf' hq_27 | skip)
                            first
                            | (cases hq_27; done) | (exfalso; omega)
                            | (
                               refine al_ro' (ro_move (u4 rfl s9_24)) ⟨_, rfl, hb_27⟩ rfl ?_
                               refine al_ro' (ro_move (up_m rfl (u4 rfl s12_24))) ⟨_, rfl, (up_m rfl hb_27)⟩ rfl ?_
                               first | (refine al_ro' (ro_sub' up_h ev_c ?_) ⟨_, rfl, (u2 rfl hb_27)⟩ rfl ?_; · (unfold In64; omega)) | refine al_ro' (ro_sub up_h ev_c) ⟨_, rfl, (u2 rfl hb_27)⟩ rfl ?_
                               refine al_ro' (ro_eql (u2 rfl up_h) up_h) ⟨_, rfl, (up_m rfl (u2 rfl hb_27))⟩ rfl ?_
                               refine al_ro' (ro_pickT (u4 rfl hb_27) up_h) trivial rfl ?_
                               refine al_end (fun e_28 he_28 => ?_)
                               have s2_28 := ef 2 he_28 (up_m rfl (u8 rfl s2_24))
                               have s3_28 := ef 3 he_28 (up_m rfl (u8 rfl s3_24))
                               have s6_28 := ef 6 he_28 (up_m rfl (u8 rfl s6_24))
                               have s8_28 := ef 8 he_28 (up_m rfl (u8 rfl s8_24))
                               have s11_28 := ef 11 he_28 (up_m rfl (u8 rfl s11_24))
                               have s12_28 := ef 12 he_28 (up_m rfl (u8 rfl s12_24))
                               have s37_28 := ef 37 he_28 (up_m rfl (u8 rfl s37_24))
                               have s38_28 := ef 38 he_28 (up_m rfl (u8 rfl s38_24))
                               have s39_28 := ef 39 he_28 (up_m rfl (u8 rfl s39_24))
                               have s86_28 := ef 86 he_28 up_h
                               clear he_28 hb_27 s11_24 s12_24 s2_24 s37_24 s38_24 s39_24 s3_24 s6_24 s77_24 s8_24 s9_24
                               refine then_n ?_
                               refine aw_case s86_28 (fun hq_29 => ?_) (fun hq_29 => ?_)
                               · (first | replace hq_29 := bnt hq_29 | replace hq_29 := bnf hq_29 | replace hq_29 := bt hq_29 | replace hq_29 := bf hq_29 | replace hq_29 := bt' hq_29 | replace hq_29 := bf' hq_29 | skip)
                                 first
                                 | (cases hq_29; done) | (exfalso; omega)
                                 | (
                                    refine aw_text (by kernel_rfl) ?_
                                    refine al_ro' (ro_move s8_28) trivial rfl ?_
                                    refine al_ro' (ro_move (up_m rfl s8_28)) trivial rfl ?_
                                    refine al_ro' (ro_eq (ro_len_own up_h mo_j8_20 rfl q5_sl97.1) (by first | (simp only [lnS] <;> rfl) | rfl)) trivial rfl ?_
                                    first | (refine al_ro' (ro_sub' up_h ev_c ?_) trivial rfl ?_; · (unfold In64; omega)) | refine al_ro' (ro_sub up_h ev_c) trivial rfl ?_
                                    refine al_ro' (ro_eq (ro_ld_ptr q5_ty90 rfl mo2_20 (u4 rfl s6_28) (by first | exact Nat.le_of_ble_eq_true rfl | omega | (simp only [lnS] <;> omega) | (simp <;> omega))) (by first | (simp only [packA_t, packA_f, iE, bE, setAt, cellsA, Value.cells, map_vc, map_vn, Nat.reduceAdd, qS, rE, one_rE, app_m] <;> rfl) | rfl)) trivial rfl ?_
                                    refine al_ro' (ro_move (up_m rfl (u4 rfl s12_28))) trivial rfl ?_
                                    refine al_ro' (ro_move (u2 rfl (u4 rfl s12_28))) trivial rfl ?_
                                    refine al_ro' (ro_call (evL_cons (u2 rfl up_h) (evL_cons (up_m rfl up_h) (evL_cons up_h evL_nil))) rfl (qPlaces_ok t ht k (by omega)) q5_hcf51) trivial rfl ?_
                                    refine al_ro' (ro_eq (ro_fld q5_fl42_1 up_h (by first | exact Nat.le_of_ble_eq_true rfl | omega | (simp only [lnS] <;> omega) | (simp <;> omega)) rfl) (by first | (simp only [packA_t, packA_f, iE, bE, setAt, cellsA, Value.cells, map_vc, map_vn, Nat.reduceAdd, qS, rE, one_rE, app_m] <;> rfl) | rfl)) trivial rfl ?_
                                    refine al_ro' (ro_ix_own q5_sl97 mo_j8_20 (u8 rfl up_h) (up_m rfl (u4 rfl up_h)) (by first | decide | omega | (simp <;> omega)) (by first | omega | (simp only [lnS] <;> omega) | (simp <;> omega))) trivial rfl ?_
                                    fail "STOPPED fieldAddr of ('el', 'j8_20')")
                               · (first | replace hq_29 := bnt hq_29 | replace hq_29 := bnf hq_29 | replace hq_29 := bt hq_29 | replace hq_29 := bf hq_29 | replace hq_29 := bt' hq_29 | replace hq_29 := bf' hq_29 | skip)
                                 first
                                 | (cases hq_29; done) | (exfalso; omega)
                                 | (
                                    refine aw_text (by kernel_rfl) ?_
                                    refine al_ro' (ro_move s8_28) trivial rfl ?_
                                    refine al_ro' (ro_eq (ro_ld_ptr q5_ty90 rfl mo2_20 (up_m rfl s6_28) (by first | exact Nat.le_of_ble_eq_true rfl | omega | (simp only [lnS] <;> omega) | (simp <;> omega))) (by first | (simp only [packA_t, packA_f, iE, bE, setAt, cellsA, Value.cells, map_vc, map_vn, Nat.reduceAdd, qS, rE, one_rE, app_m] <;> rfl) | rfl)) trivial rfl ?_
                                    refine al_ro' (ro_move (u2 rfl s12_28)) trivial rfl ?_
                                    refine al_ro' (ro_move (up_m rfl (u2 rfl s12_28))) trivial rfl ?_
                                    refine al_ro' (ro_call (evL_cons (u2 rfl up_h) (evL_cons (up_m rfl up_h) (evL_cons up_h evL_nil))) rfl (qPlaces_ok t ht k (by omega)) q5_hcf51) trivial rfl ?_
                                    refine al_ro' (ro_lit q5_sl97 (evP_cons up_h evP_nil) rfl rfl rfl rfl) trivial rfl ?_
                                    refine al_stm (st_app q5_sl97 rfl ml_20 mo_j8_20 (up_m rfl (u4 rfl up_h)) up_h (by first | rfl | (simp [oneA]; done)) (by first | omega | (simp only [lnS] <;> omega) | (simp <;> omega))) trivial rfl (fun m_30 hm_30 => ?_)
                                    have mon_20_30 := m_swap hm_30 ml_20
                                    (try simp only [packA_t, packA_f, iE, bE, setAt, cellsA, Value.cells, map_vc, map_vn, Nat.reduceAdd, qS, rE, one_rE, app_m] at mon_20_30)
                                    have mo2_30 := m_swap_o hm_30 mo2_20 (by omega)
                                    have mo1_30 := m_swap_o hm_30 mo1_20 (by omega)
                                    have mo0_30 := m_swap_o hm_30 mo0_20 (by omega)
                                    have ml_30 := m_swap_l hm_30 ml_20
                                    clear hm_30 mo2_20 mo1_20 mo0_20 mo_j8_20
                                    refine al_ro' (ro_assign up_h) trivial rfl ?_
                                    refine al_end (fun e_31 he_31 => ?_)
                                    have s2_31 := ef 2 he_31 (u8 rfl s2_28)
                                    have s3_31 := ef 3 he_31 (u8 rfl s3_28)
                                    have s6_31 := ef 6 he_31 (u8 rfl s6_28)
                                    have s8_31 := ef 8 he_31 up_h
                                    have s11_31 := ef 11 he_31 (u8 rfl s11_28)
                                    have s12_31 := ef 12 he_31 (u8 rfl s12_28)
                                    have s37_31 := ef 37 he_31 (u8 rfl s37_28)
                                    have s38_31 := ef 38 he_31 (u8 rfl s38_28)
                                    have s39_31 := ef 39 he_31 (u8 rfl s39_28)
                                    clear he_31 s11_28 s12_28 s2_28 s37_28 s38_28 s39_28 s3_28 s6_28 s86_28 s8_28
                                    refine then_n ?_
                                    refine aw_text (by kernel_rfl) ?_
                                    refine al_ro' (ro_move s12_31) trivial rfl ?_
                                    refine al_ro' (ro_assign up_h) trivial rfl ?_
                                    refine al_end (fun e_32 he_32 => ?_)
                                    have s2_32 := ef 2 he_32 (u2 rfl s2_31)
                                    have s3_32 := ef 3 he_32 (u2 rfl s3_31)
                                    have s6_32 := ef 6 he_32 (u2 rfl s6_31)
                                    have s8_32 := ef 8 he_32 (u2 rfl s8_31)
                                    have s9_32 := ef 9 he_32 up_h
                                    have s11_32 := ef 11 he_32 (u2 rfl s11_31)
                                    have s12_32 := ef 12 he_32 (u2 rfl s12_31)
                                    have s37_32 := ef 37 he_32 (u2 rfl s37_31)
                                    have s38_32 := ef 38 he_32 (u2 rfl s38_31)
                                    have s39_32 := ef 39 he_32 (u2 rfl s39_31)
                                    clear he_32 s11_31 s12_31 s2_31 s37_31 s38_31 s39_31 s3_31 s6_31 s8_31
                                    refine block_n ?_
                                    refine then_n ?_
                                    refine aw_text (by kernel_rfl) ?_
                                    refine al_ro' (ro_move s12_32) trivial rfl ?_
                                    first | (refine al_ro' (ro_add' up_h ev_c ?_) trivial rfl ?_; · (unfold In64; omega)) | refine al_ro' (ro_add up_h ev_c) trivial rfl ?_
                                    refine al_ro' (ro_assign up_h) trivial rfl ?_
                                    refine al_end (fun e_33 he_33 => ?_)
                                    have s2_33 := ef 2 he_33 (up_m rfl (u2 rfl s2_32))
                                    have s3_33 := ef 3 he_33 (up_m rfl (u2 rfl s3_32))
                                    have s6_33 := ef 6 he_33 (up_m rfl (u2 rfl s6_32))
                                    have s8_33 := ef 8 he_33 (up_m rfl (u2 rfl s8_32))
                                    have s9_33 := ef 9 he_33 (up_m rfl (u2 rfl s9_32))
                                    have s11_33 := ef 11 he_33 (up_m rfl (u2 rfl s11_32))
                                    have s12_33 := ef 12 he_33 up_h
                                    have s37_33 := ef 37 he_33 (up_m rfl (u2 rfl s37_32))
                                    have s38_33 := ef 38 he_33 (up_m rfl (u2 rfl s38_32))
                                    have s39_33 := ef 39 he_33 (up_m rfl (u2 rfl s39_32))
                                    clear he_33 s11_32 s12_32 s2_32 s37_32 s38_32 s39_32 s3_32 s6_32 s8_32 s9_32
                                    refine then_n ?_
                                    refine ⟨⟨_, _, _⟩, ⟨s12_33, s9_33, (s2_33.trans s2_19.symm), (s3_33.trans s3_19.symm), (s6_33.trans s6_19.symm), (s11_33.trans s11_19.symm), (s37_33.trans s37_19.symm), (s38_33.trans s38_19.symm), (s39_33.trans s39_19.symm), (mo2_30.trans mo2_15.symm), (mo1_30.trans mo1_15.symm), (mo0_30.trans mo0_15.symm), ⟨_, s8_33, mon_20_30, (by omega), (by omega), (by omega)⟩, ⟨_, ml_30, by omega⟩, ?_⟩, ?_⟩
                                    · (refine ⟨by omega, by omega, ?_⟩; first | (rw [hz]; unfold outV; rw [if_pos (.inr ⟨hTw, by omega⟩), hkT]; rfl) | (have hne : k ≠ T := (fun e => (hu.2 e) (by unfold offW; assumption)); rw [r3]; exact outV_congr ⟨fun h => h.imp id fun h => ⟨h.1, by omega⟩, fun h => h.imp id fun h => ⟨h.1, by omega⟩⟩))
                                    · ((try dsimp only); omega)))
                          · (first | replace hq_27 := bnt hq_27 | replace hq_27 := bnf hq_27 | replace hq_27 := bt hq_27 | replace hq_27 := bf hq_27 | replace hq_27 := bt' hq_27 | replace hq_27 := bf' hq_27 | skip)
                            first
                            | (cases hq_27; done) | (exfalso; omega)
                            | (
                               refine al_skip' ⟨_, rfl, .inl hb_27⟩ rfl ?_
                               refine al_skip' ⟨_, rfl, .inl (up_m rfl hb_27)⟩ rfl ?_
                               refine al_skip' ⟨_, rfl, .inl (u2 rfl hb_27)⟩ rfl ?_
                               refine al_skip' ⟨_, rfl, .inl (up_m rfl (u2 rfl hb_27))⟩ rfl ?_
                               refine al_ro' (ro_pickF (u4 rfl hb_27) ev_c) trivial rfl ?_
                               refine al_end (fun e_34 he_34 => ?_)
                               have s2_34 := ef 2 he_34 (up_m rfl (u8 rfl s2_24))
                               have s3_34 := ef 3 he_34 (up_m rfl (u8 rfl s3_24))
                               have s6_34 := ef 6 he_34 (up_m rfl (u8 rfl s6_24))
                               have s8_34 := ef 8 he_34 (up_m rfl (u8 rfl s8_24))
                               have s11_34 := ef 11 he_34 (up_m rfl (u8 rfl s11_24))
                               have s12_34 := ef 12 he_34 (up_m rfl (u8 rfl s12_24))
                               have s37_34 := ef 37 he_34 (up_m rfl (u8 rfl s37_24))
                               have s38_34 := ef 38 he_34 (up_m rfl (u8 rfl s38_24))
                               have s39_34 := ef 39 he_34 (up_m rfl (u8 rfl s39_24))
                               have s86_34 := ef 86 he_34 up_h
                               clear he_34 hb_27 s11_24 s12_24 s2_24 s37_24 s38_24 s39_24 s3_24 s6_24 s77_24 s8_24 s9_24
                               refine then_n ?_
                               refine aw_false s86_34 ?_
                               refine aw_text (by kernel_rfl) ?_
                               refine al_ro' (ro_move s8_34) trivial rfl ?_
                               refine al_ro' (ro_eq (ro_ld_ptr q5_ty90 rfl mo2_20 (up_m rfl s6_34) (by first | exact Nat.le_of_ble_eq_true rfl | omega | (simp only [lnS] <;> omega) | (simp <;> omega))) (by first | (simp only [packA_t, packA_f, iE, bE, setAt, cellsA, Value.cells, map_vc, map_vn, Nat.reduceAdd, qS, rE, one_rE, app_m] <;> rfl) | rfl)) trivial rfl ?_
                               refine al_ro' (ro_move (u2 rfl s12_34)) trivial rfl ?_
                               refine al_ro' (ro_move (up_m rfl (u2 rfl s12_34))) trivial rfl ?_
                               refine al_ro' (ro_call (evL_cons (u2 rfl up_h) (evL_cons (up_m rfl up_h) (evL_cons up_h evL_nil))) rfl (qPlaces_ok t ht k (by omega)) q5_hcf51) trivial rfl ?_
                               refine al_ro' (ro_lit q5_sl97 (evP_cons up_h evP_nil) rfl rfl rfl rfl) trivial rfl ?_
                               refine al_stm (st_app q5_sl97 rfl ml_20 mo_j8_20 (up_m rfl (u4 rfl up_h)) up_h (by first | rfl | (simp [oneA]; done)) (by first | omega | (simp only [lnS] <;> omega) | (simp <;> omega))) trivial rfl (fun m_36 hm_36 => ?_)
                               have mon_20_36 := m_swap hm_36 ml_20
                               (try simp only [packA_t, packA_f, iE, bE, setAt, cellsA, Value.cells, map_vc, map_vn, Nat.reduceAdd, qS, rE, one_rE, app_m] at mon_20_36)
                               have mo2_36 := m_swap_o hm_36 mo2_20 (by omega)
                               have mo1_36 := m_swap_o hm_36 mo1_20 (by omega)
                               have mo0_36 := m_swap_o hm_36 mo0_20 (by omega)
                               have ml_36 := m_swap_l hm_36 ml_20
                               clear hm_36 mo2_20 mo1_20 mo0_20 mo_j8_20
                               refine al_ro' (ro_assign up_h) trivial rfl ?_
                               refine al_end (fun e_37 he_37 => ?_)
                               have s2_37 := ef 2 he_37 (u8 rfl s2_34)
                               have s3_37 := ef 3 he_37 (u8 rfl s3_34)
                               have s6_37 := ef 6 he_37 (u8 rfl s6_34)
                               have s8_37 := ef 8 he_37 up_h
                               have s11_37 := ef 11 he_37 (u8 rfl s11_34)
                               have s12_37 := ef 12 he_37 (u8 rfl s12_34)
                               have s37_37 := ef 37 he_37 (u8 rfl s37_34)
                               have s38_37 := ef 38 he_37 (u8 rfl s38_34)
                               have s39_37 := ef 39 he_37 (u8 rfl s39_34)
                               clear he_37 s11_34 s12_34 s2_34 s37_34 s38_34 s39_34 s3_34 s6_34 s86_34 s8_34
                               refine then_n ?_
                               refine aw_text (by kernel_rfl) ?_
                               refine al_ro' (ro_move s12_37) trivial rfl ?_
                               refine al_ro' (ro_assign up_h) trivial rfl ?_
                               refine al_end (fun e_38 he_38 => ?_)
                               have s2_38 := ef 2 he_38 (u2 rfl s2_37)
                               have s3_38 := ef 3 he_38 (u2 rfl s3_37)
                               have s6_38 := ef 6 he_38 (u2 rfl s6_37)
                               have s8_38 := ef 8 he_38 (u2 rfl s8_37)
                               have s9_38 := ef 9 he_38 up_h
                               have s11_38 := ef 11 he_38 (u2 rfl s11_37)
                               have s12_38 := ef 12 he_38 (u2 rfl s12_37)
                               have s37_38 := ef 37 he_38 (u2 rfl s37_37)
                               have s38_38 := ef 38 he_38 (u2 rfl s38_37)
                               have s39_38 := ef 39 he_38 (u2 rfl s39_37)
                               clear he_38 s11_37 s12_37 s2_37 s37_37 s38_37 s39_37 s3_37 s6_37 s8_37
                               refine block_n ?_
                               refine then_n ?_
                               refine aw_text (by kernel_rfl) ?_
                               refine al_ro' (ro_move s12_38) trivial rfl ?_
                               first | (refine al_ro' (ro_add' up_h ev_c ?_) trivial rfl ?_; · (unfold In64; omega)) | refine al_ro' (ro_add up_h ev_c) trivial rfl ?_
                               refine al_ro' (ro_assign up_h) trivial rfl ?_
                               refine al_end (fun e_39 he_39 => ?_)
                               have s2_39 := ef 2 he_39 (up_m rfl (u2 rfl s2_38))
                               have s3_39 := ef 3 he_39 (up_m rfl (u2 rfl s3_38))
                               have s6_39 := ef 6 he_39 (up_m rfl (u2 rfl s6_38))
                               have s8_39 := ef 8 he_39 (up_m rfl (u2 rfl s8_38))
                               have s9_39 := ef 9 he_39 (up_m rfl (u2 rfl s9_38))
                               have s11_39 := ef 11 he_39 (up_m rfl (u2 rfl s11_38))
                               have s12_39 := ef 12 he_39 up_h
                               have s37_39 := ef 37 he_39 (up_m rfl (u2 rfl s37_38))
                               have s38_39 := ef 38 he_39 (up_m rfl (u2 rfl s38_38))
                               have s39_39 := ef 39 he_39 (up_m rfl (u2 rfl s39_38))
                               clear he_39 s11_38 s12_38 s2_38 s37_38 s38_38 s39_38 s3_38 s6_38 s8_38 s9_38
                               refine then_n ?_
                               refine ⟨⟨_, _, _⟩, ⟨s12_39, s9_39, (s2_39.trans s2_19.symm), (s3_39.trans s3_19.symm), (s6_39.trans s6_19.symm), (s11_39.trans s11_19.symm), (s37_39.trans s37_19.symm), (s38_39.trans s38_19.symm), (s39_39.trans s39_19.symm), (mo2_36.trans mo2_15.symm), (mo1_36.trans mo1_15.symm), (mo0_36.trans mo0_15.symm), ⟨_, s8_39, mon_20_36, (by omega), (by omega), (by omega)⟩, ⟨_, ml_36, by omega⟩, ?_⟩, ?_⟩
                               · (refine ⟨by omega, by omega, ?_⟩; first | (rw [hz]; unfold outV; rw [if_pos (.inr ⟨hTw, by omega⟩), hkT]; rfl) | (have hne : k ≠ T := (fun e => (hu.2 e) (by unfold offW; assumption)); rw [r3]; exact outV_congr ⟨fun h => h.imp id fun h => ⟨h.1, by omega⟩, fun h => h.imp id fun h => ⟨h.1, by omega⟩⟩))
                               · ((try dsimp only); omega))))
                · (first | replace hq_22 := bnt hq_22 | replace hq_22 := bnf hq_22 | replace hq_22 := bt hq_22 | replace hq_22 := bf hq_22 | replace hq_22 := bt' hq_22 | replace hq_22 := bf' hq_22 | skip)
                  first
                  | (cases hq_22; done) | (exfalso; omega)
                  | (
                     refine aw_exit ?_
                     refine then_x ?_
                     refine then_x ?_
                     refine block_hit ?_
                     refine block_n ?_
                     refine then_n ?_
                     refine aw_text (by kernel_rfl) ?_
                     first | (refine al_ro' (ro_add' s39_21 ev_c ?_) trivial rfl ?_; · (unfold In64; omega)) | refine al_ro' (ro_add s39_21 ev_c) trivial rfl ?_
                     refine al_ro' (ro_move up_h) trivial rfl ?_
                     refine al_end (fun e_40 he_40 => ?_)
                     have s2_40 := ef 2 he_40 (u2 rfl s2_21)
                     have s3_40 := ef 3 he_40 (u2 rfl s3_21)
                     have s6_40 := ef 6 he_40 (u2 rfl s6_21)
                     have s8_40 := ef 8 he_40 (u2 rfl s8_21)
                     have s9_40 := ef 9 he_40 (u2 rfl s9_21)
                     have s37_40 := ef 37 he_40 (u2 rfl s37_21)
                     have s38_40 := ef 38 he_40 (u2 rfl s38_21)
                     have s39_40 := ef 39 he_40 up_h
                     clear he_40 s11_21 s12_21 s2_21 s37_21 s38_21 s39_21 s3_21 s53_21 s6_21 s8_21 s9_21
                     refine then_n ?_
                     refine ⟨⟨_, _, _⟩, ⟨s39_40, s9_40, (s2_40.trans s2_14.symm), (s3_40.trans s3_14.symm), (s6_40.trans s6_14.symm), (s37_40.trans s37_14.symm), (s38_40.trans s38_14.symm), (mo2_20.trans mo2_14.symm), (mo1_20.trans mo1_14.symm), (mo0_20.trans mo0_14.symm), ⟨_, s8_40, mo_j8_20, (by omega), (by omega), (by omega)⟩, ⟨_, ml_20, by omega⟩, ?_⟩, ?_⟩
                     · (refine ⟨by omega, by omega, ?_⟩; rw [r3]; refine outV_congr ?_; rw [show (i + 1).toNat = i.toNat + 1 by omega, mem_take_succ (by omega)]; refine ⟨fun h => h.imp id fun h => h.1, fun h => h.imp id fun h => ⟨h, ?_⟩⟩; have := hO.mid ht; rw [h] at this; omega)
                     · ((try dsimp only); omega)))
         · (first | replace hq_17 := bnt hq_17 | replace hq_17 := bnf hq_17 | replace hq_17 := bt hq_17 | replace hq_17 := bf hq_17 | replace hq_17 := bt' hq_17 | replace hq_17 := bf' hq_17 | skip)
           first
           | (cases hq_17; done) | (exfalso; omega)
           | (
              refine aw_exit ?_
              refine then_x ?_
              refine then_x ?_
              refine block_hit ?_
              refine then_n ?_
              refine aw_seq ?_
              refine aw_text (by kernel_rfl) ?_
              refine al_ro' (ro_move s8_16) trivial rfl ?_
              refine al_ro' (ro_assign up_h) trivial rfl ?_
              refine al_ro' (ro_assign ev_c) trivial rfl ?_
              refine al_end (fun e_41 he_41 => ?_)
              have s4_41 := ef 4 he_41 (up_m rfl up_h)
              have s5_41 := ef 5 he_41 up_h
              clear he_41 s2_16 s37_16 s38_16 s39_16 s3_16 s40_16 s6_16 s8_16 s9_16
              refine then_n ?_
              refine aw_ret ?_
              refine ret2 (.inr rfl) (by kernel_rfl) (resV_tmp s4_41) (resV_tmp s5_41) (.own _ _ _ _ mo_j8_15) (.ro _ rfl) ?_
              clear s4_41 s5_41 mo2_15 mo1_15 mo0_15 mo_j8_15 ml_15
              (rw [p3, List.take_of_length_le (by omega)]; unfold outV; rw [if_pos hO.win])))
end Go.Proofs.Ytgiiedpambimoaa
