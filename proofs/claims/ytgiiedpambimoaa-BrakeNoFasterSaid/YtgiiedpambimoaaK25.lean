/- Contracts of chapter 5: which squares can be run; their time. No conditions on a program. -/
import Derived.Test.YtgiiedpambimoaaK24
namespace Go.Proofs.Ytgiiedpambimoaa
open Go Go.RowKit Go.Proofs
set_option linter.unusedSimpArgs false
set_option linter.unusedVariables false
theorem k25_az107 : (Try.prog.info? 107).bind (·.zero) = some (.agg #[.string ByteArray.empty, .slice none 0 0, .int .i64 0, .int .i64 0, .int .i64 0]) := by kernel_rfl
theorem k25_fl107_0 : FldIs Try.prog 107 0 0 true 2 := by unfold FldIs; kernel_rfl
theorem k25_hcf55 : ∀ args w, (callFunc 55 args).run Try.prog w = .ok (.enter 55 args) w := fun _ _ => by kernel_rfl
theorem k25_hcf56 : ∀ args w, (callFunc 56 args).run Try.prog w = .ok (.enter 56 args) w := fun _ _ => by kernel_rfl
theorem k25_hcf59 : ∀ args w, (callFunc 59 args).run Try.prog w = .ok (.enter 59 args) w := fun _ _ => by kernel_rfl
theorem k25_hcf62 : ∀ args w, (callFunc 62 args).run Try.prog w = .ok (.enter 62 args) w := fun _ _ => by kernel_rfl
theorem k25_hcf63 : ∀ args w, (callFunc 63 args).run Try.prog w = .ok (.enter 63 args) w := fun _ _ => by kernel_rfl
theorem k25_hcf64 : ∀ args w, (callFunc 64 args).run Try.prog w = .ok (.enter 64 args) w := fun _ _ => by kernel_rfl
theorem k25_hcf65 : ∀ args w, (callFunc 65 args).run Try.prog w = .ok (.enter 65 args) w := fun _ _ => by kernel_rfl
theorem k25_sl126 : SlIs Try.prog 126 33 1 8 (.int .i64 0) := ⟨by kernel_rfl, by kernel_rfl, by kernel_rfl⟩
theorem k25_sl22 : SlIs Try.prog 22 3 1 8 (.int .i64 0) := ⟨by kernel_rfl, by kernel_rfl, by kernel_rfl⟩
theorem k25_sz107 : (Try.prog.info? 107).map (·.size) = some 5 := by kernel_rfl
theorem k25_ty105 : TyIs Try.prog 105 true 2 := ⟨by kernel_rfl, by kernel_rfl⟩
theorem k25_ty107 : TyIs Try.prog 107 true 5 := ⟨by kernel_rfl, by kernel_rfl⟩
theorem k25_ty3 : TyIs Try.prog 3 false 1 := ⟨by kernel_rfl, by kernel_rfl⟩
theorem k25_ty51 : TyIs Try.prog 51 true 2 := ⟨by kernel_rfl, by kernel_rfl⟩
theorem k25_ty53 : TyIs Try.prog 53 true 3 := ⟨by kernel_rfl, by kernel_rfl⟩

theorem sqs_right {ps : List Piece} {xs : List Int} (h : sqsE ps xs = 0) : xs.length = ps.length + 1 ∧ ∀ j : Nat, 0 ≤ xs.getD j default ∧ xs.getD j default ≤ 20000000000 := by
  unfold sqsE at h
  split at h
  · rename_i hl
    split at h
    · rename_i ha
      refine ⟨hl, fun j => ?_⟩
      by_cases hj : j < xs.length
      · have := ha _ (List.getElem_mem hj)
        rw [List.getD_eq_getElem?_getD, List.getElem?_eq_getElem hj]
        simpa [withinB] using this
      · rw [List.getD_eq_getElem?_getD, List.getElem?_eq_none (by omega)]
        exact ⟨by decide, by decide⟩
    · cases h
  · cases h
/-- A square that cannot be run. -/
def cskB (ps : List Piece) (b v : Int) (xs : List Int) (i : Nat) : Prop := limW ps i < xs.getD i default ∨ (0 < i ∧ ¬ (xs.getD (i - 1) default - losW b (ps.getD (i - 1) default) ≤ xs.getD i default ∧ xs.getD i default ≤ xs.getD (i - 1) default - losW (-v) (ps.getD (i - 1) default)))
instance (ps : List Piece) (b v : Int) (xs : List Int) (i : Nat) : Decidable (cskB ps b v xs i) := by unfold cskB; exact inferInstance
def cskW (ps : List Piece) (b v : Int) (xs : List Int) : Int × Int := match (List.range xs.length).find? fun i => decide (cskB ps b v xs i) with
  | some i => ((i : Int), 24)
  | none => (0, 0)
theorem csk_bad {ps : List Piece} {b v : Int} {xs : List Int} {i : Nat} (hi : i < xs.length) (h : ∀ j : Nat, j < i → ¬ cskB ps b v xs j) (hb : cskB ps b v xs i) : cskW ps b v xs = ((i : Int), 24) := by
  have : (List.range xs.length).find? (fun i => decide (cskB ps b v xs i)) = some i := by
    rw [List.find?_range_eq_some]
    exact ⟨by simpa using hb, by simpa using hi, fun j hj => by simpa using h j hj⟩
  unfold cskW; rw [this]
theorem csk_good {ps : List Piece} {b v : Int} {xs : List Int} (h : ∀ j : Nat, j < xs.length → ¬ cskB ps b v xs j) : cskW ps b v xs = (0, 0) := by
  have : (List.range xs.length).find? (fun i => decide (cskB ps b v xs i)) = none := by
    rw [List.find?_eq_none]
    intro j hj
    simpa using h j (by simpa using hj)
  unfold cskW; rw [this]
def cskE (nm : ByteArray) (ps : List Piece) (b d v : Int) (xs : List Int) : Int := firstE [firstE [(chk nm ps).2, sysE b d v], sqsE ps xs]
section
variable (nm : ByteArray) (ps : List Piece) (hs : nm.size ≤ 1000000000) (hp : ps.length ≤ 1000000000) (b d v : Int) (xs : List Int) (hx : xs.length ≤ 1000000000)
include hs hp hx
set_option maxRecDepth 100000 in
set_option maxHeartbeats 4000000 in
theorem checkSquares_ok : FnOk Try.prog 22 [trA nm ps, syA b d v, .row 1 (xs.map iE)] (fun q => q = .tuple [iA (if cskE nm ps b d v xs = 0 then (cskW ps b v xs).1 else 0), iA (if cskE nm ps b d v xs = 0 then (cskW ps b v xs).2 else cskE nm ps b d v xs)]) := by
  refine fnOk_of (fn := Try.f22) 76 (by kernel_rfl) rfl (by kernel_rfl) (Nat.le_of_ble_eq_true rfl) ?_
  intro e_0 m_0 hA hm_0
  have s0_0 : evA e_0 (.tmp 0) = _ := hA 0 _ rfl
  have s1_0 : evA e_0 (.tmp 1) = _ := hA 1 _ rfl
  have s2_0 : evA e_0 (.tmp 2) = _ := hA 2 _ rfl
  have ml_0 : m_0.length = 0 := by rw [hm_0]; rfl
  clear hA hm_0
  refine aw_seq ?_
  refine aw_text (by kernel_rfl) ?_
  refine al_stm (st_box s0_0 rfl ml_0) trivial rfl (fun m_1 hm_1 => ?_)
  have mo0_1 := m_push hm_1 ml_0
  (try simp only [packA_t, packA_f, iE, bE, setAt, cellsA, Value.cells, map_vc, map_vn, Nat.reduceAdd, qS] at mo0_1)
  have ml_1 := m_push_l hm_1 ml_0
  have ml_1 : _ = 1 := ml_1
  clear hm_1
  refine al_stm (st_box (up_m rfl s1_0) rfl ml_1) trivial rfl (fun m_2 hm_2 => ?_)
  have mo1_2 := m_push hm_2 ml_1
  (try simp only [packA_t, packA_f, iE, bE, setAt, cellsA, Value.cells, map_vc, map_vn, Nat.reduceAdd, qS] at mo1_2)
  have mo0_2 := m_push_o hm_2 mo0_1
  have ml_2 := m_push_l hm_2 ml_1
  have ml_2 : _ = 2 := ml_2
  clear hm_2 mo0_1
  refine al_ro' (ro_assign ev_c) trivial rfl ?_
  refine al_ro' (ro_assign ev_c) trivial rfl ?_
  refine al_end (fun e_3 he_3 => ?_)
  have s2_3 := ef 2 he_3 (u4 rfl s2_0)
  have s3_3 := ef 3 he_3 (up_m rfl (u2 rfl up_h))
  have s4_3 := ef 4 he_3 (u2 rfl up_h)
  clear he_3 s0_0 s1_0 s2_0
  refine then_n ?_
  refine aw_seq ?_
  refine aw_text (by kernel_rfl) ?_
  refine al_ro' (ro_eq (ro_ld_ptr k25_ty51 rfl mo0_2 s3_3 (by first | exact Nat.le_of_ble_eq_true rfl | omega | (simp only [lnS] <;> omega) | (simp <;> omega))) (by first | (simp only [packA_t, packA_f, iE, bE, setAt, cellsA, Value.cells, map_vc, map_vn, Nat.reduceAdd, qS] <;> rfl) | rfl)) trivial rfl ?_
  refine al_ro' (ro_eq (ro_ld_ptr k25_ty53 rfl mo1_2 (up_m rfl s4_3) (by first | exact Nat.le_of_ble_eq_true rfl | omega | (simp only [lnS] <;> omega) | (simp <;> omega))) (by first | (simp only [packA_t, packA_f, iE, bE, setAt, cellsA, Value.cells, map_vc, map_vn, Nat.reduceAdd, qS] <;> rfl) | rfl)) trivial rfl ?_
  refine al_ro' (ro_call (evL_cons (up_m rfl up_h) (evL_cons up_h evL_nil)) rfl (openRide_ok nm ps hs hp b d v) k25_hcf55) trivial rfl ?_
  refine al_ro' (ro_move up_h) trivial rfl ?_
  refine al_ro' (ro_extract up_h rfl) trivial rfl ?_
  refine al_ro' (ro_extract (up_m rfl up_h) rfl) trivial rfl ?_
  refine al_stm (st_alloc k25_az107 rfl ml_2) trivial rfl (fun m_4 hm_4 => ?_)
  have mo2_4 := m_push hm_4 ml_2
  (try simp only [packA_t, packA_f, iE, bE, setAt, cellsA, Value.cells, map_vc, map_vn, Nat.reduceAdd, qS] at mo2_4)
  have mo1_4 := m_push_o hm_4 mo1_2
  have mo0_4 := m_push_o hm_4 mo0_2
  have ml_4 := m_push_l hm_4 ml_2
  have ml_4 : _ = 3 := ml_4
  clear hm_4 mo1_2 mo0_2
  refine al_stm (st_store up_h (u2 rfl up_h) rfl rfl mo2_4 k25_sz107 rfl (by first | exact Nat.le_of_ble_eq_true rfl | omega | (simp only [lnS] <;> omega) | (simp <;> omega))) trivial rfl (fun m_5 hm_5 => ?_)
  have mo2_5 := m_set hm_5 mo2_4
  (try simp only [packA_t, packA_f, iE, bE, setAt, cellsA, Value.cells, map_vc, map_vn, Nat.reduceAdd, qS] at mo2_5)
  have mo1_5 := m_set_o hm_5 mo1_4 (by decide)
  have mo0_5 := m_set_o hm_5 mo0_4 (by decide)
  have ml_5 := m_set_l hm_5 ml_4
  clear hm_5 mo2_4 mo1_4 mo0_4
  refine al_ro' (ro_assign (up_n (up_m rfl up_h))) trivial rfl ?_
  refine al_end (fun e_6 he_6 => ?_)
  have s2_6 := ef 2 he_6 (up_m rfl (up_n (up_m rfl (u2 rfl (u4 rfl s2_3)))))
  have s8_6 := ef 8 he_6 (up_m rfl (up_n up_h))
  have s9_6 := ef 9 he_6 up_h
  clear he_6 s2_3 s3_3 s4_3
  refine then_n ?_
  refine aw_seq ?_
  refine aw_seq ?_
  refine aw_text (by kernel_rfl) ?_
  refine al_ro' (ro_move s9_6) trivial rfl ?_
  refine al_ro' (ro_fld_ptr k25_fl107_0 rfl (up_m rfl s8_6)) trivial rfl ?_
  refine al_ro' (ro_eq (ro_ld_ptr k25_ty105 rfl mo2_5 up_h (by first | exact Nat.le_of_ble_eq_true rfl | omega | (simp only [lnS] <;> omega) | (simp <;> omega))) (by first | (simp only [packA_t, packA_f, iE, bE, setAt, cellsA, Value.cells, map_vc, map_vn, Nat.reduceAdd, qS] <;> rfl) | rfl)) trivial rfl ?_
  refine al_ro' (ro_move (up_m rfl (u2 rfl s2_6))) trivial rfl ?_
  refine al_ro' (ro_call (evL_cons (up_m rfl up_h) (evL_cons up_h evL_nil)) rfl (squaresErr_ok xs hx nm ps hp) k25_hcf63) trivial rfl ?_
  refine al_ro' (ro_lit k25_sl126 (evP_cons (u4 rfl up_h) (evP_cons up_h evP_nil)) rfl rfl rfl rfl) trivial rfl ?_
  refine al_ro' (ro_call (evL_cons up_h evL_nil) rfl (first_ok [_, _] (by simp)) k25_hcf56) trivial rfl ?_
  refine al_ro' (ro_assign up_h) trivial rfl ?_
  refine al_end (fun e_7 he_7 => ?_)
  have s2_7 := ef 2 he_7 (u8 rfl s2_6)
  have s8_7 := ef 8 he_7 (u8 rfl s8_6)
  have s9_7 := ef 9 he_7 up_h
  clear he_7 s2_6 s8_6 s9_6
  refine then_n ?_
  refine aw_seq ?_
  refine aw_text (by kernel_rfl) ?_
  refine al_ro' (ro_move s9_7) trivial rfl ?_
  refine al_ro' (ro_neq up_h ev_c) trivial rfl ?_
  refine al_end (fun e_8 he_8 => ?_)
  have s2_8 := ef 2 he_8 (u2 rfl s2_7)
  have s8_8 := ef 8 he_8 (u2 rfl s8_7)
  have s9_8 := ef 9 he_8 (u2 rfl s9_7)
  have s27_8 := ef 27 he_8 up_h
  clear he_8 s2_7 s8_7 s9_7
  refine then_n ?_
  refine aw_case s27_8 (fun hq_9 => ?_) (fun hq_9 => ?_)
  · (first | replace hq_9 := bnt hq_9 | replace hq_9 := bnf hq_9 | replace hq_9 := bt hq_9 | replace hq_9 := bf hq_9 | replace hq_9 := bt' hq_9 | replace hq_9 := bf' hq_9 | skip)
    first
    | (cases hq_9; done) | (exfalso; omega)
    | (
       refine aw_seq ?_
       refine aw_text (by kernel_rfl) ?_
       refine al_ro' (ro_move s9_8) trivial rfl ?_
       refine al_ro' (ro_assign ev_c) trivial rfl ?_
       refine al_ro' (ro_assign (up_m rfl up_h)) trivial rfl ?_
       refine al_end (fun e_10 he_10 => ?_)
       have s6_10 := ef 6 he_10 (up_m rfl up_h)
       have s7_10 := ef 7 he_10 up_h
       clear he_10 s27_8 s2_8 s8_8 s9_8
       refine then_n ?_
       refine aw_ret ?_
       refine then_r ?_
       refine ret2 (.inr rfl) (by kernel_rfl) (resV_tmp s6_10) (resV_tmp s7_10) (.ro _ rfl) (.ro _ rfl) ?_
       clear s6_10 s7_10 mo2_5 mo1_5 mo0_5 ml_5
       (have hq : ¬ cskE nm ps b d v xs = 0 := (by assumption); rw [if_neg hq, if_neg hq]; rfl))
  · (first | replace hq_9 := bnt hq_9 | replace hq_9 := bnf hq_9 | replace hq_9 := bt hq_9 | replace hq_9 := bf hq_9 | replace hq_9 := bt' hq_9 | replace hq_9 := bf' hq_9 | skip)
    first
    | (cases hq_9; done) | (exfalso; omega)
    | (
       (have hq : cskE nm ps b d v xs = 0 := (by assumption); have hR := ride_right hq; have hsq := sqs_right (firstE_cons hR.2.2).1; have hlen := hR.1.2; have hll := liW_len ps (ps.length + 1); have hbb := hR.2.1)
       refine aw_skip ?_
       refine then_n ?_
       refine aw_seq ?_
       refine aw_text (by kernel_rfl) ?_
       refine al_ro' (ro_fld_ptr k25_fl107_0 rfl s8_8) trivial rfl ?_
       refine al_ro' (ro_eq (ro_ld_ptr k25_ty105 rfl mo2_5 up_h (by first | exact Nat.le_of_ble_eq_true rfl | omega | (simp only [lnS] <;> omega) | (simp <;> omega))) (by first | (simp only [packA_t, packA_f, iE, bE, setAt, cellsA, Value.cells, map_vc, map_vn, Nat.reduceAdd, qS] <;> rfl) | rfl)) trivial rfl ?_
       refine al_ro' (ro_call (evL_cons up_h evL_nil) rfl (limits_ok nm ps hR.1.1 (by have := hR.1.2.1; omega) (by have := hR.1.2.2; omega)) k25_hcf59) trivial rfl ?_
       refine al_ro' (ro_assign up_h) trivial rfl ?_
       refine al_end (fun e_11 he_11 => ?_)
       have s2_11 := ef 2 he_11 (u4 rfl s2_8)
       have s8_11 := ef 8 he_11 (u4 rfl s8_8)
       have s10_11 := ef 10 he_11 up_h
       clear he_11 s27_8 s2_8 s8_8 s9_8
       refine then_n ?_
       refine aw_seq ?_
       refine aw_seq ?_
       refine aw_text (by kernel_rfl) ?_
       refine al_ro' (ro_move s2_11) trivial rfl ?_
       refine al_ro' (ro_eq (ro_len_row up_h rfl k25_sl22.1) (by first | (simp only [lnS] <;> rfl) | rfl)) trivial rfl ?_
       refine al_ro' (ro_move ev_c) trivial rfl ?_
       refine al_end (fun e_12 he_12 => ?_)
       have s2_12 := ef 2 he_12 (up_m rfl (u2 rfl s2_11))
       have s8_12 := ef 8 he_12 (up_m rfl (u2 rfl s8_11))
       have s10_12 := ef 10 he_12 (up_m rfl (u2 rfl s10_11))
       have s32_12 := ef 32 he_12 (u2 rfl up_h)
       have s33_12 := ef 33 he_12 (up_m rfl up_h)
       have s34_12 := ef 34 he_12 up_h
       clear he_12 s10_11 s2_11 s8_11
       refine then_n ?_
       refine aw_block ?_
       refine aw_loop (S := Int) (fun i e mem => (evA e (.tmp 34) = .v (.int .i64 i)) ∧ (evA e (.tmp 2) = evA e_12 (.tmp 2)) ∧ (evA e (.tmp 8) = evA e_12 (.tmp 8)) ∧ (evA e (.tmp 10) = evA e_12 (.tmp 10)) ∧ (evA e (.tmp 32) = evA e_12 (.tmp 32)) ∧ (evA e (.tmp 33) = evA e_12 (.tmp 33)) ∧ (mem[2]? = m_5[2]?) ∧ (mem[1]? = m_5[1]?) ∧ (mem[0]? = m_5[0]?) ∧ (mem.length = 3) ∧ ((0 ≤ i ∧ i ≤ xs.length ∧ ∀ j : Nat, j < i.toNat → ¬ cskB ps b v xs j))) (fun i => (xs.length - i).toNat) _ ⟨s34_12, rfl, rfl, rfl, rfl, rfl, rfl, rfl, rfl, ml_5, ?_⟩ ?_
       · (exact ⟨by omega, by omega, fun j h => absurd h (by omega)⟩)
       · rintro i e_13 m_13 ⟨s34_13, k2_13, k8_13, k10_13, k32_13, k33_13, mk2_13, mk1_13, mk0_13, ml_13, hinv⟩
         have s2_13 := k2_13.trans s2_12
         have s8_13 := k8_13.trans s8_12
         have s10_13 := k10_13.trans s10_12
         have s32_13 := k32_13.trans s32_12
         have s33_13 := k33_13.trans s33_12
         have mo2_13 := mk2_13.trans mo2_5
         have mo1_13 := mk1_13.trans mo1_5
         have mo0_13 := mk0_13.trans mo0_5
         (obtain ⟨p1, p2, p3⟩ := hinv)
         refine aw_seq ?_
         refine aw_text (by kernel_rfl) ?_
         refine al_ro' (ro_lss s34_13 s33_13) trivial rfl ?_
         refine al_end (fun e_14 he_14 => ?_)
         have s2_14 := ef 2 he_14 (up_m rfl s2_13)
         have s8_14 := ef 8 he_14 (up_m rfl s8_13)
         have s10_14 := ef 10 he_14 (up_m rfl s10_13)
         have s32_14 := ef 32 he_14 (up_m rfl s32_13)
         have s33_14 := ef 33 he_14 (up_m rfl s33_13)
         have s34_14 := ef 34 he_14 (up_m rfl s34_13)
         have s35_14 := ef 35 he_14 up_h
         clear he_14 s10_13 s2_13 s32_13 s33_13 s34_13 s8_13
         refine then_n ?_
         refine aw_seq ?_
         refine aw_case s35_14 (fun hq_15 => ?_) (fun hq_15 => ?_)
         · (first | replace hq_15 := bnt hq_15 | replace hq_15 := bnf hq_15 | replace hq_15 := bt hq_15 | replace hq_15 := bf hq_15 | replace hq_15 := bt' hq_15 | replace hq_15 := bf' hq_15 | skip)
           first
           | (cases hq_15; done) | (exfalso; omega)
           | (
              (have hli := liW_at ps (n := ps.length + 1) (i := i.toNat) (by omega); have hi1 : i.toNat - 1 = (i - 1).toNat := (by omega); have hpa := hR.1.1.at (i - 1).toNat; have hl1 := los_bound (dec := b) (p := ps.getD (i - 1).toNat default) (by have := hbb.1; omega) hpa.1 hpa.2.1; have hl2 := los_bound (dec := -v) (p := ps.getD (i - 1).toNat default) (by have := hbb.2.2.1; omega) hpa.1 hpa.2.1; have hx1 := hsq.2 (i - 1).toNat; have hx2 := hsq.2 i.toNat)
              refine aw_skip ?_
              refine then_n ?_
              refine aw_seq ?_
              refine aw_block ?_
              refine aw_seq ?_
              refine aw_text (by kernel_rfl) ?_
              refine al_ro' (ro_move s34_14) trivial rfl ?_
              refine al_ro' (ro_eq (ro_ix k25_sl22 (up_m rfl s32_14) (up_m rfl s34_14) (by first | decide | omega | (simp <;> omega)) (by first | (refine idx_map ?_; first | omega | (simp only [lnS]; omega)) | (refine idx_mapI ?_; first | omega | (simp only [lnS]; omega)) | (refine idx_mapN ?_; first | omega | (simp only [lnS]; omega)) | rfl)) (by first | (simp only [packA_t, packA_f, iE, bE, setAt, cellsA, Value.cells, map_vc, map_vn, Nat.reduceAdd, qS] <;> rfl) | rfl)) trivial rfl ?_
              refine al_ro' (ro_eq (ro_ld_ref k25_ty3 rfl up_h (by first | exact Nat.le_of_ble_eq_true rfl | omega | (simp only [lnS] <;> omega) | (simp <;> omega))) (by first | (simp only [packA_t, packA_f, iE, bE, setAt, cellsA, Value.cells, map_vc, map_vn, Nat.reduceAdd, qS] <;> rfl) | rfl)) trivial rfl ?_
              refine al_ro' (ro_assign (u2 rfl up_h)) trivial rfl ?_
              refine al_ro' (ro_assign (up_m rfl up_h)) trivial rfl ?_
              refine al_end (fun e_16 he_16 => ?_)
              have s2_16 := ef 2 he_16 (up_m rfl (u4 rfl s2_14))
              have s8_16 := ef 8 he_16 (up_m rfl (u4 rfl s8_14))
              have s10_16 := ef 10 he_16 (up_m rfl (u4 rfl s10_14))
              have s11_16 := ef 11 he_16 (up_m rfl up_h)
              have s12_16 := ef 12 he_16 up_h
              have s32_16 := ef 32 he_16 (up_m rfl (u4 rfl s32_14))
              have s33_16 := ef 33 he_16 (up_m rfl (u4 rfl s33_14))
              have s34_16 := ef 34 he_16 (up_m rfl (u4 rfl s34_14))
              clear he_16 s10_14 s2_14 s32_14 s33_14 s34_14 s35_14 s8_14
              refine then_n ?_
              refine aw_seq ?_
              refine aw_cut (fun e mem => (evA e (.tmp 73) = .v (.bool (decide (cskB ps b v xs i.toNat)))) ∧ (evA e (.tmp 2) = evA e_16 (.tmp 2)) ∧ (evA e (.tmp 8) = evA e_16 (.tmp 8)) ∧ (evA e (.tmp 10) = evA e_16 (.tmp 10)) ∧ (evA e (.tmp 11) = evA e_16 (.tmp 11)) ∧ (evA e (.tmp 32) = evA e_16 (.tmp 32)) ∧ (evA e (.tmp 33) = evA e_16 (.tmp 33)) ∧ (evA e (.tmp 34) = evA e_16 (.tmp 34)) ∧ m_13 = mem) ?_ ?_
              ·
                refine aw_draw 35 (by kernel_rfl) (by kernel_rfl) (by kernel_rfl) (by kernel_rfl) ?_
                refine ds_ro' (ro_move s12_16) trivial rfl ?_
                refine ds_ro' (ro_move (up_m rfl s10_16)) trivial rfl ?_
                refine ds_ro' (ro_move (u2 rfl s11_16)) trivial rfl ?_
                refine ds_ro' (ro_eq (ro_ix k25_sl22 (up_m rfl up_h) up_h (by first | decide | omega | (simp <;> omega)) (by first | (refine idx_map ?_; first | omega | (simp only [lnS]; omega)) | (refine idx_mapI ?_; first | omega | (simp only [lnS]; omega)) | (refine idx_mapN ?_; first | omega | (simp only [lnS]; omega)) | rfl)) (by first | (simp only [packA_t, packA_f, iE, bE, setAt, cellsA, Value.cells, map_vc, map_vn, Nat.reduceAdd, qS] <;> rfl) | rfl)) trivial rfl ?_
                refine ds_ro' (ro_eq (ro_ld_ref k25_ty3 rfl up_h (by first | exact Nat.le_of_ble_eq_true rfl | omega | (simp only [lnS] <;> omega) | (simp <;> omega))) (by first | (simp only [packA_t, packA_f, iE, bE, setAt, cellsA, Value.cells, map_vc, map_vn, Nat.reduceAdd, qS] <;> rfl) | rfl)) trivial rfl ?_
                refine ds_ro' (ro_gtr (u4 rfl up_h) up_h) trivial rfl ?_
                refine ds_ro' (ro_move up_h) trivial rfl ?_
                refine ds_case up_h (fun hb_18 hq_18 => ?_) (fun hb_18 hq_18 => ?_)
                · (first | replace hq_18 := bnt hq_18 | replace hq_18 := bnf hq_18 | replace hq_18 := bt hq_18 | replace hq_18 := bf hq_18 | replace hq_18 := bt' hq_18 | replace hq_18 := bf' hq_18 | skip)
                  first
                  | (cases hq_18; done) | (exfalso; omega)
                  | (
                     refine ds_skip' ⟨_, rfl, .inl hb_18⟩ rfl ?_
                     refine ds_skip' ⟨_, rfl, .inl (up_m rfl hb_18)⟩ rfl ?_
                     refine ds_skip' ⟨_, rfl, .inl (u2 rfl hb_18)⟩ rfl ?_
                     refine ds_skip' ⟨_, rfl, .inr up_h⟩ rfl ?_
                     refine ds_skip' ⟨_, rfl, .inr (up_m rfl up_h)⟩ rfl ?_
                     refine ds_skip' ⟨_, rfl, .inr (u2 rfl up_h)⟩ rfl ?_
                     refine ds_skip' ⟨_, rfl, .inr (up_m rfl (u2 rfl up_h))⟩ rfl ?_
                     refine ds_skip' ⟨_, rfl, .inr (u4 rfl up_h)⟩ rfl ?_
                     refine ds_skip' ⟨_, rfl, .inr (up_m rfl (u4 rfl up_h))⟩ rfl ?_
                     refine ds_skip' ⟨_, rfl, .inr (u2 rfl (u4 rfl up_h))⟩ rfl ?_
                     refine ds_skip' ⟨_, rfl, .inr (up_m rfl (u2 rfl (u4 rfl up_h)))⟩ rfl ?_
                     refine ds_skip' ⟨_, rfl, .inr (u8 rfl up_h)⟩ rfl ?_
                     refine ds_skip' ⟨_, rfl, .inr (up_m rfl (u8 rfl up_h))⟩ rfl ?_
                     refine ds_skip' ⟨_, rfl, .inr (u2 rfl (u8 rfl up_h))⟩ rfl ?_
                     refine ds_skip' ⟨_, rfl, .inr (up_m rfl (u2 rfl (u8 rfl up_h)))⟩ rfl ?_
                     refine ds_skip' ⟨_, rfl, .inr (u4 rfl (u8 rfl up_h))⟩ rfl ?_
                     refine ds_skip' ⟨_, rfl, .inr (up_m rfl (u4 rfl (u8 rfl up_h)))⟩ rfl ?_
                     refine ds_skip' ⟨_, rfl, .inr (u2 rfl (u4 rfl (u8 rfl up_h)))⟩ rfl ?_
                     refine ds_skip' ⟨_, rfl, .inr (up_m rfl (u2 rfl (u4 rfl (u8 rfl up_h))))⟩ rfl ?_
                     refine ds_skip' ⟨_, rfl, .inr (u16 rfl up_h)⟩ rfl ?_
                     refine ds_skip' ⟨_, rfl, .inr (up_m rfl (u16 rfl up_h))⟩ rfl ?_
                     refine ds_skip' ⟨_, rfl, .inr (u2 rfl (u16 rfl up_h))⟩ rfl ?_
                     refine ds_skip' ⟨_, rfl, .inr (up_m rfl (u2 rfl (u16 rfl up_h)))⟩ rfl ?_
                     refine ds_skip' ⟨_, rfl, .inr (u4 rfl (u16 rfl up_h))⟩ rfl ?_
                     refine ds_skip' ⟨_, rfl, .inr (up_m rfl (u4 rfl (u16 rfl up_h)))⟩ rfl ?_
                     refine ds_skip' ⟨_, rfl, .inr (u2 rfl (u4 rfl (u16 rfl up_h)))⟩ rfl ?_
                     refine ds_skip' ⟨_, rfl, .inl (u2 rfl (u8 rfl (u16 rfl hb_18)))⟩ rfl ?_
                     refine ds_ro' (ro_pickT (up_m rfl (u2 rfl (u8 rfl (u16 rfl hb_18)))) ev_c) trivial rfl ?_
                     refine ds_nil ?_
                     refine al_end (fun e_19 he_19 => ?_)
                     have s2_19 := ef 2 he_19 (up_m rfl (u2 rfl (u16 rfl (u16 rfl s2_16))))
                     have s8_19 := ef 8 he_19 (up_m rfl (u2 rfl (u16 rfl (u16 rfl s8_16))))
                     have s10_19 := ef 10 he_19 (up_m rfl (u2 rfl (u16 rfl (u16 rfl s10_16))))
                     have s11_19 := ef 11 he_19 (up_m rfl (u2 rfl (u16 rfl (u16 rfl s11_16))))
                     have s32_19 := ef 32 he_19 (up_m rfl (u2 rfl (u16 rfl (u16 rfl s32_16))))
                     have s33_19 := ef 33 he_19 (up_m rfl (u2 rfl (u16 rfl (u16 rfl s33_16))))
                     have s34_19 := ef 34 he_19 (up_m rfl (u2 rfl (u16 rfl (u16 rfl s34_16))))
                     have s73_19 := ef 73 he_19 up_h
                     clear he_19
                     refine then_n ⟨(s73_19).trans (by (refine avb ?_; rw [decide_eq_true_eq]; unfold cskB; rw [hi1, ← hli]; (try simp only [decide_eq_true_eq, withinB, Bool.and_eq_true, Bool.not_eq_true', Bool.and_eq_false_imp, decide_eq_false_iff_not, true_iff, Bool.false_eq_true, false_iff]); omega)), (s2_19).trans (s2_16).symm, (s8_19).trans (s8_16).symm, (s10_19).trans (s10_16).symm, (s11_19).trans (s11_16).symm, (s32_19).trans (s32_16).symm, (s33_19).trans (s33_16).symm, (s34_19).trans (s34_16).symm, rfl⟩)
                · (first | replace hq_18 := bnt hq_18 | replace hq_18 := bnf hq_18 | replace hq_18 := bt hq_18 | replace hq_18 := bf hq_18 | replace hq_18 := bt' hq_18 | replace hq_18 := bf' hq_18 | skip)
                  first
                  | (cases hq_18; done) | (exfalso; omega)
                  | (
                     refine ds_ro' (ro_move (up_m rfl (u2 rfl (u4 rfl s11_16)))) ⟨_, rfl, hb_18⟩ rfl ?_
                     refine ds_ro' (ro_gtr up_h ev_c) ⟨_, rfl, (up_m rfl hb_18)⟩ rfl ?_
                     refine ds_ro' (ro_move up_h) ⟨_, rfl, (u2 rfl hb_18)⟩ rfl ?_
                     refine ds_case up_h (fun hb_20 hq_20 => ?_) (fun hb_20 hq_20 => ?_)
                     · (first | replace hq_20 := bnt hq_20 | replace hq_20 := bnf hq_20 | replace hq_20 := bt hq_20 | replace hq_20 := bf hq_20 | replace hq_20 := bt' hq_20 | replace hq_20 := bf' hq_20 | skip)
                       first
                       | (cases hq_20; done) | (exfalso; omega)
                       | (
                          refine ds_ro' (ro_move (u2 rfl (u8 rfl s12_16))) ⟨_, rfl, hb_20⟩ rfl ?_
                          refine ds_ro' (ro_move (up_m rfl (u2 rfl (u8 rfl s2_16)))) ⟨_, rfl, (up_m rfl hb_20)⟩ rfl ?_
                          refine ds_ro' (ro_move (u4 rfl (u8 rfl s11_16))) ⟨_, rfl, (u2 rfl hb_20)⟩ rfl ?_
                          first | (refine ds_ro' (ro_sub' up_h ev_c ?_) ⟨_, rfl, (up_m rfl (u2 rfl hb_20))⟩ rfl ?_; · (unfold In64; omega)) | refine ds_ro' (ro_sub up_h ev_c) ⟨_, rfl, (up_m rfl (u2 rfl hb_20))⟩ rfl ?_
                          refine ds_ro' (ro_eq (ro_ix k25_sl22 (u2 rfl up_h) up_h (by first | decide | omega | (simp <;> omega)) (by first | (refine idx_map ?_; first | omega | (simp only [lnS]; omega)) | (refine idx_mapI ?_; first | omega | (simp only [lnS]; omega)) | (refine idx_mapN ?_; first | omega | (simp only [lnS]; omega)) | rfl)) (by first | (simp only [packA_t, packA_f, iE, bE, setAt, cellsA, Value.cells, map_vc, map_vn, Nat.reduceAdd, qS] <;> rfl) | rfl)) ⟨_, rfl, (u4 rfl hb_20)⟩ rfl ?_
                          refine ds_ro' (ro_eq (ro_ld_ref k25_ty3 rfl up_h (by first | exact Nat.le_of_ble_eq_true rfl | omega | (simp only [lnS] <;> omega) | (simp <;> omega))) (by first | (simp only [packA_t, packA_f, iE, bE, setAt, cellsA, Value.cells, map_vc, map_vn, Nat.reduceAdd, qS] <;> rfl) | rfl)) ⟨_, rfl, (up_m rfl (u4 rfl hb_20))⟩ rfl ?_
                          refine ds_ro' (ro_eq (ro_ld_ptr k25_ty107 rfl mo2_13 (u16 rfl s8_16) (by first | exact Nat.le_of_ble_eq_true rfl | omega | (simp only [lnS] <;> omega) | (simp <;> omega))) (by first | (simp only [packA_t, packA_f, iE, bE, setAt, cellsA, Value.cells, map_vc, map_vn, Nat.reduceAdd, qS] <;> rfl) | rfl)) ⟨_, rfl, (u2 rfl (u4 rfl hb_20))⟩ rfl ?_
                          refine ds_ro' (ro_move (up_m rfl (u16 rfl s11_16))) ⟨_, rfl, (up_m rfl (u2 rfl (u4 rfl hb_20)))⟩ rfl ?_
                          first | (refine ds_ro' (ro_sub' up_h ev_c ?_) ⟨_, rfl, (u8 rfl hb_20)⟩ rfl ?_; · (unfold In64; omega)) | refine ds_ro' (ro_sub up_h ev_c) ⟨_, rfl, (u8 rfl hb_20)⟩ rfl ?_
                          refine ds_ro' (ro_call (evL_cons (u2 rfl up_h) (evL_cons up_h evL_nil)) rfl (braked_ok nm ps hR.1.1 b d v (i - 1) (by omega) (by omega) (by have := hR.2.1.1; omega)) k25_hcf65) ⟨_, rfl, (up_m rfl (u8 rfl hb_20))⟩ rfl ?_
                          first | (refine ds_ro' (ro_sub' (u4 rfl up_h) up_h ?_) ⟨_, rfl, (u2 rfl (u8 rfl hb_20))⟩ rfl ?_; · (unfold In64; omega)) | refine ds_ro' (ro_sub (u4 rfl up_h) up_h) ⟨_, rfl, (u2 rfl (u8 rfl hb_20))⟩ rfl ?_
                          refine ds_ro' (ro_move (up_m rfl (u4 rfl (u16 rfl s2_16)))) ⟨_, rfl, (up_m rfl (u2 rfl (u8 rfl hb_20)))⟩ rfl ?_
                          refine ds_ro' (ro_move (u2 rfl (u4 rfl (u16 rfl s11_16)))) ⟨_, rfl, (u4 rfl (u8 rfl hb_20))⟩ rfl ?_
                          first | (refine ds_ro' (ro_sub' up_h ev_c ?_) ⟨_, rfl, (up_m rfl (u4 rfl (u8 rfl hb_20)))⟩ rfl ?_; · (unfold In64; omega)) | refine ds_ro' (ro_sub up_h ev_c) ⟨_, rfl, (up_m rfl (u4 rfl (u8 rfl hb_20)))⟩ rfl ?_
                          refine ds_ro' (ro_eq (ro_ix k25_sl22 (u2 rfl up_h) up_h (by first | decide | omega | (simp <;> omega)) (by first | (refine idx_map ?_; first | omega | (simp only [lnS]; omega)) | (refine idx_mapI ?_; first | omega | (simp only [lnS]; omega)) | (refine idx_mapN ?_; first | omega | (simp only [lnS]; omega)) | rfl)) (by first | (simp only [packA_t, packA_f, iE, bE, setAt, cellsA, Value.cells, map_vc, map_vn, Nat.reduceAdd, qS] <;> rfl) | rfl)) ⟨_, rfl, (u2 rfl (u4 rfl (u8 rfl hb_20)))⟩ rfl ?_
                          refine ds_ro' (ro_eq (ro_ld_ref k25_ty3 rfl up_h (by first | exact Nat.le_of_ble_eq_true rfl | omega | (simp only [lnS] <;> omega) | (simp <;> omega))) (by first | (simp only [packA_t, packA_f, iE, bE, setAt, cellsA, Value.cells, map_vc, map_vn, Nat.reduceAdd, qS] <;> rfl) | rfl)) ⟨_, rfl, (up_m rfl (u2 rfl (u4 rfl (u8 rfl hb_20))))⟩ rfl ?_
                          refine ds_ro' (ro_eq (ro_ld_ptr k25_ty107 rfl mo2_13 (u2 rfl (u8 rfl (u16 rfl s8_16))) (by first | exact Nat.le_of_ble_eq_true rfl | omega | (simp only [lnS] <;> omega) | (simp <;> omega))) (by first | (simp only [packA_t, packA_f, iE, bE, setAt, cellsA, Value.cells, map_vc, map_vn, Nat.reduceAdd, qS] <;> rfl) | rfl)) ⟨_, rfl, (u16 rfl hb_20)⟩ rfl ?_
                          refine ds_ro' (ro_move (up_m rfl (u2 rfl (u8 rfl (u16 rfl s11_16))))) ⟨_, rfl, (up_m rfl (u16 rfl hb_20))⟩ rfl ?_
                          first | (refine ds_ro' (ro_sub' up_h ev_c ?_) ⟨_, rfl, (u2 rfl (u16 rfl hb_20))⟩ rfl ?_; · (unfold In64; omega)) | refine ds_ro' (ro_sub up_h ev_c) ⟨_, rfl, (u2 rfl (u16 rfl hb_20))⟩ rfl ?_
                          refine ds_ro' (ro_call (evL_cons (u2 rfl up_h) (evL_cons up_h evL_nil)) rfl (driven_ok nm ps hR.1.1 b d v (i - 1) (by omega) (by omega) (by have := hR.2.1.2.2.1; omega)) k25_hcf62) ⟨_, rfl, (up_m rfl (u2 rfl (u16 rfl hb_20)))⟩ rfl ?_
                          first | (refine ds_ro' (ro_add' (u4 rfl up_h) up_h ?_) ⟨_, rfl, (u4 rfl (u16 rfl hb_20))⟩ rfl ?_; · (unfold In64; omega)) | refine ds_ro' (ro_add (u4 rfl up_h) up_h) ⟨_, rfl, (u4 rfl (u16 rfl hb_20))⟩ rfl ?_
                          refine ds_ro' (ro_call (evL_cons (u4 rfl (u16 rfl up_h)) (evL_cons (u2 rfl (u8 rfl up_h)) (evL_cons up_h evL_nil))) rfl (within_ok _ _ _) k25_hcf64) ⟨_, rfl, (up_m rfl (u4 rfl (u16 rfl hb_20)))⟩ rfl ?_
                          refine ds_ro' (ro_not up_h) ⟨_, rfl, (u2 rfl (u4 rfl (u16 rfl hb_20)))⟩ rfl ?_
                          refine ds_ro' (ro_pickT (up_m rfl (u2 rfl (u4 rfl (u16 rfl hb_20)))) up_h) ⟨_, rfl, (u2 rfl (u8 rfl (u16 rfl hb_18)))⟩ rfl ?_
                          refine ds_ro' (ro_pickF (up_m rfl (u2 rfl (u8 rfl (u16 rfl hb_18)))) up_h) trivial rfl ?_
                          refine ds_nil ?_
                          refine al_end (fun e_21 he_21 => ?_)
                          have s2_21 := ef 2 he_21 (up_m rfl (u2 rfl (u16 rfl (u16 rfl s2_16))))
                          have s8_21 := ef 8 he_21 (up_m rfl (u2 rfl (u16 rfl (u16 rfl s8_16))))
                          have s10_21 := ef 10 he_21 (up_m rfl (u2 rfl (u16 rfl (u16 rfl s10_16))))
                          have s11_21 := ef 11 he_21 (up_m rfl (u2 rfl (u16 rfl (u16 rfl s11_16))))
                          have s32_21 := ef 32 he_21 (up_m rfl (u2 rfl (u16 rfl (u16 rfl s32_16))))
                          have s33_21 := ef 33 he_21 (up_m rfl (u2 rfl (u16 rfl (u16 rfl s33_16))))
                          have s34_21 := ef 34 he_21 (up_m rfl (u2 rfl (u16 rfl (u16 rfl s34_16))))
                          have s73_21 := ef 73 he_21 up_h
                          clear he_21
                          refine then_n ⟨(s73_21).trans (by (refine avb ?_; rw [decide_eq_true_eq]; unfold cskB; rw [hi1, ← hli]; (try simp only [decide_eq_true_eq, withinB, Bool.and_eq_true, Bool.not_eq_true', Bool.and_eq_false_imp, decide_eq_false_iff_not, true_iff, Bool.false_eq_true, false_iff]); omega)), (s2_21).trans (s2_16).symm, (s8_21).trans (s8_16).symm, (s10_21).trans (s10_16).symm, (s11_21).trans (s11_16).symm, (s32_21).trans (s32_16).symm, (s33_21).trans (s33_16).symm, (s34_21).trans (s34_16).symm, rfl⟩)
                     · (first | replace hq_20 := bnt hq_20 | replace hq_20 := bnf hq_20 | replace hq_20 := bt hq_20 | replace hq_20 := bf hq_20 | replace hq_20 := bt' hq_20 | replace hq_20 := bf' hq_20 | skip)
                       first
                       | (cases hq_20; done) | (exfalso; omega)
                       | (
                          refine ds_skip' ⟨_, rfl, .inl hb_20⟩ rfl ?_
                          refine ds_skip' ⟨_, rfl, .inl (up_m rfl hb_20)⟩ rfl ?_
                          refine ds_skip' ⟨_, rfl, .inl (u2 rfl hb_20)⟩ rfl ?_
                          refine ds_skip' ⟨_, rfl, .inl (up_m rfl (u2 rfl hb_20))⟩ rfl ?_
                          refine ds_skip' ⟨_, rfl, .inl (u4 rfl hb_20)⟩ rfl ?_
                          refine ds_skip' ⟨_, rfl, .inl (up_m rfl (u4 rfl hb_20))⟩ rfl ?_
                          refine ds_skip' ⟨_, rfl, .inl (u2 rfl (u4 rfl hb_20))⟩ rfl ?_
                          refine ds_skip' ⟨_, rfl, .inl (up_m rfl (u2 rfl (u4 rfl hb_20)))⟩ rfl ?_
                          refine ds_skip' ⟨_, rfl, .inl (u8 rfl hb_20)⟩ rfl ?_
                          refine ds_skip' ⟨_, rfl, .inl (up_m rfl (u8 rfl hb_20))⟩ rfl ?_
                          refine ds_skip' ⟨_, rfl, .inl (u2 rfl (u8 rfl hb_20))⟩ rfl ?_
                          refine ds_skip' ⟨_, rfl, .inl (up_m rfl (u2 rfl (u8 rfl hb_20)))⟩ rfl ?_
                          refine ds_skip' ⟨_, rfl, .inl (u4 rfl (u8 rfl hb_20))⟩ rfl ?_
                          refine ds_skip' ⟨_, rfl, .inl (up_m rfl (u4 rfl (u8 rfl hb_20)))⟩ rfl ?_
                          refine ds_skip' ⟨_, rfl, .inl (u2 rfl (u4 rfl (u8 rfl hb_20)))⟩ rfl ?_
                          refine ds_skip' ⟨_, rfl, .inl (up_m rfl (u2 rfl (u4 rfl (u8 rfl hb_20))))⟩ rfl ?_
                          refine ds_skip' ⟨_, rfl, .inl (u16 rfl hb_20)⟩ rfl ?_
                          refine ds_skip' ⟨_, rfl, .inl (up_m rfl (u16 rfl hb_20))⟩ rfl ?_
                          refine ds_skip' ⟨_, rfl, .inl (u2 rfl (u16 rfl hb_20))⟩ rfl ?_
                          refine ds_skip' ⟨_, rfl, .inl (up_m rfl (u2 rfl (u16 rfl hb_20)))⟩ rfl ?_
                          refine ds_skip' ⟨_, rfl, .inl (u4 rfl (u16 rfl hb_20))⟩ rfl ?_
                          refine ds_skip' ⟨_, rfl, .inl (up_m rfl (u4 rfl (u16 rfl hb_20)))⟩ rfl ?_
                          refine ds_skip' ⟨_, rfl, .inl (u2 rfl (u4 rfl (u16 rfl hb_20)))⟩ rfl ?_
                          refine ds_ro' (ro_pickF (up_m rfl (u2 rfl (u4 rfl (u16 rfl hb_20)))) ev_c) ⟨_, rfl, (u2 rfl (u8 rfl (u16 rfl hb_18)))⟩ rfl ?_
                          refine ds_ro' (ro_pickF (up_m rfl (u2 rfl (u8 rfl (u16 rfl hb_18)))) up_h) trivial rfl ?_
                          refine ds_nil ?_
                          refine al_end (fun e_22 he_22 => ?_)
                          have s2_22 := ef 2 he_22 (up_m rfl (u2 rfl (u16 rfl (u16 rfl s2_16))))
                          have s8_22 := ef 8 he_22 (up_m rfl (u2 rfl (u16 rfl (u16 rfl s8_16))))
                          have s10_22 := ef 10 he_22 (up_m rfl (u2 rfl (u16 rfl (u16 rfl s10_16))))
                          have s11_22 := ef 11 he_22 (up_m rfl (u2 rfl (u16 rfl (u16 rfl s11_16))))
                          have s32_22 := ef 32 he_22 (up_m rfl (u2 rfl (u16 rfl (u16 rfl s32_16))))
                          have s33_22 := ef 33 he_22 (up_m rfl (u2 rfl (u16 rfl (u16 rfl s33_16))))
                          have s34_22 := ef 34 he_22 (up_m rfl (u2 rfl (u16 rfl (u16 rfl s34_16))))
                          have s73_22 := ef 73 he_22 up_h
                          clear he_22
                          refine then_n ⟨(s73_22).trans (by (refine avb ?_; rw [decide_eq_true_eq]; unfold cskB; rw [hi1, ← hli]; (try simp only [decide_eq_true_eq, withinB, Bool.and_eq_true, Bool.not_eq_true', Bool.and_eq_false_imp, decide_eq_false_iff_not, true_iff, Bool.false_eq_true, false_iff]); omega)), (s2_22).trans (s2_16).symm, (s8_22).trans (s8_16).symm, (s10_22).trans (s10_16).symm, (s11_22).trans (s11_16).symm, (s32_22).trans (s32_16).symm, (s33_22).trans (s33_16).symm, (s34_22).trans (s34_16).symm, rfl⟩))
              · rintro e_17 _ ⟨s73_17, k2_17, k8_17, k10_17, k11_17, k32_17, k33_17, k34_17, rfl⟩
                have s2_17 := k2_17.trans s2_16
                have s8_17 := k8_17.trans s8_16
                have s10_17 := k10_17.trans s10_16
                have s11_17 := k11_17.trans s11_16
                have s32_17 := k32_17.trans s32_16
                have s33_17 := k33_17.trans s33_16
                have s34_17 := k34_17.trans s34_16
                refine aw_case s73_17 (fun hq_23 => ?_) (fun hq_23 => ?_)
                · (first | replace hq_23 := bnt hq_23 | replace hq_23 := bnf hq_23 | replace hq_23 := bt hq_23 | replace hq_23 := bf hq_23 | replace hq_23 := bt' hq_23 | replace hq_23 := bf' hq_23 | skip)
                  first
                  | (cases hq_23; done) | (exfalso; omega)
                  | (
                     refine aw_seq ?_
                     refine aw_text (by kernel_rfl) ?_
                     refine al_ro' (ro_move s11_17) trivial rfl ?_
                     refine al_ro' (ro_assign up_h) trivial rfl ?_
                     refine al_ro' (ro_assign ev_c) trivial rfl ?_
                     refine al_end (fun e_24 he_24 => ?_)
                     have s6_24 := ef 6 he_24 (up_m rfl up_h)
                     have s7_24 := ef 7 he_24 up_h
                     clear he_24 s10_17 s11_17 s2_17 s32_17 s33_17 s34_17 s73_17 s8_17
                     refine then_n ?_
                     refine aw_ret ?_
                     refine block_r ?_
                     refine then_r ?_
                     refine then_r ?_
                     refine block_r ?_
                     refine then_r ?_
                     refine ret2 (.inr rfl) (by kernel_rfl) (resV_tmp s6_24) (resV_tmp s7_24) (.ro _ rfl) (.ro _ rfl) ?_
                     clear s6_24 s7_24 mo2_13 mo1_13 mo0_13 ml_13
                     (rw [if_pos hq, if_pos hq, csk_bad (i := i.toNat) (by omega) p3 (by assumption), show ((i.toNat : Nat) : Int) = i by omega]))
                · (first | replace hq_23 := bnt hq_23 | replace hq_23 := bnf hq_23 | replace hq_23 := bt hq_23 | replace hq_23 := bf hq_23 | replace hq_23 := bt' hq_23 | replace hq_23 := bf' hq_23 | skip)
                  first
                  | (cases hq_23; done) | (exfalso; omega)
                  | (
                     refine aw_skip ?_
                     refine block_n ?_
                     refine then_n ?_
                     refine aw_text (by kernel_rfl) ?_
                     first | (refine al_ro' (ro_add' s34_17 ev_c ?_) trivial rfl ?_; · (unfold In64; omega)) | refine al_ro' (ro_add s34_17 ev_c) trivial rfl ?_
                     refine al_ro' (ro_move up_h) trivial rfl ?_
                     refine al_end (fun e_25 he_25 => ?_)
                     have s2_25 := ef 2 he_25 (u2 rfl s2_17)
                     have s8_25 := ef 8 he_25 (u2 rfl s8_17)
                     have s10_25 := ef 10 he_25 (u2 rfl s10_17)
                     have s32_25 := ef 32 he_25 (u2 rfl s32_17)
                     have s33_25 := ef 33 he_25 (u2 rfl s33_17)
                     have s34_25 := ef 34 he_25 up_h
                     clear he_25 s10_17 s11_17 s2_17 s32_17 s33_17 s34_17 s73_17 s8_17
                     refine then_n ?_
                     refine ⟨_, ⟨s34_25, (s2_25.trans s2_12.symm), (s8_25.trans s8_12.symm), (s10_25.trans s10_12.symm), (s32_25.trans s32_12.symm), (s33_25.trans s33_12.symm), (mo2_13.trans mo2_5.symm), (mo1_13.trans mo1_5.symm), (mo0_13.trans mo0_5.symm), ml_13, ?_⟩, ?_⟩
                     · (refine ⟨by omega, by omega, fun j hj => ?_⟩; by_cases hji : j < i.toNat; (exact p3 j hji); (rw [show j = i.toNat by omega]; assumption))
                     · ((try dsimp only); omega)))
         · (first | replace hq_15 := bnt hq_15 | replace hq_15 := bnf hq_15 | replace hq_15 := bt hq_15 | replace hq_15 := bf hq_15 | replace hq_15 := bt' hq_15 | replace hq_15 := bf' hq_15 | skip)
           first
           | (cases hq_15; done) | (exfalso; omega)
           | (
              refine aw_exit ?_
              refine then_x ?_
              refine then_x ?_
              refine block_hit ?_
              refine then_n ?_
              refine aw_seq ?_
              refine aw_text (by kernel_rfl) ?_
              refine al_ro' (ro_assign ev_c) trivial rfl ?_
              refine al_ro' (ro_assign ev_c) trivial rfl ?_
              refine al_end (fun e_26 he_26 => ?_)
              have s6_26 := ef 6 he_26 (up_m rfl up_h)
              have s7_26 := ef 7 he_26 up_h
              clear he_26 s10_14 s2_14 s32_14 s33_14 s34_14 s35_14 s8_14
              refine then_n ?_
              refine aw_ret ?_
              refine ret2 (.inr rfl) (by kernel_rfl) (resV_tmp s6_26) (resV_tmp s7_26) (.ro _ rfl) (.ro _ rfl) ?_
              clear s6_26 s7_26 mo2_13 mo1_13 mo0_13 ml_13
              (rw [if_pos hq, if_pos hq, csk_good (fun j hj => p3 j (by omega))])))
end
end Go.Proofs.Ytgiiedpambimoaa
