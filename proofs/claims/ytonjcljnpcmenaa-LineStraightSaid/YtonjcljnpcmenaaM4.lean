/- Texts of this claim, one behind the other: lemmas for the statement. -/
import Derived.Test.YtonjcljnpcmenaaM3
/- Contracts of chapter 1: a line of few items. No conditions on a program. -/
namespace Go.Proofs.Ytonjcljnpcmenaa
open Go Go.RowKit Go.Proofs
set_option linter.unusedSimpArgs false
set_option linter.unusedVariables false
theorem y12_fl26_0 : FldIs Try.prog 26 0 0 false 1 := by unfold FldIs; kernel_rfl
theorem y12_fl26_1 : FldIs Try.prog 26 1 1 false 1 := by unfold FldIs; kernel_rfl
theorem y12_fl26_2 : FldIs Try.prog 26 2 2 false 1 := by unfold FldIs; kernel_rfl
theorem y12_fl26_3 : FldIs Try.prog 26 3 3 false 1 := by unfold FldIs; kernel_rfl
theorem y12_fl91_0 : FldIs Try.prog 91 0 0 false 1 := by unfold FldIs; kernel_rfl
theorem y12_fl91_2 : FldIs Try.prog 91 2 2 false 1 := by unfold FldIs; kernel_rfl
theorem y12_hcf69 : ∀ args w, (callFunc 69 args).run Try.prog w = .ok (.enter 69 args) w := fun _ _ => by kernel_rfl
theorem y12_sl22 : SlIs Try.prog 22 70 4 32 (.agg #[.int .i64 0, .int .i64 0, .int .i64 0, .int .i64 0]) := ⟨by kernel_rfl, by kernel_rfl, by kernel_rfl⟩
theorem y12_sl23 : SlIs Try.prog 23 87 2 16 (.agg #[.int .i64 0, .int .i64 0]) := ⟨by kernel_rfl, by kernel_rfl, by kernel_rfl⟩
theorem y12_sl24 : SlIs Try.prog 24 91 3 48 (.agg #[.string ByteArray.empty, .int .i64 0, .slice none 0 0]) := ⟨by kernel_rfl, by kernel_rfl, by kernel_rfl⟩
theorem y12_sl49 : SlIs Try.prog 49 3 1 8 (.int .i64 0) := ⟨by kernel_rfl, by kernel_rfl, by kernel_rfl⟩
theorem y12_ty22 : TyIs Try.prog 22 false 1 := ⟨by kernel_rfl, by kernel_rfl⟩
theorem y12_ty23 : TyIs Try.prog 23 false 1 := ⟨by kernel_rfl, by kernel_rfl⟩
theorem y12_ty24 : TyIs Try.prog 24 false 1 := ⟨by kernel_rfl, by kernel_rfl⟩
theorem y12_ty49 : TyIs Try.prog 49 false 1 := ⟨by kernel_rfl, by kernel_rfl⟩
theorem y12_ty9 : TyIs Try.prog 9 false 1 := ⟨by kernel_rfl, by kernel_rfl⟩
theorem y12_un9 : Try.prog.underlying 9 = some .string := by kernel_rfl

def swF (s : Swi) : Bool := decide (s.nam.size ≤ 20 ∧ s.acr.length ≤ 6)
def few0 (l : Lin) : Bool := decide (l.nam.size ≤ 20 ∧ (l.bs.length ≤ 8 ∨ (40 < l.bs.length ∧ l.bs.length ≤ 43)) ∧ (l.js.length ≤ 9 ∨ (41 < l.js.length ∧ l.js.length ≤ 44)) ∧ l.ss.length ≤ 6)
def fewL (l : Lin) : Bool := few0 l && l.ss.all swF
theorem all_hit {α : Type} [Inhabited α] {p : α → Bool} {l : List α} {j : Nat} (hj : j < l.length) (h : p (l.getD j default) = false) : l.all p = false := by
  rw [List.all_eq_false]
  exact ⟨l[j], List.getElem_mem hj, by rw [List.getD_eq_getElem?_getD, List.getElem?_eq_getElem hj] at h; simpa using h⟩
theorem all_miss {α : Type} [Inhabited α] {p : α → Bool} {l : List α} (h : ∀ j : Nat, j < l.length → p (l.getD j default) = true) : l.all p = true := by
  rw [List.all_eq_true]
  intro x hx
  obtain ⟨j, hj, rfl⟩ := List.getElem_of_mem hx
  have := h j hj
  rwa [List.getD_eq_getElem?_getD, List.getElem?_eq_getElem hj] at this
theorem fewL_sho {l : Lin} (h : fewL l = true) : Sho l := by
  simp only [fewL, few0, Bool.and_eq_true, decide_eq_true_eq, List.all_eq_true, swF] at h
  obtain ⟨⟨a, b, c, d⟩, e⟩ := h
  exact ⟨by omega, by omega, by omega, by omega, fun s hs => by have := e s hs; omega⟩
set_option maxRecDepth 100000 in
set_option maxHeartbeats 4000000 in
theorem fewL_ok (l : Lin) : FnOk Try.prog 13 [lnA l] (fun q => q = tbA (fewL l)) := by
  refine fnOk_of (fn := Try.f13) 53 (by kernel_rfl) rfl (by kernel_rfl) (Nat.le_of_ble_eq_true rfl) ?_
  intro e_0 m_0 hA hm_0
  have s0_0 : evA e_0 (.tmp 0) = _ := hA 0 _ rfl
  have ml_0 : m_0.length = 0 := by rw [hm_0]; rfl
  clear hA hm_0
  refine aw_seq <| at_ <| al_stm (st_box s0_0 rfl ml_0) trivial rfl (fun m_1 hm_1 => ?_)
  have mo0_1 := m_push hm_1 ml_0
  have ml_1 := m_push_l hm_1 ml_0
  have ml_1 : _ = 1 := ml_1
  clear hm_1
  refine ar (ro_assign ev_c) rfl <| ae1 (up_m rfl up_h) ?_; clear s0_0; intro e_2 s1_2
  refine then_n <| aw_seq <| aw_seq <| aw_cut (fun e mem => (evA e (.tmp 27) = .v (.bool (!few0 l))) ∧ (evA e (.tmp 1) = evA e_2 (.tmp 1)) ∧ m_1 = mem) ?_ ?_
  ·
    refine at_ <| ar (ro_fld_ptr y12_fl26_0 rfl s1_2) rfl <| ar (ro_eq (ro_ld_ptr y12_ty9 rfl mo0_1 up_h (nle rfl)) (by simp only [pS, Value.cells, Nat.reduceAdd, swE] <;> rfl)) rfl ?_
    refine ar (ro_len_str up_h rfl y12_un9) rfl <| ar (ro_gtr up_h ev_c) rfl <| ar (ro_move up_h) rfl <| al_case up_h (fun hb_4 hq_4 => ?_) (fun hb_4 hq_4 => ?_)
    ·replace hq_4 := bt hq_4
     refine al_skip' ⟨_, rfl, .inl hb_4⟩ rfl ?_
     refine al_skip' ⟨_, rfl, .inl (up_m rfl hb_4)⟩ rfl ?_
     refine al_skip' ⟨_, rfl, .inl (u2 rfl hb_4)⟩ rfl ?_
     refine al_skip' ⟨_, rfl, .inl (up_m rfl (u2 rfl hb_4))⟩ rfl ?_
     refine al_skip' ⟨_, rfl, .inl (u4 rfl hb_4)⟩ rfl ?_
     refine ar (ro_pickT (up_m rfl (u4 rfl hb_4)) ev_c) rfl <| ar (ro_move up_h) rfl <| al_skip' ⟨_, rfl, .inl up_h⟩ rfl ?_
     refine al_skip' ⟨_, rfl, .inl (up_m rfl up_h)⟩ rfl ?_
     refine al_skip' ⟨_, rfl, .inl (u2 rfl up_h)⟩ rfl ?_
     refine al_skip' ⟨_, rfl, .inl (up_m rfl (u2 rfl up_h))⟩ rfl ?_
     refine al_skip' ⟨_, rfl, .inl (u4 rfl up_h)⟩ rfl ?_
     refine ar (ro_pickT (up_m rfl (u4 rfl up_h)) ev_c) rfl <| ar (ro_move up_h) rfl <| al_skip' ⟨_, rfl, .inl up_h⟩ rfl ?_
     refine al_skip' ⟨_, rfl, .inl (up_m rfl up_h)⟩ rfl ?_
     refine al_skip' ⟨_, rfl, .inl (u2 rfl up_h)⟩ rfl ?_
     refine al_skip' ⟨_, rfl, .inl (up_m rfl (u2 rfl up_h))⟩ rfl ?_
     refine ar (ro_pickT (u4 rfl up_h) ev_c) rfl <| ae2 (u8 rfl (u16 rfl s1_2)) up_h ?_; intro e_5 s1_5 s27_5
     refine then_n ⟨(s27_5).trans (by (refine avb ?_; simp only [few0, fewB, Bool.not_eq_true', decide_eq_false_iff_not, decide_eq_true_eq, Bool.false_eq_true, true_iff, false_iff, iff_true, iff_false] at *; omega)), (s1_5).trans (s1_2).symm, rfl⟩
    replace hq_4 := bf hq_4
    refine al_ro' (ro_fld_ptr y12_fl26_2 rfl (up_m rfl (u4 rfl s1_2))) ⟨_, rfl, hb_4⟩ rfl ?_
    refine al_ro' (ro_eq (ro_ld_ptr y12_ty23 rfl mo0_1 up_h (nle rfl)) (by simp only [pS, Value.cells, Nat.reduceAdd, swE] <;> rfl)) ⟨_, rfl, (up_m rfl hb_4)⟩ rfl ?_
    refine al_ro' (ro_eq (ro_len_row up_h rfl y12_sl23.1) (by simp only [lnS] <;> rfl)) ⟨_, rfl, (u2 rfl hb_4)⟩ rfl ?_
    refine al_ro' (ro_call (evL_cons up_h (evL_cons ev_c (evL_cons ev_c evL_nil))) rfl (few_ok _ _ _ (by decide)) y12_hcf69) ⟨_, rfl, (up_m rfl (u2 rfl hb_4))⟩ rfl ?_
    refine al_ro' (ro_not up_h) ⟨_, rfl, (u4 rfl hb_4)⟩ rfl ?_
    refine ar (ro_pickF (up_m rfl (u4 rfl hb_4)) up_h) rfl <| ar (ro_move up_h) rfl <| al_case up_h (fun hb_6 hq_6 => ?_) (fun hb_6 hq_6 => ?_)
    ·replace hq_6 := bnt hq_6
     refine al_skip' ⟨_, rfl, .inl hb_6⟩ rfl ?_
     refine al_skip' ⟨_, rfl, .inl (up_m rfl hb_6)⟩ rfl ?_
     refine al_skip' ⟨_, rfl, .inl (u2 rfl hb_6)⟩ rfl ?_
     refine al_skip' ⟨_, rfl, .inl (up_m rfl (u2 rfl hb_6))⟩ rfl ?_
     refine al_skip' ⟨_, rfl, .inl (u4 rfl hb_6)⟩ rfl ?_
     refine ar (ro_pickT (up_m rfl (u4 rfl hb_6)) ev_c) rfl <| ar (ro_move up_h) rfl <| al_skip' ⟨_, rfl, .inl up_h⟩ rfl ?_
     refine al_skip' ⟨_, rfl, .inl (up_m rfl up_h)⟩ rfl ?_
     refine al_skip' ⟨_, rfl, .inl (u2 rfl up_h)⟩ rfl ?_
     refine al_skip' ⟨_, rfl, .inl (up_m rfl (u2 rfl up_h))⟩ rfl ?_
     refine ar (ro_pickT (u4 rfl up_h) ev_c) rfl <| ae2 (u8 rfl (u16 rfl s1_2)) up_h ?_; intro e_7 s1_7 s27_7
     refine then_n ⟨(s27_7).trans (by (refine avb ?_; simp only [few0, fewB, Bool.not_eq_true', decide_eq_false_iff_not, decide_eq_true_eq, Bool.false_eq_true, true_iff, false_iff, iff_true, iff_false] at *; omega)), (s1_7).trans (s1_2).symm, rfl⟩
    replace hq_6 := bnf hq_6
    refine al_ro' (ro_fld_ptr y12_fl26_1 rfl (u4 rfl (u8 rfl s1_2))) ⟨_, rfl, hb_6⟩ rfl ?_
    refine al_ro' (ro_eq (ro_ld_ptr y12_ty22 rfl mo0_1 up_h (nle rfl)) (by simp only [pS, Value.cells, Nat.reduceAdd, swE] <;> rfl)) ⟨_, rfl, (up_m rfl hb_6)⟩ rfl ?_
    refine al_ro' (ro_eq (ro_len_row up_h rfl y12_sl22.1) (by simp only [lnS] <;> rfl)) ⟨_, rfl, (u2 rfl hb_6)⟩ rfl ?_
    refine al_ro' (ro_call (evL_cons up_h (evL_cons ev_c (evL_cons ev_c evL_nil))) rfl (few_ok _ _ _ (by decide)) y12_hcf69) ⟨_, rfl, (up_m rfl (u2 rfl hb_6))⟩ rfl ?_
    refine al_ro' (ro_not up_h) ⟨_, rfl, (u4 rfl hb_6)⟩ rfl ?_
    refine ar (ro_pickF (up_m rfl (u4 rfl hb_6)) up_h) rfl <| ar (ro_move up_h) rfl <| al_case up_h (fun hb_8 hq_8 => ?_) (fun hb_8 hq_8 => ?_)
    ·replace hq_8 := bnt hq_8
     refine al_skip' ⟨_, rfl, .inl hb_8⟩ rfl ?_
     refine al_skip' ⟨_, rfl, .inl (up_m rfl hb_8)⟩ rfl ?_
     refine al_skip' ⟨_, rfl, .inl (u2 rfl hb_8)⟩ rfl ?_
     refine al_skip' ⟨_, rfl, .inl (up_m rfl (u2 rfl hb_8))⟩ rfl ?_
     refine ar (ro_pickT (u4 rfl hb_8) ev_c) rfl <| ae2 (u8 rfl (u16 rfl s1_2)) up_h ?_; intro e_9 s1_9 s27_9
     refine then_n ⟨(s27_9).trans (by (refine avb ?_; simp only [few0, fewB, Bool.not_eq_true', decide_eq_false_iff_not, decide_eq_true_eq, Bool.false_eq_true, true_iff, false_iff, iff_true, iff_false] at *; omega)), (s1_9).trans (s1_2).symm, rfl⟩
    replace hq_8 := bnf hq_8
    refine al_ro' (ro_fld_ptr y12_fl26_3 rfl (up_m rfl (u2 rfl (u16 rfl s1_2)))) ⟨_, rfl, hb_8⟩ rfl ?_
    refine al_ro' (ro_eq (ro_ld_ptr y12_ty24 rfl mo0_1 up_h (nle rfl)) (by simp only [pS, Value.cells, Nat.reduceAdd, swE] <;> rfl)) ⟨_, rfl, (up_m rfl hb_8)⟩ rfl ?_
    refine al_ro' (ro_eq (ro_len_row up_h rfl y12_sl24.1) (by simp only [lnS] <;> rfl)) ⟨_, rfl, (u2 rfl hb_8)⟩ rfl ?_
    refine al_ro' (ro_gtr up_h ev_c) ⟨_, rfl, (up_m rfl (u2 rfl hb_8))⟩ rfl ?_
    refine ar (ro_pickF (u4 rfl hb_8) up_h) rfl <| ae2 (u8 rfl (u16 rfl s1_2)) up_h ?_; intro e_10 s1_10 s27_10
    refine then_n ⟨(s27_10).trans (by (refine avb ?_; simp only [few0, fewB, Bool.not_eq_true', decide_eq_false_iff_not, decide_eq_true_eq, Bool.false_eq_true, true_iff, false_iff, iff_true, iff_false] at *; omega)), (s1_10).trans (s1_2).symm, rfl⟩
  · rintro e_3 _ ⟨s27_3, k1_3, rfl⟩
    have s1_3 := k1_3.trans s1_2
    refine aw_case s27_3 (fun hq_11 => ?_) (fun hq_11 => ?_)
    ·replace hq_11 := bnt hq_11
     refine aw_seq <| at_ <| ar (ro_assign ev_c) rfl <| ae1 up_h ?_; clear s1_3 s27_3; intro e_12 s2_12
     refine then_n <| aw_ret <| then_r <| ret1 (.inr rfl) (by kernel_rfl) (resV_tmp s2_12) (.ro _ rfl) ?_
     clear s2_12 mo0_1 ml_1
     (have e : few0 l = false := (by unfold few0; rw [decide_eq_false_iff_not]; first | assumption | omega); rw [fewL, e]; rfl)
    replace hq_11 := bnf hq_11
    (have hf0 : few0 l = true := (by unfold few0; rw [decide_eq_true_eq]; first | assumption | omega); have hss : l.ss.length ≤ 6 := (by simp only [few0, decide_eq_true_eq] at hf0; exact hf0.2.2.2))
    refine aw_skip <| then_n <| aw_seq <| aw_seq <| at_ <| ar (ro_assign ev_c) rfl <| ae2 (up_m rfl s1_3) up_h ?_; clear s1_3 s27_3; intro e_13 s1_13 s3_13
    refine then_n <| aw_block <| aw_loop (S := Int) (fun k e mem => (evA e (.tmp 3) = .v (.int .i64 k)) ∧ (evA e (.tmp 1) = evA e_13 (.tmp 1)) ∧ (mem[0]? = m_1[0]?) ∧ (mem.length = 1) ∧ ((0 ≤ k ∧ k ≤ l.ss.length ∧ ∀ j : Nat, j < k.toNat → swF (l.ss.getD j default) = true))) (fun k => (l.ss.length - k).toNat) _ ⟨s3_13, rfl, rfl, ml_1, ?_⟩ ?_
    · (exact ⟨by omega, by omega, fun j h => absurd h (by omega)⟩)
    · rintro k e_14 m_14 ⟨s3_14, k1_14, mk0_14, ml_14, hinv⟩
      have s1_14 := k1_14.trans s1_13
      have mo0_14 := mk0_14.trans mo0_1
      (obtain ⟨p1, p2, p3⟩ := hinv)
      refine aw_seq <| aw_seq <| at_ <| ar (ro_move s3_14) rfl <| ar (ro_fld_ptr y12_fl26_3 rfl (up_m rfl s1_14)) rfl <| ar (ro_eq (ro_ld_ptr y12_ty24 rfl mo0_14 up_h (nle rfl)) (by simp only [pS, Value.cells, Nat.reduceAdd, swE] <;> rfl)) rfl ?_
      refine ar (ro_eq (ro_len_row up_h rfl y12_sl24.1) (by simp only [lnS] <;> rfl)) rfl ?_
      refine ar (ro_lss (up_m rfl (u2 rfl up_h)) up_h) rfl <| ae3 (up_m rfl (u4 rfl s1_14)) (up_m rfl (u4 rfl s3_14)) up_h ?_; clear s1_14 s3_14; intro e_15 s1_15 s3_15 s32_15
      refine then_n <| aw_case s32_15 (fun hq_16 => ?_) (fun hq_16 => ?_)
      ·replace hq_16 := bt hq_16
       refine aw_skip <| then_n <| aw_seq <| aw_block <| aw_seq <| aw_cut (fun e mem => (evA e (.tmp 52) = .v (.bool (!swF (l.ss.getD k.toNat default)))) ∧ (evA e (.tmp 1) = evA e_15 (.tmp 1)) ∧ (evA e (.tmp 3) = evA e_15 (.tmp 3)) ∧ m_14 = mem) ?_ ?_
       ·
         refine at_ <| ar (ro_fld_ptr y12_fl26_3 rfl s1_15) rfl <| ar (ro_eq (ro_ld_ptr y12_ty24 rfl mo0_14 up_h (nle rfl)) (by simp only [pS, Value.cells, Nat.reduceAdd, swE] <;> rfl)) rfl ?_
         refine ar (ro_move (u2 rfl s3_15)) rfl <| ar (ro_eq (ro_ix y12_sl24 (up_m rfl up_h) up_h (by omega) (by first | (refine idx_map ?_; first | omega | (simp only [lnS]; omega)) | (refine idx_mapI ?_; first | omega | (simp only [lnS]; omega)) | (refine idx_mapN ?_; first | omega | (simp only [lnS]; omega)) | rfl)) (by simp only [pS, Value.cells, Nat.reduceAdd, swE] <;> rfl)) rfl ?_
         refine ar (ro_eq (ro_fld_ref y12_fl91_0 rfl up_h) (by simp only [pS, Value.cells, Nat.reduceAdd, swE] <;> rfl)) rfl ?_
         refine ar (ro_eq (ro_ld_ref y12_ty9 rfl up_h (nle rfl)) (by simp only [pS, Value.cells, Nat.reduceAdd, swE] <;> rfl)) rfl ?_
         refine ar (ro_len_str up_h rfl y12_un9) rfl <| ar (ro_gtr up_h ev_c) rfl <| ar (ro_move up_h) rfl <| al_case up_h (fun hb_18 hq_18 => ?_) (fun hb_18 hq_18 => ?_)
         ·replace hq_18 := bt hq_18
          refine al_skip' ⟨_, rfl, .inl hb_18⟩ rfl ?_
          refine al_skip' ⟨_, rfl, .inl (up_m rfl hb_18)⟩ rfl ?_
          refine al_skip' ⟨_, rfl, .inl (u2 rfl hb_18)⟩ rfl ?_
          refine al_skip' ⟨_, rfl, .inl (up_m rfl (u2 rfl hb_18))⟩ rfl ?_
          refine al_skip' ⟨_, rfl, .inl (u4 rfl hb_18)⟩ rfl ?_
          refine al_skip' ⟨_, rfl, .inl (up_m rfl (u4 rfl hb_18))⟩ rfl ?_
          refine al_skip' ⟨_, rfl, .inl (u2 rfl (u4 rfl hb_18))⟩ rfl ?_
          refine al_skip' ⟨_, rfl, .inl (up_m rfl (u2 rfl (u4 rfl hb_18)))⟩ rfl ?_
          refine ar (ro_pickT (u8 rfl hb_18) ev_c) rfl <| ae3 (u2 rfl (u16 rfl s1_15)) (u2 rfl (u16 rfl s3_15)) up_h ?_; intro e_19 s1_19 s3_19 s52_19
          refine then_n ⟨(s52_19).trans (by (refine avb ?_; simp only [swF, Bool.not_eq_true', decide_eq_false_iff_not, decide_eq_true_eq, Bool.false_eq_true, true_iff, false_iff]; omega)), (s1_19).trans (s1_15).symm, (s3_19).trans (s3_15).symm, rfl⟩
         replace hq_18 := bf hq_18
         refine al_ro' (ro_fld_ptr y12_fl26_3 rfl (up_m rfl (u8 rfl s1_15))) ⟨_, rfl, hb_18⟩ rfl ?_
         refine al_ro' (ro_eq (ro_ld_ptr y12_ty24 rfl mo0_14 up_h (nle rfl)) (by simp only [pS, Value.cells, Nat.reduceAdd, swE] <;> rfl)) ⟨_, rfl, (up_m rfl hb_18)⟩ rfl ?_
         refine al_ro' (ro_move (up_m rfl (u2 rfl (u8 rfl s3_15)))) ⟨_, rfl, (u2 rfl hb_18)⟩ rfl ?_
         refine al_ro' (ro_eq (ro_ix y12_sl24 (up_m rfl up_h) up_h (by omega) (by first | (refine idx_map ?_; first | omega | (simp only [lnS]; omega)) | (refine idx_mapI ?_; first | omega | (simp only [lnS]; omega)) | (refine idx_mapN ?_; first | omega | (simp only [lnS]; omega)) | rfl)) (by simp only [pS, Value.cells, Nat.reduceAdd, swE] <;> rfl)) ⟨_, rfl, (up_m rfl (u2 rfl hb_18))⟩ rfl ?_
         refine al_ro' (ro_eq (ro_fld_ref y12_fl91_2 rfl up_h) (by simp only [pS, Value.cells, Nat.reduceAdd, swE] <;> rfl)) ⟨_, rfl, (u4 rfl hb_18)⟩ rfl ?_
         refine al_ro' (ro_eq (ro_ld_ref y12_ty49 rfl up_h (nle rfl)) (by simp only [pS, Value.cells, Nat.reduceAdd, swE] <;> rfl)) ⟨_, rfl, (up_m rfl (u4 rfl hb_18))⟩ rfl ?_
         refine al_ro' (ro_eq (ro_len_row up_h rfl y12_sl49.1) (by simp only [lnS] <;> rfl)) ⟨_, rfl, (u2 rfl (u4 rfl hb_18))⟩ rfl ?_
         refine al_ro' (ro_gtr up_h ev_c) ⟨_, rfl, (up_m rfl (u2 rfl (u4 rfl hb_18)))⟩ rfl ?_
         refine ar (ro_pickF (u8 rfl hb_18) up_h) rfl <| ae3 (u2 rfl (u16 rfl s1_15)) (u2 rfl (u16 rfl s3_15)) up_h ?_; intro e_20 s1_20 s3_20 s52_20
         refine then_n ⟨(s52_20).trans (by (refine avb ?_; simp only [swF, Bool.not_eq_true', decide_eq_false_iff_not, decide_eq_true_eq, Bool.false_eq_true, true_iff, false_iff]; omega)), (s1_20).trans (s1_15).symm, (s3_20).trans (s3_15).symm, rfl⟩
       · rintro e_17 _ ⟨s52_17, k1_17, k3_17, rfl⟩
         have s1_17 := k1_17.trans s1_15
         have s3_17 := k3_17.trans s3_15
         refine aw_case s52_17 (fun hq_21 => ?_) (fun hq_21 => ?_)
         ·replace hq_21 := bnt hq_21
          refine aw_seq <| at_ <| ar (ro_assign ev_c) rfl <| ae1 up_h ?_; clear s1_17 s3_17 s52_17; intro e_22 s2_22
          refine then_n <| aw_ret <| block_r <| then_r <| then_r <| block_r <| then_r <| ret1 (.inr rfl) (by kernel_rfl) (resV_tmp s2_22) (.ro _ rfl) ?_
          clear s2_22 mo0_14 ml_14
          (rw [fewL, hf0, all_hit (j := k.toNat) (by omega) (by first | assumption | (unfold swF; rw [decide_eq_false_iff_not]; first | assumption | omega))]; rfl)
         replace hq_21 := bnf hq_21
         refine aw_skip <| block_n <| then_n <| at_ <| ar (ro_move s3_17) rfl ?_
         (refine ar (ro_add' up_h ev_c ?_) rfl ?_; · (unfold In64; omega))
         refine ar (ro_assign up_h) rfl <| ae2 (up_m rfl (u2 rfl s1_17)) up_h ?_; clear s1_17 s3_17 s52_17; intro e_23 s1_23 s3_23
         refine then_n <| ⟨_, ⟨s3_23, (s1_23.trans s1_13.symm), (mo0_14.trans mo0_1.symm), ml_14, ?_⟩, ?_⟩
         · (refine ⟨by omega, by omega, fun j hj => ?_⟩; by_cases hji : j < k.toNat; (exact p3 j hji); (rw [show j = k.toNat by omega]; first | assumption | (unfold swF; rw [decide_eq_true_eq]; first | assumption | omega)))
         · ((try dsimp only); omega)
      replace hq_16 := bf hq_16
      refine aw_exit <| then_x <| then_x <| block_hit <| then_n <| aw_seq <| at_ <| ar (ro_assign ev_c) rfl <| ae1 up_h ?_; clear s1_15 s32_15 s3_15; intro e_24 s2_24
      refine then_n <| aw_ret <| ret1 (.inr rfl) (by kernel_rfl) (resV_tmp s2_24) (.ro _ rfl) ?_
      clear s2_24 mo0_14 ml_14
      (rw [fewL, hf0, all_miss (fun j hj => p3 j (by omega))]; rfl)
end Go.Proofs.Ytonjcljnpcmenaa

/- Contracts of chapter 1: a line copied. No conditions on a program. -/
namespace Go.Proofs.Ytonjcljnpcmenaa
open Go Go.RowKit Go.Proofs
set_option linter.unusedSimpArgs false
set_option linter.unusedVariables false
theorem y13_az26 : (Try.prog.info? 26).bind (·.zero) = some (.agg #[.string ByteArray.empty, .slice none 0 0, .slice none 0 0, .slice none 0 0]) := by kernel_rfl
theorem y13_az91 : (Try.prog.info? 91).bind (·.zero) = some (.agg #[.string ByteArray.empty, .int .i64 0, .slice none 0 0]) := by kernel_rfl
theorem y13_fl26_1 : FldIs Try.prog 26 1 1 false 1 := by unfold FldIs; kernel_rfl
theorem y13_fl26_2 : FldIs Try.prog 26 2 2 false 1 := by unfold FldIs; kernel_rfl
theorem y13_fl26_3 : FldIs Try.prog 26 3 3 false 1 := by unfold FldIs; kernel_rfl
theorem y13_fl91_2 : FldIs Try.prog 91 2 2 false 1 := by unfold FldIs; kernel_rfl
theorem y13_hcf75 : ∀ args w, (callFunc 75 args).run Try.prog w = .ok (.enter 75 args) w := fun _ _ => by kernel_rfl
theorem y13_sl22 : SlIs Try.prog 22 70 4 32 (.agg #[.int .i64 0, .int .i64 0, .int .i64 0, .int .i64 0]) := ⟨by kernel_rfl, by kernel_rfl, by kernel_rfl⟩
theorem y13_sl23 : SlIs Try.prog 23 87 2 16 (.agg #[.int .i64 0, .int .i64 0]) := ⟨by kernel_rfl, by kernel_rfl, by kernel_rfl⟩
theorem y13_sl24 : SlIs Try.prog 24 91 3 48 (.agg #[.string ByteArray.empty, .int .i64 0, .slice none 0 0]) := ⟨by kernel_rfl, by kernel_rfl, by kernel_rfl⟩
theorem y13_sl49 : SlIs Try.prog 49 3 1 8 (.int .i64 0) := ⟨by kernel_rfl, by kernel_rfl, by kernel_rfl⟩
theorem y13_sz22 : (Try.prog.info? 22).map (·.size) = some 1 := by kernel_rfl
theorem y13_sz23 : (Try.prog.info? 23).map (·.size) = some 1 := by kernel_rfl
theorem y13_sz24 : (Try.prog.info? 24).map (·.size) = some 1 := by kernel_rfl
theorem y13_sz26 : (Try.prog.info? 26).map (·.size) = some 4 := by kernel_rfl
theorem y13_sz49 : (Try.prog.info? 49).map (·.size) = some 1 := by kernel_rfl
theorem y13_sz91 : (Try.prog.info? 91).map (·.size) = some 3 := by kernel_rfl
theorem y13_ty22 : TyIs Try.prog 22 false 1 := ⟨by kernel_rfl, by kernel_rfl⟩
theorem y13_ty23 : TyIs Try.prog 23 false 1 := ⟨by kernel_rfl, by kernel_rfl⟩
theorem y13_ty24 : TyIs Try.prog 24 false 1 := ⟨by kernel_rfl, by kernel_rfl⟩
theorem y13_ty26 : TyIs Try.prog 26 true 4 := ⟨by kernel_rfl, by kernel_rfl⟩
theorem y13_ty49 : TyIs Try.prog 49 false 1 := ⟨by kernel_rfl, by kernel_rfl⟩
theorem y13_ty91 : TyIs Try.prog 91 true 3 := ⟨by kernel_rfl, by kernel_rfl⟩

theorem one_swE (a : ByteArray) (b : Int) (c : List Int) : [[AV.v (.string a), AV.v (.int .i64 b), AV.row 1 (c.map iE)]] = [(⟨a, b, c⟩ : Swi)].map swE := rfl
theorem take_suc {l : List Swi} {i : Int} (h0 : 0 ≤ i) (h : i < l.length) : l.take (i + 1).toNat = l.take i.toNat ++ [l.getD i.toNat default] := by
  rw [show (i + 1).toNat = i.toNat + 1 by omega, List.take_add_one, List.getElem?_eq_getElem (by omega : i.toNat < l.length), List.getD_eq_getElem?_getD, List.getElem?_eq_getElem (by omega : i.toNat < l.length)]
  rfl
set_option maxRecDepth 100000 in
set_option maxHeartbeats 1000000 in
theorem yCopyInts_ok (xs : List Int) (hc : xs.length ≤ 1000000) : FnOk Try.prog 75 [.row 1 (xs.map iE)] (fun q => q = .row 1 (xs.map iE)) := by
  refine fnOk_of (fn := Try.f75) 6 (by kernel_rfl) rfl (by kernel_rfl) (Nat.le_of_ble_eq_true rfl) ?_
  intro e_0 m_0 hA hm_0
  have s0_0 : evA e_0 (.tmp 0) = _ := hA 0 _ rfl
  have ml_0 : m_0.length = 0 := by rw [hm_0]; rfl
  clear hA hm_0
  refine aw_seq <| at_ <| ar (ro_assign ev_c) rfl <| ae1 (up_m rfl s0_0) ?_; clear s0_0; intro e_1 s0_1
  refine then_n <| aw_seq <| at_ <| ar (ro_lit0 y13_sl49) rfl <| ar (ro_move (up_m rfl s0_1)) rfl <| ar (ro_ape y13_sl49 rfl (up_m rfl up_h) up_h (by simp only [lnS] <;> omega)) rfl ?_
  refine ar (ro_assign up_h) rfl <| ae1 up_h ?_; clear s0_1; intro e_2 s2_2
  refine then_n <| aw_ret <| ret1 (.inr rfl) (by kernel_rfl) (resV_tmp s2_2) (.ro _ rfl) ?_
  clear s2_2  ml_0
  rfl
set_option maxRecDepth 100000 in
set_option maxHeartbeats 4000000 in
theorem yCopy_ok (l : Lin) (hl : Sho l) : FnOk Try.prog 18 [lnA l] (fun q => q = lnA l) := by
  obtain ⟨h1, h2, h3, h4, h5⟩ := id hl
  refine fnOk_of (fn := Try.f18) 39 (by kernel_rfl) rfl (by kernel_rfl) (Nat.le_of_ble_eq_true rfl) ?_
  intro e_0 m_0 hA hm_0
  have s0_0 : evA e_0 (.tmp 0) = _ := hA 0 _ rfl
  have ml_0 : m_0.length = 0 := by rw [hm_0]; rfl
  clear hA hm_0
  refine aw_seq <| at_ <| al_stm (st_box s0_0 rfl ml_0) trivial rfl (fun m_1 hm_1 => ?_)
  have mo0_1 := m_push hm_1 ml_0
  have ml_1 := m_push_l hm_1 ml_0
  have ml_1 : _ = 1 := ml_1
  clear hm_1
  refine al_stm (st_alloc y13_az26 rfl ml_1) trivial rfl (fun m_2 hm_2 => ?_)
  have mo1_2 := m_push hm_2 ml_1
  simp only [pS, Value.cells, Nat.reduceAdd, swE, one_swE, app_m] at mo1_2
  have mo0_2 := m_push_o hm_2 mo0_1
  have ml_2 := m_push_l hm_2 ml_1
  have ml_2 : _ = 2 := ml_2
  clear hm_2 mo0_1
  refine ae2 (up_m rfl up_h) up_h ?_; clear s0_0; intro e_3 s1_3 s2_3
  refine then_n <| aw_seq <| at_ <| ar (ro_lit0 y13_sl22) rfl <| ar (ro_fld_ptr y13_fl26_1 rfl (up_m rfl s1_3)) rfl <| ar (ro_eq (ro_ld_ptr y13_ty22 rfl mo0_2 up_h (nle rfl)) (by simp only [pS, Value.cells, Nat.reduceAdd, swE, one_swE, app_m] <;> rfl)) rfl ?_
  refine ar (ro_ape y13_sl22 rfl (u2 rfl up_h) up_h (by simp only [lnS] <;> omega)) rfl ?_
  refine ar (ro_fld_ptr y13_fl26_1 rfl (u4 rfl s1_3)) rfl <| al_stm (st_store up_h (up_m rfl up_h) rfl rfl mo0_2 y13_sz22 rfl (nle rfl)) trivial rfl (fun m_4 hm_4 => ?_)
  have mo0_4 := m_set hm_4 mo0_2
  simp only [pS, Value.cells, Nat.reduceAdd, swE, one_swE, app_m] at mo0_4
  have mo1_4 := m_set_o hm_4 mo1_2 (by decide)
  have ml_4 := m_set_l hm_4 ml_2
  clear hm_4 mo1_2 mo0_2
  refine ae2 (up_n (up_m rfl (u4 rfl s1_3))) (up_n (up_m rfl (u4 rfl s2_3))) ?_; clear s1_3 s2_3; intro e_5 s1_5 s2_5
  refine then_n <| aw_seq <| at_ <| ar (ro_lit0 y13_sl23) rfl <| ar (ro_fld_ptr y13_fl26_2 rfl (up_m rfl s1_5)) rfl <| ar (ro_eq (ro_ld_ptr y13_ty23 rfl mo0_4 up_h (nle rfl)) (by simp only [pS, Value.cells, Nat.reduceAdd, swE, one_swE, app_m] <;> rfl)) rfl ?_
  refine ar (ro_ape y13_sl23 rfl (u2 rfl up_h) up_h (by simp only [lnS] <;> omega)) rfl ?_
  refine ar (ro_fld_ptr y13_fl26_2 rfl (u4 rfl s1_5)) rfl <| al_stm (st_store up_h (up_m rfl up_h) rfl rfl mo0_4 y13_sz23 rfl (nle rfl)) trivial rfl (fun m_6 hm_6 => ?_)
  have mo0_6 := m_set hm_6 mo0_4
  simp only [pS, Value.cells, Nat.reduceAdd, swE, one_swE, app_m] at mo0_6
  have mo1_6 := m_set_o hm_6 mo1_4 (by decide)
  have ml_6 := m_set_l hm_6 ml_4
  clear hm_6 mo0_4 mo1_4
  refine ae2 (up_n (up_m rfl (u4 rfl s1_5))) (up_n (up_m rfl (u4 rfl s2_5))) ?_; clear s1_5 s2_5; intro e_7 s1_7 s2_7
  refine then_n <| aw_seq <| at_ <| ar (ro_assign ev_c) rfl <| ae3 (up_m rfl s1_7) (up_m rfl s2_7) up_h ?_; clear s1_7 s2_7; intro e_8 s1_8 s2_8 s3_8
  refine then_n <| aw_seq <| aw_seq <| at_ <| ar (ro_assign ev_c) rfl <| ae4 (up_m rfl s1_8) (up_m rfl s2_8) (up_m rfl s3_8) up_h ?_; clear s1_8 s2_8 s3_8; intro e_9 s1_9 s2_9 s3_9 s4_9
  refine then_n <| aw_block <| aw_adopt 91 3 s3_9 ml_6 (fun m_10 e_10 hm_10 he_10 => ?_)
  have mo2_10 := m_push hm_10 ml_6
  have mo0_10 := m_push_o hm_10 mo0_6
  have mo1_10 := m_push_o hm_10 mo1_6
  have ml_10 := m_push_l hm_10 ml_6
  have ml_10 : _ = 3 := ml_10
  have s1_10 : evA e_10 (.tmp 1) = _ := (congrArg (fun q => evA q (.tmp 1)) he_10).trans (up_m rfl s1_9)
  have s2_10 : evA e_10 (.tmp 2) = _ := (congrArg (fun q => evA q (.tmp 2)) he_10).trans (up_m rfl s2_9)
  have s3_10 : evA e_10 (.tmp 3) = _ := (congrArg (fun q => evA q (.tmp 3)) he_10).trans up_h
  have s4_10 : evA e_10 (.tmp 4) = _ := (congrArg (fun q => evA q (.tmp 4)) he_10).trans (up_m rfl s4_9)
  clear hm_10 he_10
  refine aw_loop (S := (Int × List Swi)) (fun s e mem => match s with | ⟨k, xs⟩ => (evA e (.tmp 4) = .v (.int .i64 k)) ∧ (evA e (.tmp 1) = evA e_10 (.tmp 1)) ∧ (evA e (.tmp 2) = evA e_10 (.tmp 2)) ∧ (mem[0]? = m_10[0]?) ∧ (mem[1]? = m_10[1]?) ∧ (∃ j, evA e (.tmp 3) = .own j ∧ mem[j]? = some (.row 91 3 (xs.map swE)) ∧ j ≠ 0 ∧ j ≠ 1) ∧ (∃ n, mem.length = n ∧ 3 ≤ n) ∧ ((0 ≤ k ∧ k ≤ l.ss.length ∧ xs = l.ss.take k.toNat))) (fun s => match s with | ⟨k, xs⟩ => (l.ss.length - k).toNat) ⟨_, []⟩ ⟨s4_10, rfl, rfl, rfl, rfl, ⟨_, s3_10, mo2_10, (by decide), (by decide)⟩, ⟨_, ml_10, Nat.le_refl _⟩, ?_⟩ ?_
  · (exact ⟨by omega, by omega, rfl⟩)
  · rintro ⟨k, xs⟩ e_11 m_11 ⟨s4_11, k1_11, k2_11, mk0_11, mk1_11, ⟨j3_11, s3_11, mo_j3_11, nj3_0_11, nj3_1_11⟩, ⟨n_11, ml_11, hn_11⟩, hinv⟩
    have s1_11 := k1_11.trans s1_10
    have s2_11 := k2_11.trans s2_10
    have mo0_11 := mk0_11.trans mo0_10
    have mo1_11 := mk1_11.trans mo1_10
    have jl3_11 := m_lt mo_j3_11 ml_11
    (obtain ⟨p1, p2, p3⟩ := hinv; have hso := hl.at k.toNat; have hxl : xs.length ≤ 1000000 := (by rw [p3, List.length_take]; omega))
    refine aw_seq <| aw_seq <| at_ <| ar (ro_move s4_11) rfl <| ar (ro_fld_ptr y13_fl26_3 rfl (up_m rfl s1_11)) rfl <| ar (ro_eq (ro_ld_ptr y13_ty24 rfl mo0_11 up_h (nle rfl)) (by simp only [pS, Value.cells, Nat.reduceAdd, swE, one_swE, app_m] <;> rfl)) rfl ?_
    refine ar (ro_eq (ro_len_row up_h rfl y13_sl24.1) (by simp only [lnS] <;> rfl)) rfl ?_
    refine ar (ro_lss (up_m rfl (u2 rfl up_h)) up_h) rfl <| ae5 (up_m rfl (u4 rfl s1_11)) (up_m rfl (u4 rfl s2_11)) (up_m rfl (u4 rfl s3_11)) (up_m rfl (u4 rfl s4_11)) up_h ?_; clear s1_11 s2_11 s3_11 s4_11; intro e_12 s1_12 s2_12 s3_12 s4_12 s20_12
    refine then_n <| aw_case s20_12 (fun hq_13 => ?_) (fun hq_13 => ?_)
    ·replace hq_13 := bt hq_13
     refine aw_skip <| then_n <| aw_seq <| aw_block <| aw_seq <| at_ <| ar (ro_fld_ptr y13_fl26_3 rfl s1_12) rfl <| ar (ro_eq (ro_ld_ptr y13_ty24 rfl mo0_11 up_h (nle rfl)) (by simp only [pS, Value.cells, Nat.reduceAdd, swE, one_swE, app_m] <;> rfl)) rfl ?_
     refine ar (ro_move (u2 rfl s4_12)) rfl <| ar (ro_eq (ro_ix y13_sl24 (up_m rfl up_h) up_h (by omega) (by first | (refine idx_map ?_; first | omega | (simp only [lnS]; omega)) | (refine idx_mapI ?_; first | omega | (simp only [lnS]; omega)) | (refine idx_mapN ?_; first | omega | (simp only [lnS]; omega)) | rfl)) (by simp only [pS, Value.cells, Nat.reduceAdd, swE, one_swE, app_m] <;> rfl)) rfl ?_
     refine ar (ro_eq (ro_ld_ref y13_ty91 rfl up_h (nle rfl)) (by simp only [pS, Value.cells, Nat.reduceAdd, swE, one_swE, app_m] <;> rfl)) rfl ?_
     refine al_stm (st_alloc y13_az91 rfl ml_11) trivial rfl (fun m_14 hm_14 => ?_)
     have mon_11_14 := m_push hm_14 ml_11
     simp only [pS, Value.cells, Nat.reduceAdd, swE, one_swE, app_m] at mon_11_14
     have mo0_14 := m_push_o hm_14 mo0_11
     have mo1_14 := m_push_o hm_14 mo1_11
     have moj3_11_14 := m_push_o hm_14 mo_j3_11
     have ml_14 := m_push_l hm_14 ml_11
     clear hm_14 mo0_11 mo1_11 mo_j3_11
     refine al_stm (st_store up_h (up_m rfl up_h) rfl rfl mon_11_14 y13_sz91 rfl (nle rfl)) trivial rfl (fun m_15 hm_15 => ?_)
     have mon_11_15 := m_set hm_15 mon_11_14
     simp only [pS, Value.cells, Nat.reduceAdd, swE, one_swE, app_m] at mon_11_15
     have mo0_15 := m_set_o hm_15 mo0_14 (by omega)
     have mo1_15 := m_set_o hm_15 mo1_14 (by omega)
     have moj3_11_15 := m_set_o hm_15 moj3_11_14 (by omega)
     have ml_15 := m_set_l hm_15 ml_14
     clear hm_15 mon_11_14 mo0_14 mo1_14 moj3_11_14
     refine ae5 (up_n (u2 rfl (u4 rfl s1_12))) (up_n (u2 rfl (u4 rfl s2_12))) (up_n (u2 rfl (u4 rfl s3_12))) (up_n (u2 rfl (u4 rfl s4_12))) (up_n up_h) ?_; clear s1_12 s20_12 s2_12 s3_12 s4_12; intro e_16 s1_16 s2_16 s3_16 s4_16 s5_16
     refine then_n <| aw_seq <| at_ <| ar (ro_fld_ptr y13_fl91_2 rfl s5_16) rfl <| ar (ro_eq (ro_ld_ptr y13_ty49 rfl mon_11_15 up_h (nle rfl)) (by simp only [pS, Value.cells, Nat.reduceAdd, swE, one_swE, app_m] <;> rfl)) rfl ?_
     refine ar (ro_call (evL_cons up_h evL_nil) rfl (yCopyInts_ok _ (by omega)) y13_hcf75) rfl ?_
     refine ar (ro_fld_ptr y13_fl91_2 rfl (up_m rfl (u2 rfl s5_16))) rfl <| al_stm (st_store up_h (up_m rfl up_h) rfl rfl mon_11_15 y13_sz49 rfl (nle rfl)) trivial rfl (fun m_17 hm_17 => ?_)
     have mon_11_17 := m_set hm_17 mon_11_15
     simp only [pS, Value.cells, Nat.reduceAdd, swE, one_swE, app_m] at mon_11_17
     have mo0_17 := m_set_o hm_17 mo0_15 (by omega)
     have mo1_17 := m_set_o hm_17 mo1_15 (by omega)
     have moj3_11_17 := m_set_o hm_17 moj3_11_15 (by omega)
     have ml_17 := m_set_l hm_17 ml_15
     clear hm_17 mon_11_15 mo0_15 mo1_15 moj3_11_15
     refine ae5 (up_n (u4 rfl s1_16)) (up_n (u4 rfl s2_16)) (up_n (u4 rfl s3_16)) (up_n (u4 rfl s4_16)) (up_n (u4 rfl s5_16)) ?_; clear s1_16 s2_16 s3_16 s4_16 s5_16; intro e_18 s1_18 s2_18 s3_18 s4_18 s5_18
     refine then_n <| at_ <| ar (ro_move s3_18) rfl <| ar (ro_eq (ro_ld_ptr y13_ty91 rfl mon_11_17 (up_m rfl s5_18) (nle rfl)) (by simp only [pS, Value.cells, Nat.reduceAdd, swE, one_swE, app_m] <;> rfl)) rfl ?_
     refine ar (ro_lit y13_sl24 (evP_cons up_h evP_nil) rfl rfl rfl rfl) rfl <| al_stm (st_app y13_sl24 rfl ml_17 moj3_11_17 (u2 rfl up_h) up_h (by rfl) (by simp only [lnS] <;> omega)) trivial rfl (fun m_19 hm_19 => ?_)
     have mon_11_1_19 := m_swap hm_19 ml_17
     simp only [pS, Value.cells, Nat.reduceAdd, swE, one_swE, app_m] at mon_11_1_19
     have mon_11_19 := m_swap_o hm_19 mon_11_17 (by omega)
     have mo0_19 := m_swap_o hm_19 mo0_17 (by omega)
     have mo1_19 := m_swap_o hm_19 mo1_17 (by omega)
     have ml_19 := m_swap_l hm_19 ml_17
     clear hm_19 mon_11_17 mo0_17 mo1_17 moj3_11_17
     refine ar (ro_assign up_h) rfl <| ae4 (up_m rfl (u4 rfl s1_18)) (up_m rfl (u4 rfl s2_18)) up_h (up_m rfl (u4 rfl s4_18)) ?_; clear s1_18 s2_18 s3_18 s4_18 s5_18; intro e_20 s1_20 s2_20 s3_20 s4_20
     refine block_n <| then_n <| at_ <| ar (ro_move s4_20) rfl ?_
     (refine ar (ro_add' up_h ev_c ?_) rfl ?_; · (unfold In64; omega))
     refine ar (ro_assign up_h) rfl <| ae4 (up_m rfl (u2 rfl s1_20)) (up_m rfl (u2 rfl s2_20)) (up_m rfl (u2 rfl s3_20)) up_h ?_; clear s1_20 s2_20 s3_20 s4_20; intro e_21 s1_21 s2_21 s3_21 s4_21
     refine then_n <| ⟨⟨_, _⟩, ⟨s4_21, (s1_21.trans s1_10.symm), (s2_21.trans s2_10.symm), (mo0_19.trans mo0_10.symm), (mo1_19.trans mo1_10.symm), ⟨_, s3_21, mon_11_1_19, (by omega), (by omega)⟩, ⟨_, ml_19, by omega⟩, ?_⟩, ?_⟩
     · (refine ⟨by omega, by omega, ?_⟩; rw [take_suc p1 (by omega), ← p3])
     · ((try dsimp only); omega)
    replace hq_13 := bf hq_13
    refine aw_exit <| then_x <| then_x <| block_hit <| then_n <| aw_seq <| at_ <| ar (ro_move s3_12) rfl <| ar (ro_fld_ptr y13_fl26_3 rfl (up_m rfl s1_12)) rfl <| al_stm (st_store_own up_h (up_m rfl up_h) mo0_11 mo_j3_11 y13_sz24 (nle rfl)) trivial rfl (fun m_22 hm_22 => ?_)
    have mo0_22 := m_set hm_22 mo0_11
    simp only [pS, Value.cells, Nat.reduceAdd, swE, one_swE, app_m] at mo0_22
    have mo1_22 := m_set_o hm_22 mo1_11 (by decide)
    have moj3_11_22 := m_set_o hm_22 mo_j3_11 (by omega)
    have ml_22 := m_set_l hm_22 ml_11
    clear hm_22 mo0_11 mo1_11 mo_j3_11
    refine ae2 (up_n (u2 rfl s1_12)) (up_n (u2 rfl s2_12)) ?_; clear s1_12 s20_12 s2_12 s3_12 s4_12; intro e_23 s1_23 s2_23
    refine then_n <| aw_seq <| at_ <| ar (ro_eq (ro_ld_ptr y13_ty26 rfl mo0_22 s1_23 (nle rfl)) (by simp only [pS, Value.cells, Nat.reduceAdd, swE, one_swE, app_m] <;> rfl)) rfl ?_
    refine al_stm (st_storeO (up_m rfl s2_23) up_h rfl (oneL_c rfl (oneL_c rfl (oneL_c rfl (oneL_o moj3_11_22 oneL_nil)))) mo1_22 y13_sz26 rfl (nle rfl)) trivial rfl (fun m_24 hm_24 => ?_)
    have mo1_24 := m_set hm_24 mo1_22
    simp only [pS, Value.cells, Nat.reduceAdd, swE, one_swE, app_m] at mo1_24
    have mo0_24 := m_set_o hm_24 mo0_22 (by decide)
    have moj3_11_24 := m_set_o hm_24 moj3_11_22 (by omega)
    have ml_24 := m_set_l hm_24 ml_22
    clear hm_24 mo0_22 mo1_22 moj3_11_22
    refine ae1 (up_n (up_m rfl s2_23)) ?_; clear s1_23 s2_23; intro e_25 s2_25
    refine then_n <| aw_ret <| ret1 (.inr rfl) (by kernel_rfl) (resV_cell s2_25 mo1_24 y13_ty26 (nle rfl) (by simp)) (vw_r (vw_agg (vwl_cons (.ro _ rfl) (vwl_cons (.ro _ rfl) (vwl_cons (.ro _ rfl) (vwl_cons (.own _ _ _ _ moj3_11_24) vwl_nil)))))) ?_
    clear s2_25 mo1_24 mo0_24 moj3_11_24 ml_24
    (rw [p3, List.take_of_length_le (by omega)])
end Go.Proofs.Ytonjcljnpcmenaa

/- Contracts of chapter 1: a track opened. No conditions on a program. -/
namespace Go.Proofs.Ytonjcljnpcmenaa
open Go Go.RowKit Go.Proofs
set_option linter.unusedSimpArgs false
set_option linter.unusedVariables false
end Go.Proofs.Ytonjcljnpcmenaa

