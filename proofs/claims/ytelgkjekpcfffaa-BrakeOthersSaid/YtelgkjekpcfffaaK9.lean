/- Contracts of chapter 5: the fastest squares, where a train stands. No conditions on a program. -/
import Derived.Test.YtelgkjekpcfffaaK8
namespace Go.Proofs.Ytelgkjekpcfffaa
open Go Go.RowKit Go.Proofs
set_option linter.unusedSimpArgs false
set_option linter.unusedVariables false
theorem k9_az103 : (Try.prog.info? 103).bind (·.zero) = some (.agg #[.string ByteArray.empty, .slice none 0 0, .int .i64 0, .int .i64 0, .int .i64 0]) := by kernel_rfl
theorem k9_ar27 : ArIs Try.prog 27 2 1 := ⟨by kernel_rfl, by kernel_rfl⟩
theorem k9_fl101_0 : FldIs Try.prog 101 0 0 true 2 := by unfold FldIs; kernel_rfl
theorem k9_fl103_0 : FldIs Try.prog 103 0 0 true 2 := by unfold FldIs; kernel_rfl
theorem k9_fl24_1 : FldIs Try.prog 24 1 1 false 1 := by unfold FldIs; kernel_rfl
theorem k9_hcf62 : ∀ args w, (callFunc 62 args).run Try.prog w = .ok (.enter 62 args) w := fun _ _ => by kernel_rfl
theorem k9_hcf63 : ∀ args w, (callFunc 63 args).run Try.prog w = .ok (.enter 63 args) w := fun _ _ => by kernel_rfl
theorem k9_hcf64 : ∀ args w, (callFunc 64 args).run Try.prog w = .ok (.enter 64 args) w := fun _ _ => by kernel_rfl
theorem k9_hcf65 : ∀ args w, (callFunc 65 args).run Try.prog w = .ok (.enter 65 args) w := fun _ _ => by kernel_rfl
theorem k9_hcf66 : ∀ args w, (callFunc 66 args).run Try.prog w = .ok (.enter 66 args) w := fun _ _ => by kernel_rfl
theorem k9_hcf67 : ∀ args w, (callFunc 67 args).run Try.prog w = .ok (.enter 67 args) w := fun _ _ => by kernel_rfl
theorem k9_hcf68 : ∀ args w, (callFunc 68 args).run Try.prog w = .ok (.enter 68 args) w := fun _ _ => by kernel_rfl
theorem k9_hcf69 : ∀ args w, (callFunc 69 args).run Try.prog w = .ok (.enter 69 args) w := fun _ _ => by kernel_rfl
theorem k9_sl133 : SlIs Try.prog 133 31 1 8 (.int .i64 0) := ⟨by kernel_rfl, by kernel_rfl, by kernel_rfl⟩
theorem k9_sl22 : SlIs Try.prog 22 66 4 32 (.agg #[.int .i64 0, .int .i64 0, .int .i64 0, .bool false]) := ⟨by kernel_rfl, by kernel_rfl, by kernel_rfl⟩
theorem k9_sl30 : SlIs Try.prog 30 3 1 8 (.int .i64 0) := ⟨by kernel_rfl, by kernel_rfl, by kernel_rfl⟩
theorem k9_sz103 : (Try.prog.info? 103).map (·.size) = some 5 := by kernel_rfl
theorem k9_ty101 : TyIs Try.prog 101 true 2 := ⟨by kernel_rfl, by kernel_rfl⟩
theorem k9_ty103 : TyIs Try.prog 103 true 5 := ⟨by kernel_rfl, by kernel_rfl⟩
theorem k9_ty22 : TyIs Try.prog 22 false 1 := ⟨by kernel_rfl, by kernel_rfl⟩
theorem k9_ty24 : TyIs Try.prog 24 true 2 := ⟨by kernel_rfl, by kernel_rfl⟩
theorem k9_ty26 : TyIs Try.prog 26 true 3 := ⟨by kernel_rfl, by kernel_rfl⟩
theorem k9_ty3 : TyIs Try.prog 3 false 1 := ⟨by kernel_rfl, by kernel_rfl⟩

def fasM (ps : List Piece) (b e1 : Int) : List Int := bwL ps b (min e1 ((liW ps (ps.length + 1)).getD ps.length default)) ps.length
def fasF (ps : List Piece) (b v e1 : Int) (k : Nat) (x : Int) : Int := min ((fasM ps b e1).getD (k + 1) default) (x + -losW (-v) (ps.getD k default))
def fasW (ps : List Piece) (b v e0 e1 : Int) : List Int × Int :=
  if (fasM ps b e1).getD 0 default < e0 then ([], 12) else
  match goL (fasF ps b v e1) e0 ps.length with
  | none => ([], 12)
  | some l => (l, 0)
def fasE (nm : ByteArray) (ps : List Piece) (b d v e0 e1 : Int) : Int := firstE [firstE [(chk nm ps).2, sysE b d v], unlessE (withinB e0 0 20000000000 && withinB e1 0 20000000000) 2]
theorem fasE_right {nm : ByteArray} {ps : List Piece} {b d v e0 e1 : Int} (h : fasE nm ps b d v e0 e1 = 0) : trackR ps ∧ sysR b d v ∧ (0 ≤ e0 ∧ e0 ≤ 20000000000) ∧ (0 ≤ e1 ∧ e1 ≤ 20000000000) := by
  obtain ⟨h1, h2, h3⟩ := ride_right h
  have a1 := unlessE_zero (firstE_cons h3).1 (by decide)
  simp only [withinB, Bool.and_eq_true, decide_eq_true_eq] at a1
  exact ⟨h1, h2, a1.1, a1.2⟩
section
variable (nm : ByteArray) (ps : List Piece) (hs : nm.size ≤ 1000000000) (hp : ps.length ≤ 1000000000) (b d v : Int)
include hs hp
set_option maxRecDepth 100000 in
set_option maxHeartbeats 4000000 in
theorem fastest_ok (e0 e1 : Int) : FnOk Try.prog 17 [trA nm ps, syA b d v, .agg [iA e0, iA e1]] (fun q => q = .tuple [.row 1 ((if fasE nm ps b d v e0 e1 = 0 then (fasW ps b v e0 e1).1 else []).map iE), iA (if fasE nm ps b d v e0 e1 = 0 then (fasW ps b v e0 e1).2 else fasE nm ps b d v e0 e1)]) := by
  refine fnOk_of (fn := Try.f17) 92 (by kernel_rfl) rfl (by kernel_rfl) (Nat.le_of_ble_eq_true rfl) ?_
  intro e_0 m_0 hA hm_0
  have s0_0 : evA e_0 (.tmp 0) = _ := hA 0 _ rfl
  have s1_0 : evA e_0 (.tmp 1) = _ := hA 1 _ rfl
  have s2_0 : evA e_0 (.tmp 2) = _ := hA 2 _ rfl
  have ml_0 : m_0.length = 0 := by rw [hm_0]; rfl
  clear hA hm_0
  refine aw_seq ?_
  refine aw_text (by kernel_rfl) ?_
  refine al_stm (st_box s0_0 rfl ml_0) trivial rfl (fun m_1 hm_1 => ?_)
  have mo0_1 := m_push hm_1 ml_0
  (try simp only [packA_t, packA_f, iE, bE, setAt, cellsA, Value.cells, map_vc, map_vn, Nat.reduceAdd, qS, one_iE, app_m] at mo0_1)
  have ml_1 := m_push_l hm_1 ml_0
  have ml_1 : _ = 1 := ml_1
  clear hm_1
  refine al_stm (st_box (up_m rfl s1_0) rfl ml_1) trivial rfl (fun m_2 hm_2 => ?_)
  have mo1_2 := m_push hm_2 ml_1
  (try simp only [packA_t, packA_f, iE, bE, setAt, cellsA, Value.cells, map_vc, map_vn, Nat.reduceAdd, qS, one_iE, app_m] at mo1_2)
  have mo0_2 := m_push_o hm_2 mo0_1
  have ml_2 := m_push_l hm_2 ml_1
  have ml_2 : _ = 2 := ml_2
  clear hm_2 mo0_1
  refine al_stm (st_box (u2 rfl s2_0) rfl ml_2) trivial rfl (fun m_3 hm_3 => ?_)
  have mo2_3 := m_push hm_3 ml_2
  (try simp only [packA_t, packA_f, iE, bE, setAt, cellsA, Value.cells, map_vc, map_vn, Nat.reduceAdd, qS, one_iE, app_m] at mo2_3)
  have mo1_3 := m_push_o hm_3 mo1_2
  have mo0_3 := m_push_o hm_3 mo0_2
  have ml_3 := m_push_l hm_3 ml_2
  have ml_3 : _ = 3 := ml_3
  clear hm_3 mo1_2 mo0_2
  refine al_ro' (ro_assign ev_c) trivial rfl ?_
  refine al_ro' (ro_assign ev_c) trivial rfl ?_
  refine al_end (fun e_4 he_4 => ?_)
  have s3_4 := ef 3 he_4 (u4 rfl up_h)
  have s4_4 := ef 4 he_4 (up_m rfl (u2 rfl up_h))
  have s5_4 := ef 5 he_4 (u2 rfl up_h)
  clear he_4 s0_0 s1_0 s2_0
  refine then_n ?_
  refine aw_seq ?_
  refine aw_text (by kernel_rfl) ?_
  refine al_ro' (ro_eq (ro_ld_ptr k9_ty24 rfl mo0_3 s3_4 (by first | exact Nat.le_of_ble_eq_true rfl | omega | (simp only [lnS] <;> omega) | (simp <;> omega))) (by first | (simp only [packA_t, packA_f, iE, bE, setAt, cellsA, Value.cells, map_vc, map_vn, Nat.reduceAdd, qS, one_iE, app_m] <;> rfl) | rfl)) trivial rfl ?_
  refine al_ro' (ro_eq (ro_ld_ptr k9_ty26 rfl mo1_3 (up_m rfl s4_4) (by first | exact Nat.le_of_ble_eq_true rfl | omega | (simp only [lnS] <;> omega) | (simp <;> omega))) (by first | (simp only [packA_t, packA_f, iE, bE, setAt, cellsA, Value.cells, map_vc, map_vn, Nat.reduceAdd, qS, one_iE, app_m] <;> rfl) | rfl)) trivial rfl ?_
  refine al_ro' (ro_call (evL_cons (up_m rfl up_h) (evL_cons up_h evL_nil)) rfl (openRide_ok nm ps hs hp b d v) k9_hcf62) trivial rfl ?_
  refine al_ro' (ro_move up_h) trivial rfl ?_
  refine al_ro' (ro_extract up_h rfl) trivial rfl ?_
  refine al_ro' (ro_extract (up_m rfl up_h) rfl) trivial rfl ?_
  refine al_stm (st_alloc k9_az103 rfl ml_3) trivial rfl (fun m_5 hm_5 => ?_)
  have mo3_5 := m_push hm_5 ml_3
  (try simp only [packA_t, packA_f, iE, bE, setAt, cellsA, Value.cells, map_vc, map_vn, Nat.reduceAdd, qS, one_iE, app_m] at mo3_5)
  have mo2_5 := m_push_o hm_5 mo2_3
  have mo1_5 := m_push_o hm_5 mo1_3
  have mo0_5 := m_push_o hm_5 mo0_3
  have ml_5 := m_push_l hm_5 ml_3
  have ml_5 : _ = 4 := ml_5
  clear hm_5 mo2_3 mo1_3 mo0_3
  refine al_stm (st_store up_h (u2 rfl up_h) rfl rfl mo3_5 k9_sz103 rfl (by first | exact Nat.le_of_ble_eq_true rfl | omega | (simp only [lnS] <;> omega) | (simp <;> omega))) trivial rfl (fun m_6 hm_6 => ?_)
  have mo3_6 := m_set hm_6 mo3_5
  (try simp only [packA_t, packA_f, iE, bE, setAt, cellsA, Value.cells, map_vc, map_vn, Nat.reduceAdd, qS, one_iE, app_m] at mo3_6)
  have mo2_6 := m_set_o hm_6 mo2_5 (by decide)
  have mo1_6 := m_set_o hm_6 mo1_5 (by decide)
  have mo0_6 := m_set_o hm_6 mo0_5 (by decide)
  have ml_6 := m_set_l hm_6 ml_5
  clear hm_6 mo3_5 mo2_5 mo1_5 mo0_5
  refine al_ro' (ro_assign (up_n (up_m rfl up_h))) trivial rfl ?_
  refine al_end (fun e_7 he_7 => ?_)
  have s5_7 := ef 5 he_7 (up_m rfl (up_n (up_m rfl (u2 rfl (u4 rfl s5_4)))))
  have s8_7 := ef 8 he_7 (up_m rfl (up_n up_h))
  have s9_7 := ef 9 he_7 up_h
  clear he_7 s3_4 s4_4 s5_4
  refine then_n ?_
  refine aw_seq ?_
  refine aw_seq ?_
  refine aw_cut (fun e mem => (evA e (.tmp 9) = .v (.int .i64 (fasE nm ps b d v e0 e1))) ∧ (evA e (.tmp 5) = evA e_7 (.tmp 5)) ∧ (evA e (.tmp 8) = evA e_7 (.tmp 8)) ∧ m_6 = mem) ?_ ?_
  ·
    refine aw_text (by kernel_rfl) ?_
    refine al_ro' (ro_move s9_7) trivial rfl ?_
    refine al_ro' (ro_ixa k9_ar27 (up_m rfl s5_7) ev_c rfl) trivial rfl ?_
    refine al_ro' (ro_eq (ro_ld_ptr k9_ty3 rfl mo2_6 up_h (by first | exact Nat.le_of_ble_eq_true rfl | omega | (simp only [lnS] <;> omega) | (simp <;> omega))) (by first | (simp only [packA_t, packA_f, iE, bE, setAt, cellsA, Value.cells, map_vc, map_vn, Nat.reduceAdd, qS, one_iE, app_m] <;> rfl) | rfl)) trivial rfl ?_
    refine al_ro' (ro_call (evL_cons up_h evL_nil) rfl (isSquare_ok _) k9_hcf65) trivial rfl ?_
    refine al_ro' (ro_move up_h) trivial rfl ?_
    refine al_case up_h (fun hb_9 hq_9 => ?_) (fun hb_9 hq_9 => ?_)
    · (first | replace hq_9 := bnt hq_9 | replace hq_9 := bnf hq_9 | replace hq_9 := bt hq_9 | replace hq_9 := bf hq_9 | replace hq_9 := bt' hq_9 | replace hq_9 := bf' hq_9 | skip)
      first
      | (cases hq_9; done) | (exfalso; omega)
      | (
         refine al_ro' (ro_ixa k9_ar27 (up_m rfl (u4 rfl s5_7)) ev_c rfl) ⟨_, rfl, hb_9⟩ rfl ?_
         refine al_ro' (ro_eq (ro_ld_ptr k9_ty3 rfl mo2_6 up_h (by first | exact Nat.le_of_ble_eq_true rfl | omega | (simp only [lnS] <;> omega) | (simp <;> omega))) (by first | (simp only [packA_t, packA_f, iE, bE, setAt, cellsA, Value.cells, map_vc, map_vn, Nat.reduceAdd, qS, one_iE, app_m] <;> rfl) | rfl)) ⟨_, rfl, (up_m rfl hb_9)⟩ rfl ?_
         refine al_ro' (ro_call (evL_cons up_h evL_nil) rfl (isSquare_ok _) k9_hcf65) ⟨_, rfl, (u2 rfl hb_9)⟩ rfl ?_
         refine al_ro' (ro_pickT (up_m rfl (u2 rfl hb_9)) up_h) trivial rfl ?_
         refine al_ro' (ro_call (evL_cons up_h (evL_cons ev_c evL_nil)) rfl (unless_ok _ _) k9_hcf64) trivial rfl ?_
         refine al_ro' (ro_lit k9_sl133 (evP_cons (up_m rfl (u8 rfl up_h)) (evP_cons up_h evP_nil)) rfl rfl rfl rfl) trivial rfl ?_
         refine al_ro' (ro_call (evL_cons up_h evL_nil) rfl (first_ok [_, _] (by simp)) k9_hcf63) trivial rfl ?_
         refine al_ro' (ro_assign up_h) trivial rfl ?_
         refine al_end (fun e_10 he_10 => ?_)
         have s5_10 := ef 5 he_10 (up_m rfl (u4 rfl (u8 rfl s5_7)))
         have s8_10 := ef 8 he_10 (up_m rfl (u4 rfl (u8 rfl s8_7)))
         have s9_10 := ef 9 he_10 up_h
         clear he_10
         refine then_n ⟨(s9_10).trans (by (simp_all [fasE, unlessE])), (s5_10).trans (s5_7).symm, (s8_10).trans (s8_7).symm, rfl⟩)
    · (first | replace hq_9 := bnt hq_9 | replace hq_9 := bnf hq_9 | replace hq_9 := bt hq_9 | replace hq_9 := bf hq_9 | replace hq_9 := bt' hq_9 | replace hq_9 := bf' hq_9 | skip)
      first
      | (cases hq_9; done) | (exfalso; omega)
      | (
         refine al_skip' ⟨_, rfl, .inl hb_9⟩ rfl ?_
         refine al_skip' ⟨_, rfl, .inl (up_m rfl hb_9)⟩ rfl ?_
         refine al_skip' ⟨_, rfl, .inl (u2 rfl hb_9)⟩ rfl ?_
         refine al_ro' (ro_pickF (up_m rfl (u2 rfl hb_9)) ev_c) trivial rfl ?_
         refine al_ro' (ro_call (evL_cons up_h (evL_cons ev_c evL_nil)) rfl (unless_ok _ _) k9_hcf64) trivial rfl ?_
         refine al_ro' (ro_lit k9_sl133 (evP_cons (up_m rfl (u8 rfl up_h)) (evP_cons up_h evP_nil)) rfl rfl rfl rfl) trivial rfl ?_
         refine al_ro' (ro_call (evL_cons up_h evL_nil) rfl (first_ok [_, _] (by simp)) k9_hcf63) trivial rfl ?_
         refine al_ro' (ro_assign up_h) trivial rfl ?_
         refine al_end (fun e_11 he_11 => ?_)
         have s5_11 := ef 5 he_11 (up_m rfl (u4 rfl (u8 rfl s5_7)))
         have s8_11 := ef 8 he_11 (up_m rfl (u4 rfl (u8 rfl s8_7)))
         have s9_11 := ef 9 he_11 up_h
         clear he_11
         refine then_n ⟨(s9_11).trans (by (simp_all [fasE, unlessE])), (s5_11).trans (s5_7).symm, (s8_11).trans (s8_7).symm, rfl⟩)
  · rintro e_8 _ ⟨s9_8, k5_8, k8_8, rfl⟩
    have s5_8 := k5_8.trans s5_7
    have s8_8 := k8_8.trans s8_7
    refine aw_seq ?_
    refine aw_text (by kernel_rfl) ?_
    refine al_ro' (ro_move s9_8) trivial rfl ?_
    refine al_ro' (ro_neq up_h ev_c) trivial rfl ?_
    refine al_end (fun e_12 he_12 => ?_)
    have s5_12 := ef 5 he_12 (u2 rfl s5_8)
    have s8_12 := ef 8 he_12 (u2 rfl s8_8)
    have s9_12 := ef 9 he_12 (u2 rfl s9_8)
    have s34_12 := ef 34 he_12 up_h
    clear he_12 s5_8 s8_8 s9_8
    refine then_n ?_
    refine aw_case s34_12 (fun hq_13 => ?_) (fun hq_13 => ?_)
    · (first | replace hq_13 := bnt hq_13 | replace hq_13 := bnf hq_13 | replace hq_13 := bt hq_13 | replace hq_13 := bf hq_13 | replace hq_13 := bt' hq_13 | replace hq_13 := bf' hq_13 | skip)
      first
      | (cases hq_13; done) | (exfalso; omega)
      | (
         refine aw_seq ?_
         refine aw_text (by kernel_rfl) ?_
         refine al_ro' (ro_move s9_12) trivial rfl ?_
         refine al_ro' (ro_assign ev_c) trivial rfl ?_
         refine al_ro' (ro_assign (up_m rfl up_h)) trivial rfl ?_
         refine al_end (fun e_14 he_14 => ?_)
         have s6_14 := ef 6 he_14 (up_m rfl up_h)
         have s7_14 := ef 7 he_14 up_h
         clear he_14 s34_12 s5_12 s8_12 s9_12
         refine then_n ?_
         refine aw_ret ?_
         refine then_r ?_
         refine ret2 (.inr rfl) (by kernel_rfl) (resV_tmp s6_14) (resV_tmp s7_14) (.nil 1) (.ro _ rfl) ?_
         clear s6_14 s7_14 mo3_6 mo2_6 mo1_6 mo0_6 ml_6
         (have hq : ¬ fasE nm ps b d v e0 e1 = 0 := (by assumption); rw [if_neg hq, if_neg hq]; rfl))
    · (first | replace hq_13 := bnt hq_13 | replace hq_13 := bnf hq_13 | replace hq_13 := bt hq_13 | replace hq_13 := bf hq_13 | replace hq_13 := bt' hq_13 | replace hq_13 := bf' hq_13 | skip)
      first
      | (cases hq_13; done) | (exfalso; omega)
      | (
         (have hq : fasE nm ps b d v e0 e1 = 0 := (by assumption); have hR := fasE_right hq; have hlen := hR.1.2; have hsy := hR.2.1; unfold sysR at hsy; have he0 := hR.2.2.1; have he1 := hR.2.2.2; have hll := liW_len ps (ps.length + 1); have hlv : 0 ≤ (liW ps (ps.length + 1)).getD ps.length default ∧ (liW ps (ps.length + 1)).getD ps.length default ≤ 20000000000 := (by rw [liW_at ps (by omega)]; exact limW_bound hR.1.1 _); have hlv' : 0 ≤ (liW ps (ps.length + 1)).getD (ps.length : Int).toNat default ∧ (liW ps (ps.length + 1)).getD (ps.length : Int).toNat default ≤ 20000000000 := hlv; have hml : ∀ x, (bwL ps b x (ps.length : Int).toNat).length = ps.length + 1 := (fun x => bwL_len ps b x _); have hml0 := hml (min e1 ((liW ps (ps.length + 1)).getD ps.length default)))
         refine aw_skip ?_
         refine then_n ?_
         refine aw_seq ?_
         refine aw_text (by kernel_rfl) ?_
         refine al_ro' (ro_fld_ptr k9_fl103_0 rfl s8_12) trivial rfl ?_
         refine al_ro' (ro_eq (ro_ld_ptr k9_ty101 rfl mo3_6 up_h (by first | exact Nat.le_of_ble_eq_true rfl | omega | (simp only [lnS] <;> omega) | (simp <;> omega))) (by first | (simp only [packA_t, packA_f, iE, bE, setAt, cellsA, Value.cells, map_vc, map_vn, Nat.reduceAdd, qS, one_iE, app_m] <;> rfl) | rfl)) trivial rfl ?_
         refine al_ro' (ro_call (evL_cons up_h evL_nil) rfl (limits_ok nm ps hR.1.1 hR.1.2.1 (by omega)) k9_hcf66) trivial rfl ?_
         refine al_ro' (ro_assign up_h) trivial rfl ?_
         refine al_end (fun e_15 he_15 => ?_)
         have s5_15 := ef 5 he_15 (u4 rfl s5_12)
         have s8_15 := ef 8 he_15 (u4 rfl s8_12)
         have s10_15 := ef 10 he_15 up_h
         clear he_15 s34_12 s5_12 s8_12 s9_12
         refine then_n ?_
         refine aw_seq ?_
         refine aw_draw 15 (by kernel_rfl) (by kernel_rfl) (by kernel_rfl) (by kernel_rfl) ?_
         refine ds_ro' (ro_eq (ro_ld_ptr k9_ty103 rfl mo3_6 s8_15 (by first | exact Nat.le_of_ble_eq_true rfl | omega | (simp only [lnS] <;> omega) | (simp <;> omega))) (by first | (simp only [packA_t, packA_f, iE, bE, setAt, cellsA, Value.cells, map_vc, map_vn, Nat.reduceAdd, qS, one_iE, app_m] <;> rfl) | rfl)) trivial rfl ?_
         refine ds_ro' (ro_ixa k9_ar27 (up_m rfl s5_15) ev_c rfl) trivial rfl ?_
         refine ds_ro' (ro_eq (ro_ld_ptr k9_ty3 rfl mo2_6 up_h (by first | exact Nat.le_of_ble_eq_true rfl | omega | (simp only [lnS] <;> omega) | (simp <;> omega))) (by first | (simp only [packA_t, packA_f, iE, bE, setAt, cellsA, Value.cells, map_vc, map_vn, Nat.reduceAdd, qS, one_iE, app_m] <;> rfl) | rfl)) trivial rfl ?_
         refine ds_ro' (ro_move (up_m rfl (u2 rfl s10_15))) trivial rfl ?_
         refine ds_ro' (ro_fld_ptr k9_fl103_0 rfl (u4 rfl s8_15)) trivial rfl ?_
         refine ds_ro' (ro_eq (ro_ld_ptr k9_ty101 rfl mo3_6 up_h (by first | exact Nat.le_of_ble_eq_true rfl | omega | (simp only [lnS] <;> omega) | (simp <;> omega))) (by first | (simp only [packA_t, packA_f, iE, bE, setAt, cellsA, Value.cells, map_vc, map_vn, Nat.reduceAdd, qS, one_iE, app_m] <;> rfl) | rfl)) trivial rfl ?_
         refine ds_ro' (ro_call (evL_cons up_h evL_nil) rfl (last_ok nm ps) k9_hcf68) trivial rfl ?_
         refine ds_ro' (ro_eq (ro_ix k9_sl30 (up_m rfl (u2 rfl up_h)) up_h (by first | decide | omega | (simp <;> omega)) (by first | (refine idx_map ?_; first | omega | (simp only [lnS]; omega)) | (refine idx_mapI ?_; first | omega | (simp only [lnS]; omega)) | (refine idx_mapN ?_; first | omega | (simp only [lnS]; omega)) | rfl)) (by first | (simp only [packA_t, packA_f, iE, bE, setAt, cellsA, Value.cells, map_vc, map_vn, Nat.reduceAdd, qS, one_iE, app_m] <;> rfl) | rfl)) trivial rfl ?_
         refine ds_ro' (ro_eq (ro_ld_ref k9_ty3 rfl up_h (by first | exact Nat.le_of_ble_eq_true rfl | omega | (simp only [lnS] <;> omega) | (simp <;> omega))) (by first | (simp only [packA_t, packA_f, iE, bE, setAt, cellsA, Value.cells, map_vc, map_vn, Nat.reduceAdd, qS, one_iE, app_m] <;> rfl) | rfl)) trivial rfl ?_
         refine ds_ro' (ro_min (u2 rfl (u4 rfl up_h)) up_h) trivial rfl ?_
         refine ds_ro' (ro_fld_ptr k9_fl103_0 rfl (u2 rfl (u8 rfl s8_15))) trivial rfl ?_
         refine ds_ro' (ro_eq (ro_ld_ptr k9_ty101 rfl mo3_6 up_h (by first | exact Nat.le_of_ble_eq_true rfl | omega | (simp only [lnS] <;> omega) | (simp <;> omega))) (by first | (simp only [packA_t, packA_f, iE, bE, setAt, cellsA, Value.cells, map_vc, map_vn, Nat.reduceAdd, qS, one_iE, app_m] <;> rfl) | rfl)) trivial rfl ?_
         refine ds_ro' (ro_call (evL_cons up_h evL_nil) rfl (last_ok nm ps) k9_hcf68) trivial rfl ?_
         refine ds_ro' (ro_call (evL_cons (u4 rfl (u8 rfl up_h)) (evL_cons (up_m rfl (u2 rfl up_h)) (evL_cons up_h evL_nil))) rfl (backward_ok nm ps hR.1.1 hR.1.2.1 (by omega) b d v _ _ (by omega) (by omega) (by omega) (by omega)) k9_hcf67) trivial rfl ?_
         refine ds_ro' (ro_assign up_h) trivial rfl ?_
         refine ds_nil ?_
         refine al_end (fun e_16 he_16 => ?_)
         have s5_16 := ef 5 he_16 (up_m rfl (u2 rfl (u4 rfl (u8 rfl s5_15))))
         have s8_16 := ef 8 he_16 (up_m rfl (u2 rfl (u4 rfl (u8 rfl s8_15))))
         have s11_16 := ef 11 he_16 up_h
         clear he_16 s10_15 s5_15 s8_15
         refine then_n ?_
         refine aw_seq ?_
         refine aw_seq ?_
         refine aw_draw 6 (by kernel_rfl) (by kernel_rfl) (by kernel_rfl) (by kernel_rfl) ?_
         refine ds_ro' (ro_ixa k9_ar27 s5_16 ev_c rfl) trivial rfl ?_
         refine ds_ro' (ro_eq (ro_ld_ptr k9_ty3 rfl mo2_6 up_h (by first | exact Nat.le_of_ble_eq_true rfl | omega | (simp only [lnS] <;> omega) | (simp <;> omega))) (by first | (simp only [packA_t, packA_f, iE, bE, setAt, cellsA, Value.cells, map_vc, map_vn, Nat.reduceAdd, qS, one_iE, app_m] <;> rfl) | rfl)) trivial rfl ?_
         refine ds_ro' (ro_move (u2 rfl s11_16)) trivial rfl ?_
         refine ds_ro' (ro_eq (ro_ix k9_sl30 up_h ev_c (by first | decide | omega | (simp <;> omega)) (by first | (refine idx_map ?_; first | omega | (simp only [lnS]; omega)) | (refine idx_mapI ?_; first | omega | (simp only [lnS]; omega)) | (refine idx_mapN ?_; first | omega | (simp only [lnS]; omega)) | rfl)) (by first | (simp only [packA_t, packA_f, iE, bE, setAt, cellsA, Value.cells, map_vc, map_vn, Nat.reduceAdd, qS, one_iE, app_m] <;> rfl) | rfl)) trivial rfl ?_
         refine ds_ro' (ro_eq (ro_ld_ref k9_ty3 rfl up_h (by first | exact Nat.le_of_ble_eq_true rfl | omega | (simp only [lnS] <;> omega) | (simp <;> omega))) (by first | (simp only [packA_t, packA_f, iE, bE, setAt, cellsA, Value.cells, map_vc, map_vn, Nat.reduceAdd, qS, one_iE, app_m] <;> rfl) | rfl)) trivial rfl ?_
         refine ds_ro' (ro_gtr (up_m rfl (u2 rfl up_h)) up_h) trivial rfl ?_
         refine ds_nil ?_
         refine al_end (fun e_17 he_17 => ?_)
         have s5_17 := ef 5 he_17 (u2 rfl (u4 rfl s5_16))
         have s8_17 := ef 8 he_17 (u2 rfl (u4 rfl s8_16))
         have s11_17 := ef 11 he_17 (u2 rfl (u4 rfl s11_16))
         have s58_17 := ef 58 he_17 up_h
         clear he_17 s11_16 s5_16 s8_16
         refine then_n ?_
         refine aw_case s58_17 (fun hq_18 => ?_) (fun hq_18 => ?_)
         · (first | replace hq_18 := bnt hq_18 | replace hq_18 := bnf hq_18 | replace hq_18 := bt hq_18 | replace hq_18 := bf hq_18 | replace hq_18 := bt' hq_18 | replace hq_18 := bf' hq_18 | skip)
           first
           | (cases hq_18; done) | (exfalso; omega)
           | (
              refine aw_seq ?_
              refine aw_text (by kernel_rfl) ?_
              refine al_ro' (ro_assign ev_c) trivial rfl ?_
              refine al_ro' (ro_assign ev_c) trivial rfl ?_
              refine al_end (fun e_19 he_19 => ?_)
              have s6_19 := ef 6 he_19 (up_m rfl up_h)
              have s7_19 := ef 7 he_19 up_h
              clear he_19 s11_17 s58_17 s5_17 s8_17
              refine then_n ?_
              refine aw_ret ?_
              refine then_r ?_
              refine ret2 (.inr rfl) (by kernel_rfl) (resV_tmp s6_19) (resV_tmp s7_19) (.nil 1) (.ro _ rfl) ?_
              clear s6_19 s7_19 mo3_6 mo2_6 mo1_6 mo0_6 ml_6
              (have hc : (fasM ps b e1).getD 0 default < e0 := (by assumption); rw [if_pos hq, if_pos hq, fasW, if_pos hc]; rfl))
         · (first | replace hq_18 := bnt hq_18 | replace hq_18 := bnf hq_18 | replace hq_18 := bt hq_18 | replace hq_18 := bf hq_18 | replace hq_18 := bt' hq_18 | replace hq_18 := bf' hq_18 | skip)
           first
           | (cases hq_18; done) | (exfalso; omega)
           | (
              (have hc : ¬ (fasM ps b e1).getD 0 default < e0 := ‹_›)
              refine aw_skip ?_
              refine then_n ?_
              refine aw_seq ?_
              refine aw_text (by kernel_rfl) ?_
              refine al_ro' (ro_ixa k9_ar27 s5_17 ev_c rfl) trivial rfl ?_
              refine al_ro' (ro_eq (ro_ld_ptr k9_ty3 rfl mo2_6 up_h (by first | exact Nat.le_of_ble_eq_true rfl | omega | (simp only [lnS] <;> omega) | (simp <;> omega))) (by first | (simp only [packA_t, packA_f, iE, bE, setAt, cellsA, Value.cells, map_vc, map_vn, Nat.reduceAdd, qS, one_iE, app_m] <;> rfl) | rfl)) trivial rfl ?_
              refine al_stm (st_lit k9_sl30 ml_6 (evP_cons up_h evP_nil) rfl rfl rfl rfl) trivial rfl (fun m_20 hm_20 => ?_)
              have mo4_20 := m_push hm_20 ml_6
              (try simp only [packA_t, packA_f, iE, bE, setAt, cellsA, Value.cells, map_vc, map_vn, Nat.reduceAdd, qS, one_iE, app_m] at mo4_20)
              have mo3_20 := m_push_o hm_20 mo3_6
              have mo2_20 := m_push_o hm_20 mo2_6
              have mo1_20 := m_push_o hm_20 mo1_6
              have mo0_20 := m_push_o hm_20 mo0_6
              have ml_20 := m_push_l hm_20 ml_6
              have ml_20 : _ = 5 := ml_20
              clear hm_20 mo3_6 mo2_6 mo1_6 mo0_6
              refine al_ro' (ro_assign up_h) trivial rfl ?_
              refine al_end (fun e_21 he_21 => ?_)
              have s8_21 := ef 8 he_21 (u4 rfl s8_17)
              have s11_21 := ef 11 he_21 (u4 rfl s11_17)
              have s12_21 := ef 12 he_21 up_h
              clear he_21 s11_17 s58_17 s5_17 s8_17
              refine then_n ?_
              refine aw_seq ?_
              refine aw_seq ?_
              refine aw_text (by kernel_rfl) ?_
              refine al_ro' (ro_fld_ptr k9_fl103_0 rfl s8_21) trivial rfl ?_
              refine al_ro' (ro_fld_ptr k9_fl101_0 rfl up_h) trivial rfl ?_
              refine al_ro' (ro_fld_ptr k9_fl24_1 rfl up_h) trivial rfl ?_
              refine al_ro' (ro_eq (ro_ld_ptr k9_ty22 rfl mo3_20 up_h (by first | exact Nat.le_of_ble_eq_true rfl | omega | (simp only [lnS] <;> omega) | (simp <;> omega))) (by first | (simp only [packA_t, packA_f, iE, bE, setAt, cellsA, Value.cells, map_vc, map_vn, Nat.reduceAdd, qS, one_iE, app_m] <;> rfl) | rfl)) trivial rfl ?_
              refine al_ro' (ro_eq (ro_len_row up_h rfl k9_sl22.1) (by first | (simp only [lnS] <;> rfl) | rfl)) trivial rfl ?_
              refine al_ro' (ro_move ev_c) trivial rfl ?_
              refine al_end (fun e_22 he_22 => ?_)
              have s8_22 := ef 8 he_22 (u2 rfl (u4 rfl s8_21))
              have s11_22 := ef 11 he_22 (u2 rfl (u4 rfl s11_21))
              have s12_22 := ef 12 he_22 (u2 rfl (u4 rfl s12_21))
              have s66_22 := ef 66 he_22 (up_m rfl up_h)
              have s67_22 := ef 67 he_22 up_h
              clear he_22 s11_21 s12_21 s8_21
              refine then_n ?_
              refine aw_block ?_
              refine aw_loop (S := (Int × List Int)) (fun s e mem => match s with | ⟨i, xs⟩ => (evA e (.tmp 67) = .v (.int .i64 i)) ∧ (evA e (.tmp 8) = evA e_22 (.tmp 8)) ∧ (evA e (.tmp 11) = evA e_22 (.tmp 11)) ∧ (evA e (.tmp 66) = evA e_22 (.tmp 66)) ∧ (mem[3]? = m_20[3]?) ∧ (mem[2]? = m_20[2]?) ∧ (mem[1]? = m_20[1]?) ∧ (mem[0]? = m_20[0]?) ∧ (∃ j, evA e (.tmp 12) = .own j ∧ mem[j]? = some (.row 3 1 (xs.map iE)) ∧ j ≠ 3 ∧ j ≠ 2 ∧ j ≠ 1 ∧ j ≠ 0) ∧ (∃ n, mem.length = n ∧ 5 ≤ n) ∧ ((0 ≤ i ∧ i ≤ ps.length ∧ goL (fasF ps b v e1) e0 i.toNat = some xs ∧ 0 ≤ xs.getD i.toNat default ∧ xs.getD i.toNat default ≤ 20000000000))) (fun s => match s with | ⟨i, xs⟩ => (ps.length - i).toNat) ⟨_, [e0]⟩ ⟨s67_22, rfl, rfl, rfl, rfl, rfl, rfl, rfl, ⟨_, s12_22, mo4_20, (by decide), (by decide), (by decide), (by decide)⟩, ⟨_, ml_20, Nat.le_refl _⟩, ?_⟩ ?_
              · (refine ⟨by omega, by omega, rfl, he0⟩)
              · rintro ⟨i, xs⟩ e_23 m_23 ⟨s67_23, k8_23, k11_23, k66_23, mk3_23, mk2_23, mk1_23, mk0_23, ⟨j12_23, s12_23, mo_j12_23, nj12_3_23, nj12_2_23, nj12_1_23, nj12_0_23⟩, ⟨n_23, ml_23, hn_23⟩, hinv⟩
                have s8_23 := k8_23.trans s8_22
                have s11_23 := k11_23.trans s11_22
                have s66_23 := k66_23.trans s66_22
                have mo3_23 := mk3_23.trans mo3_20
                have mo2_23 := mk2_23.trans mo2_20
                have mo1_23 := mk1_23.trans mo1_20
                have mo0_23 := mk0_23.trans mo0_20
                have jl12_23 := m_lt mo_j12_23 ml_23
                (obtain ⟨p1, p2, p3, p4, p5⟩ := hinv; have hl := goL_len p3; have hpa := hR.1.1.at i.toNat; have hlos := los_bound (dec := -v) (p := ps.getD i.toNat default) (by omega) hpa.1 hpa.2.1; have hcb := bwL_bound hR.1.1 (b := b) (sq := min e1 ((liW ps (ps.length + 1)).getD ps.length default)) (by omega) ps.length (i + 1).toNat; have hcb2 : -1 ≤ (bwL ps b (min e1 ((liW ps (ps.length + 1)).getD ps.length default)) (ps.length : Int).toNat).getD (i + 1).toNat default ∧ (bwL ps b (min e1 ((liW ps (ps.length + 1)).getD ps.length default)) (ps.length : Int).toNat).getD (i + 1).toNat default ≤ 20000000000 := hcb; have hf : ∀ x, fasF ps b v e1 i.toNat x = min ((bwL ps b (min e1 ((liW ps (ps.length + 1)).getD ps.length default)) ps.length).getD (i + 1).toNat default) (x + -losW (-v) (ps.getD i.toNat default)) := (fun x => by unfold fasF fasM; rw [show i.toNat + 1 = (i + 1).toNat by omega]))
                refine aw_seq ?_
                refine aw_text (by kernel_rfl) ?_
                refine al_ro' (ro_lss s67_23 s66_23) trivial rfl ?_
                refine al_end (fun e_24 he_24 => ?_)
                have s8_24 := ef 8 he_24 (up_m rfl s8_23)
                have s11_24 := ef 11 he_24 (up_m rfl s11_23)
                have s12_24 := ef 12 he_24 (up_m rfl s12_23)
                have s66_24 := ef 66 he_24 (up_m rfl s66_23)
                have s67_24 := ef 67 he_24 (up_m rfl s67_23)
                have s68_24 := ef 68 he_24 up_h
                clear he_24 s11_23 s12_23 s66_23 s67_23 s8_23
                refine then_n ?_
                refine aw_seq ?_
                refine aw_case s68_24 (fun hq_25 => ?_) (fun hq_25 => ?_)
                · (first | replace hq_25 := bnt hq_25 | replace hq_25 := bnf hq_25 | replace hq_25 := bt hq_25 | replace hq_25 := bf hq_25 | replace hq_25 := bt' hq_25 | replace hq_25 := bf' hq_25 | skip)
                  first
                  | (cases hq_25; done) | (exfalso; omega)
                  | (
                     refine aw_skip ?_
                     refine then_n ?_
                     refine aw_seq ?_
                     refine aw_block ?_
                     refine aw_seq ?_
                     refine aw_text (by kernel_rfl) ?_
                     refine al_ro' (ro_move s67_24) trivial rfl ?_
                     refine al_ro' (ro_assign up_h) trivial rfl ?_
                     refine al_end (fun e_26 he_26 => ?_)
                     have s8_26 := ef 8 he_26 (u2 rfl s8_24)
                     have s11_26 := ef 11 he_26 (u2 rfl s11_24)
                     have s12_26 := ef 12 he_26 (u2 rfl s12_24)
                     have s13_26 := ef 13 he_26 up_h
                     have s66_26 := ef 66 he_26 (u2 rfl s66_24)
                     have s67_26 := ef 67 he_26 (u2 rfl s67_24)
                     clear he_26 s11_24 s12_24 s66_24 s67_24 s68_24 s8_24
                     refine then_n ?_
                     refine aw_seq ?_
                     refine aw_draw 15 (by kernel_rfl) (by kernel_rfl) (by kernel_rfl) (by kernel_rfl) ?_
                     refine ds_ro' (ro_move s11_26) trivial rfl ?_
                     refine ds_ro' (ro_move (up_m rfl s13_26)) trivial rfl ?_
                     first | (refine ds_ro' (ro_add' up_h ev_c ?_) trivial rfl ?_; · (unfold In64; omega)) | refine ds_ro' (ro_add up_h ev_c) trivial rfl ?_
                     refine ds_ro' (ro_eq (ro_ix k9_sl30 (u2 rfl up_h) up_h (by first | decide | omega | (simp <;> omega)) (by first | (refine idx_map ?_; first | omega | (simp only [lnS]; omega)) | (refine idx_mapI ?_; first | omega | (simp only [lnS]; omega)) | (refine idx_mapN ?_; first | omega | (simp only [lnS]; omega)) | rfl)) (by first | (simp only [packA_t, packA_f, iE, bE, setAt, cellsA, Value.cells, map_vc, map_vn, Nat.reduceAdd, qS, one_iE, app_m] <;> rfl) | rfl)) trivial rfl ?_
                     refine ds_ro' (ro_eq (ro_ld_ref k9_ty3 rfl up_h (by first | exact Nat.le_of_ble_eq_true rfl | omega | (simp only [lnS] <;> omega) | (simp <;> omega))) (by first | (simp only [packA_t, packA_f, iE, bE, setAt, cellsA, Value.cells, map_vc, map_vn, Nat.reduceAdd, qS, one_iE, app_m] <;> rfl) | rfl)) trivial rfl ?_
                     refine ds_ro' (ro_move (up_m rfl (u4 rfl s12_26))) trivial rfl ?_
                     refine ds_ro' (ro_move (u2 rfl (u4 rfl s13_26))) trivial rfl ?_
                     refine ds_ro' (ro_ix_own k9_sl30 mo_j12_23 (up_m rfl up_h) up_h (by first | decide | omega | (simp <;> omega)) (by first | omega | (simp only [lnS] <;> omega) | (simp <;> omega))) trivial rfl ?_
                     refine ds_ro' (ro_eq (ro_ld_el k9_ty3 rfl mo_j12_23 up_h (by first | exact Nat.le_of_ble_eq_true rfl | omega | (simp only [lnS] <;> omega) | (simp <;> omega)) (by first | (refine idx_map ?_; first | omega | (simp only [lnS]; omega)) | (refine idx_mapI ?_; first | omega | (simp only [lnS]; omega)) | (refine idx_mapN ?_; first | omega | (simp only [lnS]; omega)) | rfl)) (by first | (simp only [packA_t, packA_f, iE, bE, setAt, cellsA, Value.cells, map_vc, map_vn, Nat.reduceAdd, qS, one_iE, app_m] <;> rfl) | rfl)) trivial rfl ?_
                     refine ds_ro' (ro_eq (ro_ld_ptr k9_ty103 rfl mo3_23 (up_m rfl (u8 rfl s8_26)) (by first | exact Nat.le_of_ble_eq_true rfl | omega | (simp only [lnS] <;> omega) | (simp <;> omega))) (by first | (simp only [packA_t, packA_f, iE, bE, setAt, cellsA, Value.cells, map_vc, map_vn, Nat.reduceAdd, qS, one_iE, app_m] <;> rfl) | rfl)) trivial rfl ?_
                     refine ds_ro' (ro_move (u2 rfl (u8 rfl s13_26))) trivial rfl ?_
                     refine ds_ro' (ro_call (evL_cons (up_m rfl up_h) (evL_cons up_h evL_nil)) rfl (driven_ok nm ps hR.1.1 b d v i (by omega) (by omega) (by omega)) k9_hcf69) trivial rfl ?_
                     first | (refine ds_ro' (ro_add' (up_m rfl (u2 rfl up_h)) up_h ?_) trivial rfl ?_; · (unfold In64; omega)) | refine ds_ro' (ro_add (up_m rfl (u2 rfl up_h)) up_h) trivial rfl ?_
                     refine ds_ro' (ro_min (u8 rfl up_h) up_h) trivial rfl ?_
                     refine ds_ro' (ro_assign up_h) trivial rfl ?_
                     refine ds_nil ?_
                     refine al_end (fun e_27 he_27 => ?_)
                     have s8_27 := ef 8 he_27 (up_m rfl (u2 rfl (u4 rfl (u8 rfl s8_26))))
                     have s11_27 := ef 11 he_27 (up_m rfl (u2 rfl (u4 rfl (u8 rfl s11_26))))
                     have s12_27 := ef 12 he_27 (up_m rfl (u2 rfl (u4 rfl (u8 rfl s12_26))))
                     have s14_27 := ef 14 he_27 up_h
                     have s66_27 := ef 66 he_27 (up_m rfl (u2 rfl (u4 rfl (u8 rfl s66_26))))
                     have s67_27 := ef 67 he_27 (up_m rfl (u2 rfl (u4 rfl (u8 rfl s67_26))))
                     clear he_27 s11_26 s12_26 s13_26 s66_26 s67_26 s8_26
                     refine then_n ?_
                     refine aw_seq ?_
                     refine aw_seq ?_
                     refine aw_text (by kernel_rfl) ?_
                     refine al_ro' (ro_move s14_27) trivial rfl ?_
                     refine al_ro' (ro_lss up_h ev_c) trivial rfl ?_
                     refine al_end (fun e_28 he_28 => ?_)
                     have s8_28 := ef 8 he_28 (u2 rfl s8_27)
                     have s11_28 := ef 11 he_28 (u2 rfl s11_27)
                     have s12_28 := ef 12 he_28 (u2 rfl s12_27)
                     have s14_28 := ef 14 he_28 (u2 rfl s14_27)
                     have s66_28 := ef 66 he_28 (u2 rfl s66_27)
                     have s67_28 := ef 67 he_28 (u2 rfl s67_27)
                     have s85_28 := ef 85 he_28 up_h
                     clear he_28 s11_27 s12_27 s14_27 s66_27 s67_27 s8_27
                     refine then_n ?_
                     refine aw_case s85_28 (fun hq_29 => ?_) (fun hq_29 => ?_)
                     · (first | replace hq_29 := bnt hq_29 | replace hq_29 := bnf hq_29 | replace hq_29 := bt hq_29 | replace hq_29 := bf hq_29 | replace hq_29 := bt' hq_29 | replace hq_29 := bf' hq_29 | skip)
                       first
                       | (cases hq_29; done) | (exfalso; omega)
                       | (
                          refine aw_seq ?_
                          refine aw_text (by kernel_rfl) ?_
                          refine al_ro' (ro_assign ev_c) trivial rfl ?_
                          refine al_ro' (ro_assign ev_c) trivial rfl ?_
                          refine al_end (fun e_30 he_30 => ?_)
                          have s6_30 := ef 6 he_30 (up_m rfl up_h)
                          have s7_30 := ef 7 he_30 up_h
                          clear he_30 s11_28 s12_28 s14_28 s66_28 s67_28 s85_28 s8_28
                          refine then_n ?_
                          refine aw_ret ?_
                          refine then_r ?_
                          refine block_r ?_
                          refine then_r ?_
                          refine then_r ?_
                          refine block_r ?_
                          refine then_r ?_
                          refine ret2 (.inr rfl) (by kernel_rfl) (resV_tmp s6_30) (resV_tmp s7_30) (.nil 1) (.ro _ rfl) ?_
                          clear s6_30 s7_30 mo3_23 mo2_23 mo1_23 mo0_23 mo_j12_23 ml_23
                          (have hn := ‹min _ _ < (0 : Int)›; rw [if_pos hq, if_pos hq, fasW, if_neg hc, goL_stop (n := ps.length) p3 (by omega) (by rw [hf]; exact hn)]; rfl))
                     · (first | replace hq_29 := bnt hq_29 | replace hq_29 := bnf hq_29 | replace hq_29 := bt hq_29 | replace hq_29 := bf hq_29 | replace hq_29 := bt' hq_29 | replace hq_29 := bf' hq_29 | skip)
                       first
                       | (cases hq_29; done) | (exfalso; omega)
                       | (
                          (have hn := ‹¬ (min _ _ < (0 : Int))›)
                          refine aw_skip ?_
                          refine then_n ?_
                          refine aw_text (by kernel_rfl) ?_
                          refine al_ro' (ro_move s12_28) trivial rfl ?_
                          refine al_ro' (ro_move (up_m rfl s14_28)) trivial rfl ?_
                          refine al_ro' (ro_lit k9_sl30 (evP_cons up_h evP_nil) rfl rfl rfl rfl) trivial rfl ?_
                          refine al_stm (st_app k9_sl30 rfl ml_23 mo_j12_23 (u2 rfl up_h) up_h (by first | rfl | (simp [oneA]; done)) (by first | omega | (simp only [lnS] <;> omega) | (simp <;> omega))) trivial rfl (fun m_31 hm_31 => ?_)
                          have mon_23_31 := m_swap hm_31 ml_23
                          (try simp only [packA_t, packA_f, iE, bE, setAt, cellsA, Value.cells, map_vc, map_vn, Nat.reduceAdd, qS, one_iE, app_m] at mon_23_31)
                          have mo3_31 := m_swap_o hm_31 mo3_23 (by omega)
                          have mo2_31 := m_swap_o hm_31 mo2_23 (by omega)
                          have mo1_31 := m_swap_o hm_31 mo1_23 (by omega)
                          have mo0_31 := m_swap_o hm_31 mo0_23 (by omega)
                          have ml_31 := m_swap_l hm_31 ml_23
                          clear hm_31 mo3_23 mo2_23 mo1_23 mo0_23 mo_j12_23
                          refine al_ro' (ro_assign up_h) trivial rfl ?_
                          refine al_end (fun e_32 he_32 => ?_)
                          have s8_32 := ef 8 he_32 (up_m rfl (u4 rfl s8_28))
                          have s11_32 := ef 11 he_32 (up_m rfl (u4 rfl s11_28))
                          have s12_32 := ef 12 he_32 up_h
                          have s66_32 := ef 66 he_32 (up_m rfl (u4 rfl s66_28))
                          have s67_32 := ef 67 he_32 (up_m rfl (u4 rfl s67_28))
                          clear he_32 s11_28 s12_28 s14_28 s66_28 s67_28 s85_28 s8_28
                          refine block_n ?_
                          refine then_n ?_
                          refine aw_text (by kernel_rfl) ?_
                          first | (refine al_ro' (ro_add' s67_32 ev_c ?_) trivial rfl ?_; · (unfold In64; omega)) | refine al_ro' (ro_add s67_32 ev_c) trivial rfl ?_
                          refine al_ro' (ro_move up_h) trivial rfl ?_
                          refine al_end (fun e_33 he_33 => ?_)
                          have s8_33 := ef 8 he_33 (u2 rfl s8_32)
                          have s11_33 := ef 11 he_33 (u2 rfl s11_32)
                          have s12_33 := ef 12 he_33 (u2 rfl s12_32)
                          have s66_33 := ef 66 he_33 (u2 rfl s66_32)
                          have s67_33 := ef 67 he_33 up_h
                          clear he_33 s11_32 s12_32 s66_32 s67_32 s8_32
                          refine then_n ?_
                          refine ⟨⟨_, _⟩, ⟨s67_33, (s8_33.trans s8_22.symm), (s11_33.trans s11_22.symm), (s66_33.trans s66_22.symm), (mo3_31.trans mo3_20.symm), (mo2_31.trans mo2_20.symm), (mo1_31.trans mo1_20.symm), (mo0_31.trans mo0_20.symm), ⟨_, s12_33, mon_23_31, (by omega), (by omega), (by omega), (by omega)⟩, ⟨_, ml_31, by omega⟩, ?_⟩, ?_⟩
                          · (have hst := goL_step p3 (by rw [hf]; exact hn); rw [hf] at hst; refine ⟨by omega, by omega, ?_, ?_⟩; (rw [show (i + 1).toNat = i.toNat + 1 by omega] at hst ⊢; exact hst); (rw [show (i + 1).toNat = i.toNat + 1 by omega] at hn hcb hcb2 ⊢; rw [getD_snoc (by omega)]; constructor; exact Int.not_lt.1 hn; omega))
                          · ((try dsimp only); omega)))
                · (first | replace hq_25 := bnt hq_25 | replace hq_25 := bnf hq_25 | replace hq_25 := bt hq_25 | replace hq_25 := bf hq_25 | replace hq_25 := bt' hq_25 | replace hq_25 := bf' hq_25 | skip)
                  first
                  | (cases hq_25; done) | (exfalso; omega)
                  | (
                     refine aw_exit ?_
                     refine then_x ?_
                     refine then_x ?_
                     refine block_hit ?_
                     refine then_n ?_
                     refine aw_seq ?_
                     refine aw_text (by kernel_rfl) ?_
                     refine al_ro' (ro_move s12_24) trivial rfl ?_
                     refine al_ro' (ro_assign up_h) trivial rfl ?_
                     refine al_ro' (ro_assign ev_c) trivial rfl ?_
                     refine al_end (fun e_34 he_34 => ?_)
                     have s6_34 := ef 6 he_34 (up_m rfl up_h)
                     have s7_34 := ef 7 he_34 up_h
                     clear he_34 s11_24 s12_24 s66_24 s67_24 s68_24 s8_24
                     refine then_n ?_
                     refine aw_ret ?_
                     refine ret2 (.inr rfl) (by kernel_rfl) (resV_tmp s6_34) (resV_tmp s7_34) (.own _ _ _ _ mo_j12_23) (.ro _ rfl) ?_
                     clear s6_34 s7_34 mo3_23 mo2_23 mo1_23 mo0_23 mo_j12_23 ml_23
                     (have hi : i.toNat = ps.length := (by omega); rw [hi] at p3; rw [if_pos hq, if_pos hq, fasW, if_neg hc, p3]))))
end
end Go.Proofs.Ytelgkjekpcfffaa
