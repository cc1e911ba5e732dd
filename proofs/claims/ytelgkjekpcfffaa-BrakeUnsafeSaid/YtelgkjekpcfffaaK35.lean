/- Contracts of chapter 5: StopsOf, GreatestAt, FirstUnsafe. No conditions on a program. -/
import Derived.Test.YtelgkjekpcfffaaK34
import Derived.Test.YtelgkjekpcfffaaK10
import Derived.Test.YtelgkjekpcfffaaK18
import Derived.Test.YtelgkjekpcfffaaK25
namespace Go.Proofs.Ytelgkjekpcfffaa
open Go Go.RowKit Go.Proofs
set_option linter.unusedSimpArgs false
set_option linter.unusedVariables false
theorem k35_az103 : (Try.prog.info? 103).bind (·.zero) = some (.agg #[.string ByteArray.empty, .slice none 0 0, .int .i64 0, .int .i64 0, .int .i64 0]) := by kernel_rfl
theorem k35_bz42 : (Try.prog.info? 42).bind (·.zero) = some (.agg #[.int .i64 0, .int .i64 0]) := by kernel_rfl
theorem k35_bu42 : Try.prog.underlying 42 = some (.struct (fsOf Try.prog 42)) := by kernel_rfl
theorem k35_bp42 : ∀ w, ((fsOf Try.prog 42).mapM fun f => Prod.mk f.offset <$> sizeOf f.type : Sem (Array (Nat × Nat))).run Try.prog w = .ok (#[(0, 1), (1, 1)]) w := fun _ => by kernel_rfl
theorem k35_fl103_0 : FldIs Try.prog 103 0 0 true 2 := by unfold FldIs; kernel_rfl
theorem k35_hcf62 : ∀ args w, (callFunc 62 args).run Try.prog w = .ok (.enter 62 args) w := fun _ _ => by kernel_rfl
theorem k35_hcf63 : ∀ args w, (callFunc 63 args).run Try.prog w = .ok (.enter 63 args) w := fun _ _ => by kernel_rfl
theorem k35_hcf86 : ∀ args w, (callFunc 86 args).run Try.prog w = .ok (.enter 86 args) w := fun _ _ => by kernel_rfl
theorem k35_hcf89 : ∀ args w, (callFunc 89 args).run Try.prog w = .ok (.enter 89 args) w := fun _ _ => by kernel_rfl
theorem k35_sl133 : SlIs Try.prog 133 31 1 8 (.int .i64 0) := ⟨by kernel_rfl, by kernel_rfl, by kernel_rfl⟩
theorem k35_sl30 : SlIs Try.prog 30 3 1 8 (.int .i64 0) := ⟨by kernel_rfl, by kernel_rfl, by kernel_rfl⟩
theorem k35_sz103 : (Try.prog.info? 103).map (·.size) = some 5 := by kernel_rfl
theorem k35_ty101 : TyIs Try.prog 101 true 2 := ⟨by kernel_rfl, by kernel_rfl⟩
theorem k35_ty103 : TyIs Try.prog 103 true 5 := ⟨by kernel_rfl, by kernel_rfl⟩
theorem k35_ty24 : TyIs Try.prog 24 true 2 := ⟨by kernel_rfl, by kernel_rfl⟩
theorem k35_ty26 : TyIs Try.prog 26 true 3 := ⟨by kernel_rfl, by kernel_rfl⟩
theorem k35_ty3 : TyIs Try.prog 3 false 1 := ⟨by kernel_rfl, by kernel_rfl⟩
section
variable (nm : ByteArray) (ps : List Piece) (hs : nm.size ≤ 1000000000) (hp : ps.length ≤ 1000000000) (b d v : Int)
include hs hp
end
/-- Not safe at a post. -/
def fuB (ps : List Piece) (b d : Int) (xs : List Int) (i : Nat) : Prop := (rcW ps b d (i : Int) (xs.getD i default)).length = 0
instance (ps : List Piece) (b d : Int) (xs : List Int) (i : Nat) : Decidable (fuB ps b d xs i) := by unfold fuB; exact inferInstance
def fuW (ps : List Piece) (b d : Int) (xs : List Int) : Int × Int := match (List.range xs.length).find? fun i => decide (fuB ps b d xs i) with
  | some i => ((i : Int), 0)
  | none => (0, 12)
theorem fu_bad {ps : List Piece} {b d : Int} {xs : List Int} {i : Nat} (hi : i < xs.length) (h : ∀ j : Nat, j < i → ¬ fuB ps b d xs j) (hb : fuB ps b d xs i) : fuW ps b d xs = ((i : Int), 0) := by
  have : (List.range xs.length).find? (fun i => decide (fuB ps b d xs i)) = some i := by
    rw [List.find?_range_eq_some]
    exact ⟨by simpa using hb, by simpa using hi, fun j hj => by simpa using h j hj⟩
  unfold fuW; rw [this]
theorem fu_good {ps : List Piece} {b d : Int} {xs : List Int} (h : ∀ j : Nat, j < xs.length → ¬ fuB ps b d xs j) : fuW ps b d xs = (0, 12) := by
  have : (List.range xs.length).find? (fun i => decide (fuB ps b d xs i)) = none := by
    rw [List.find?_eq_none]
    intro j hj
    simpa using h j (by simpa using hj)
  unfold fuW; rw [this]
theorem fuB_at {ps : List Piece} {b d : Int} {xs : List Int} {i : Int} (hi : 0 ≤ i) : fuB ps b d xs i.toNat ↔ ((rcW ps b d i (xs.getD i.toNat default)).length : Int) = 0 := by
  unfold fuB
  rw [show ((i.toNat : Nat) : Int) = i by omega]
  omega
set_option maxRecDepth 100000 in
set_option maxHeartbeats 4000000 in
theorem firstUnsafe_ok (nm : ByteArray) (ps : List Piece) (hs : nm.size ≤ 1000000000) (hp : ps.length ≤ 1000000000) (b d v : Int) (xs : List Int) (hx : xs.length ≤ 1000000000) : FnOk Try.prog 47 [trA nm ps, syA b d v, .row 1 (xs.map iE)] (fun q => q = .tuple [iA (if cskE nm ps b d v xs = 0 then (fuW ps b d xs).1 else 0), iA (if cskE nm ps b d v xs = 0 then (fuW ps b d xs).2 else cskE nm ps b d v xs)]) := by
  refine fnOk_of (fn := Try.f47) 44 (by kernel_rfl) rfl (by kernel_rfl) (Nat.le_of_ble_eq_true rfl) ?_
  intro e_0 m_0 hA hm_0
  have s0_0 : evA e_0 (.tmp 0) = _ := hA 0 _ rfl
  have s1_0 : evA e_0 (.tmp 1) = _ := hA 1 _ rfl
  have s2_0 : evA e_0 (.tmp 2) = _ := hA 2 _ rfl
  have ml_0 : m_0.length = 0 := by rw [hm_0]; rfl
  clear hA hm_0
  refine aw_seq ?_
  refine aw_text (by kernel_rfl) ?_
  refine al_stm (st_box s0_0 rfl ml_0) trivial rfl (fun m_1 hm_1 => ?_)
  have mo0_1 := m_push hm_1 ml_0
  (try simp only [packA_t, packA_f, iE, bE, setAt, cellsA, Value.cells, map_vc, map_vn, Nat.reduceAdd, qS] at mo0_1)
  have ml_1 := m_push_l hm_1 ml_0
  have ml_1 : _ = 1 := ml_1
  clear hm_1
  refine al_stm (st_box (up_m rfl s1_0) rfl ml_1) trivial rfl (fun m_2 hm_2 => ?_)
  have mo1_2 := m_push hm_2 ml_1
  (try simp only [packA_t, packA_f, iE, bE, setAt, cellsA, Value.cells, map_vc, map_vn, Nat.reduceAdd, qS] at mo1_2)
  have mo0_2 := m_push_o hm_2 mo0_1
  have ml_2 := m_push_l hm_2 ml_1
  have ml_2 : _ = 2 := ml_2
  clear hm_2 mo0_1
  refine al_ro' (ro_assign ev_c) trivial rfl ?_
  refine al_ro' (ro_assign ev_c) trivial rfl ?_
  refine al_end (fun e_3 he_3 => ?_)
  have s2_3 := ef 2 he_3 (u4 rfl s2_0)
  have s3_3 := ef 3 he_3 (up_m rfl (u2 rfl up_h))
  have s4_3 := ef 4 he_3 (u2 rfl up_h)
  clear he_3 s0_0 s1_0 s2_0
  refine then_n ?_
  refine aw_seq ?_
  refine aw_text (by kernel_rfl) ?_
  refine al_ro' (ro_eq (ro_ld_ptr k35_ty24 rfl mo0_2 s3_3 (by first | exact Nat.le_of_ble_eq_true rfl | omega | (simp only [lnS] <;> omega) | (simp <;> omega))) (by first | (simp only [packA_t, packA_f, iE, bE, setAt, cellsA, Value.cells, map_vc, map_vn, Nat.reduceAdd, qS] <;> rfl) | rfl)) trivial rfl ?_
  refine al_ro' (ro_eq (ro_ld_ptr k35_ty26 rfl mo1_2 (up_m rfl s4_3) (by first | exact Nat.le_of_ble_eq_true rfl | omega | (simp only [lnS] <;> omega) | (simp <;> omega))) (by first | (simp only [packA_t, packA_f, iE, bE, setAt, cellsA, Value.cells, map_vc, map_vn, Nat.reduceAdd, qS] <;> rfl) | rfl)) trivial rfl ?_
  refine al_ro' (ro_call (evL_cons (up_m rfl up_h) (evL_cons up_h evL_nil)) rfl (openRide_ok nm ps hs hp b d v) k35_hcf62) trivial rfl ?_
  refine al_ro' (ro_move up_h) trivial rfl ?_
  refine al_ro' (ro_extract up_h rfl) trivial rfl ?_
  refine al_ro' (ro_extract (up_m rfl up_h) rfl) trivial rfl ?_
  refine al_stm (st_alloc k35_az103 rfl ml_2) trivial rfl (fun m_4 hm_4 => ?_)
  have mo2_4 := m_push hm_4 ml_2
  (try simp only [packA_t, packA_f, iE, bE, setAt, cellsA, Value.cells, map_vc, map_vn, Nat.reduceAdd, qS] at mo2_4)
  have mo1_4 := m_push_o hm_4 mo1_2
  have mo0_4 := m_push_o hm_4 mo0_2
  have ml_4 := m_push_l hm_4 ml_2
  have ml_4 : _ = 3 := ml_4
  clear hm_4 mo1_2 mo0_2
  refine al_stm (st_store up_h (u2 rfl up_h) rfl rfl mo2_4 k35_sz103 rfl (by first | exact Nat.le_of_ble_eq_true rfl | omega | (simp only [lnS] <;> omega) | (simp <;> omega))) trivial rfl (fun m_5 hm_5 => ?_)
  have mo2_5 := m_set hm_5 mo2_4
  (try simp only [packA_t, packA_f, iE, bE, setAt, cellsA, Value.cells, map_vc, map_vn, Nat.reduceAdd, qS] at mo2_5)
  have mo1_5 := m_set_o hm_5 mo1_4 (by decide)
  have mo0_5 := m_set_o hm_5 mo0_4 (by decide)
  have ml_5 := m_set_l hm_5 ml_4
  clear hm_5 mo2_4 mo1_4 mo0_4
  refine al_ro' (ro_assign (up_n (up_m rfl up_h))) trivial rfl ?_
  refine al_end (fun e_6 he_6 => ?_)
  have s2_6 := ef 2 he_6 (up_m rfl (up_n (up_m rfl (u2 rfl (u4 rfl s2_3)))))
  have s8_6 := ef 8 he_6 (up_m rfl (up_n up_h))
  have s9_6 := ef 9 he_6 up_h
  clear he_6 s2_3 s3_3 s4_3
  refine then_n ?_
  refine aw_seq ?_
  refine aw_seq ?_
  refine aw_text (by kernel_rfl) ?_
  refine al_ro' (ro_move s9_6) trivial rfl ?_
  refine al_ro' (ro_fld_ptr k35_fl103_0 rfl (up_m rfl s8_6)) trivial rfl ?_
  refine al_ro' (ro_eq (ro_ld_ptr k35_ty101 rfl mo2_5 up_h (by first | exact Nat.le_of_ble_eq_true rfl | omega | (simp only [lnS] <;> omega) | (simp <;> omega))) (by first | (simp only [packA_t, packA_f, iE, bE, setAt, cellsA, Value.cells, map_vc, map_vn, Nat.reduceAdd, qS] <;> rfl) | rfl)) trivial rfl ?_
  refine al_ro' (ro_move (up_m rfl (u2 rfl s2_6))) trivial rfl ?_
  refine al_ro' (ro_call (evL_cons (up_m rfl up_h) (evL_cons up_h evL_nil)) rfl (squaresErr_ok xs hx nm ps hp) k35_hcf89) trivial rfl ?_
  refine al_ro' (ro_lit k35_sl133 (evP_cons (u4 rfl up_h) (evP_cons up_h evP_nil)) rfl rfl rfl rfl) trivial rfl ?_
  refine al_ro' (ro_call (evL_cons up_h evL_nil) rfl (first_ok [_, _] (by simp)) k35_hcf63) trivial rfl ?_
  refine al_ro' (ro_assign up_h) trivial rfl ?_
  refine al_end (fun e_7 he_7 => ?_)
  have s2_7 := ef 2 he_7 (u8 rfl s2_6)
  have s8_7 := ef 8 he_7 (u8 rfl s8_6)
  have s9_7 := ef 9 he_7 up_h
  clear he_7 s2_6 s8_6 s9_6
  refine then_n ?_
  refine aw_seq ?_
  refine aw_text (by kernel_rfl) ?_
  refine al_ro' (ro_move s9_7) trivial rfl ?_
  refine al_ro' (ro_neq up_h ev_c) trivial rfl ?_
  refine al_end (fun e_8 he_8 => ?_)
  have s2_8 := ef 2 he_8 (u2 rfl s2_7)
  have s8_8 := ef 8 he_8 (u2 rfl s8_7)
  have s9_8 := ef 9 he_8 (u2 rfl s9_7)
  have s26_8 := ef 26 he_8 up_h
  clear he_8 s2_7 s8_7 s9_7
  refine then_n ?_
  refine aw_case s26_8 (fun hq_9 => ?_) (fun hq_9 => ?_)
  · (first | replace hq_9 := bnt hq_9 | replace hq_9 := bnf hq_9 | replace hq_9 := bt hq_9 | replace hq_9 := bf hq_9 | replace hq_9 := bt' hq_9 | replace hq_9 := bf' hq_9 | skip)
    first
    | (cases hq_9; done) | (exfalso; omega)
    | (
       refine aw_seq ?_
       refine aw_text (by kernel_rfl) ?_
       refine al_ro' (ro_move s9_8) trivial rfl ?_
       refine al_ro' (ro_assign ev_c) trivial rfl ?_
       refine al_ro' (ro_assign (up_m rfl up_h)) trivial rfl ?_
       refine al_end (fun e_10 he_10 => ?_)
       have s6_10 := ef 6 he_10 (up_m rfl up_h)
       have s7_10 := ef 7 he_10 up_h
       clear he_10 s26_8 s2_8 s8_8 s9_8
       refine then_n ?_
       refine aw_ret ?_
       refine then_r ?_
       refine ret2 (.inr rfl) (by kernel_rfl) (resV_tmp s6_10) (resV_tmp s7_10) (.ro _ rfl) (.ro _ rfl) ?_
       clear s6_10 s7_10 mo2_5 mo1_5 mo0_5 ml_5
       (have hn : ¬ cskE nm ps b d v xs = 0 := (by assumption); rw [if_neg hn, if_neg hn]; rfl))
  · (first | replace hq_9 := bnt hq_9 | replace hq_9 := bnf hq_9 | replace hq_9 := bt hq_9 | replace hq_9 := bf hq_9 | replace hq_9 := bt' hq_9 | replace hq_9 := bf' hq_9 | skip)
    first
    | (cases hq_9; done) | (exfalso; omega)
    | (
       (have hq : cskE nm ps b d v xs = 0 := (by assumption); have hR := ride_right hq; have hsq := sqs_right (firstE_cons hR.2.2).1; have hlen := hR.1.2)
       refine aw_skip ?_
       refine then_n ?_
       refine aw_seq ?_
       refine aw_seq ?_
       refine aw_text (by kernel_rfl) ?_
       refine al_ro' (ro_move s2_8) trivial rfl ?_
       refine al_ro' (ro_eq (ro_len_row up_h rfl k35_sl30.1) (by first | (simp only [lnS] <;> rfl) | rfl)) trivial rfl ?_
       refine al_ro' (ro_move ev_c) trivial rfl ?_
       refine al_end (fun e_11 he_11 => ?_)
       have s8_11 := ef 8 he_11 (up_m rfl (u2 rfl s8_8))
       have s28_11 := ef 28 he_11 (u2 rfl up_h)
       have s29_11 := ef 29 he_11 (up_m rfl up_h)
       have s30_11 := ef 30 he_11 up_h
       clear he_11 s26_8 s2_8 s8_8 s9_8
       refine then_n ?_
       refine aw_block ?_
       refine aw_loop (S := Int) (fun i e mem => (evA e (.tmp 30) = .v (.int .i64 i)) ∧ (evA e (.tmp 8) = evA e_11 (.tmp 8)) ∧ (evA e (.tmp 28) = evA e_11 (.tmp 28)) ∧ (evA e (.tmp 29) = evA e_11 (.tmp 29)) ∧ (mem[2]? = m_5[2]?) ∧ (mem[1]? = m_5[1]?) ∧ (mem[0]? = m_5[0]?) ∧ (mem.length = 3) ∧ ((0 ≤ i ∧ i ≤ xs.length ∧ ∀ j : Nat, j < i.toNat → ¬ fuB ps b d xs j))) (fun i => (xs.length - i).toNat) _ ⟨s30_11, rfl, rfl, rfl, rfl, rfl, rfl, ml_5, ?_⟩ ?_
       · (exact ⟨by omega, by omega, fun j h => absurd h (by omega)⟩)
       · rintro i e_12 m_12 ⟨s30_12, k8_12, k28_12, k29_12, mk2_12, mk1_12, mk0_12, ml_12, hinv⟩
         have s8_12 := k8_12.trans s8_11
         have s28_12 := k28_12.trans s28_11
         have s29_12 := k29_12.trans s29_11
         have mo2_12 := mk2_12.trans mo2_5
         have mo1_12 := mk1_12.trans mo1_5
         have mo0_12 := mk0_12.trans mo0_5
         (obtain ⟨p1, p2, p3⟩ := hinv; have hat := fuB_at (ps := ps) (b := b) (d := d) (xs := xs) p1)
         refine aw_seq ?_
         refine aw_text (by kernel_rfl) ?_
         refine al_ro' (ro_lss s30_12 s29_12) trivial rfl ?_
         refine al_end (fun e_13 he_13 => ?_)
         have s8_13 := ef 8 he_13 (up_m rfl s8_12)
         have s28_13 := ef 28 he_13 (up_m rfl s28_12)
         have s29_13 := ef 29 he_13 (up_m rfl s29_12)
         have s30_13 := ef 30 he_13 (up_m rfl s30_12)
         have s31_13 := ef 31 he_13 up_h
         clear he_13 s28_12 s29_12 s30_12 s8_12
         refine then_n ?_
         refine aw_seq ?_
         refine aw_case s31_13 (fun hq_14 => ?_) (fun hq_14 => ?_)
         · (first | replace hq_14 := bnt hq_14 | replace hq_14 := bnf hq_14 | replace hq_14 := bt hq_14 | replace hq_14 := bf hq_14 | replace hq_14 := bt' hq_14 | replace hq_14 := bf' hq_14 | skip)
           first
           | (cases hq_14; done) | (exfalso; omega)
           | (
              refine aw_skip ?_
              refine then_n ?_
              refine aw_seq ?_
              refine aw_block ?_
              refine aw_seq ?_
              refine aw_text (by kernel_rfl) ?_
              refine al_ro' (ro_move s30_13) trivial rfl ?_
              refine al_ro' (ro_eq (ro_ix k35_sl30 (up_m rfl s28_13) (up_m rfl s30_13) (by first | decide | omega | (simp <;> omega)) (by first | (refine idx_map ?_; first | omega | (simp only [lnS]; omega)) | (refine idx_mapI ?_; first | omega | (simp only [lnS]; omega)) | (refine idx_mapN ?_; first | omega | (simp only [lnS]; omega)) | rfl)) (by first | (simp only [packA_t, packA_f, iE, bE, setAt, cellsA, Value.cells, map_vc, map_vn, Nat.reduceAdd, qS] <;> rfl) | rfl)) trivial rfl ?_
              refine al_ro' (ro_eq (ro_ld_ref k35_ty3 rfl up_h (by first | exact Nat.le_of_ble_eq_true rfl | omega | (simp only [lnS] <;> omega) | (simp <;> omega))) (by first | (simp only [packA_t, packA_f, iE, bE, setAt, cellsA, Value.cells, map_vc, map_vn, Nat.reduceAdd, qS] <;> rfl) | rfl)) trivial rfl ?_
              refine al_ro' (ro_assign (u2 rfl up_h)) trivial rfl ?_
              refine al_ro' (ro_assign (up_m rfl up_h)) trivial rfl ?_
              refine al_end (fun e_15 he_15 => ?_)
              have s8_15 := ef 8 he_15 (up_m rfl (u4 rfl s8_13))
              have s10_15 := ef 10 he_15 (up_m rfl up_h)
              have s11_15 := ef 11 he_15 up_h
              have s28_15 := ef 28 he_15 (up_m rfl (u4 rfl s28_13))
              have s29_15 := ef 29 he_15 (up_m rfl (u4 rfl s29_13))
              have s30_15 := ef 30 he_15 (up_m rfl (u4 rfl s30_13))
              clear he_15 s28_13 s29_13 s30_13 s31_13 s8_13
              refine then_n ?_
              refine aw_seq ?_
              refine aw_text (by kernel_rfl) ?_
              refine al_ro' (ro_eq (ro_ld_ptr k35_ty103 rfl mo2_12 s8_15 (by first | exact Nat.le_of_ble_eq_true rfl | omega | (simp only [lnS] <;> omega) | (simp <;> omega))) (by first | (simp only [packA_t, packA_f, iE, bE, setAt, cellsA, Value.cells, map_vc, map_vn, Nat.reduceAdd, qS] <;> rfl) | rfl)) trivial rfl ?_
              refine al_ro' (ro_move (up_m rfl s10_15)) trivial rfl ?_
              refine al_ro' (ro_move (u2 rfl s11_15)) trivial rfl ?_
              refine al_ro' (ro_build (evP_cons (up_m rfl up_h) (evP_cons up_h evP_nil)) k35_bz42 k35_bu42 k35_bp42 rfl) trivial rfl ?_
              refine al_ro' (ro_call (evL_cons (up_m rfl (u2 rfl up_h)) (evL_cons up_h evL_nil)) rfl (reached_ok nm ps hR.1 b d v hR.2.1 i _ ⟨by omega, by omega⟩ (hsq.2 i.toNat)) k35_hcf86) trivial rfl ?_
              refine al_ro' (ro_eq (ro_len_row up_h rfl k35_sl30.1) (by first | (simp only [lnS] <;> rfl) | rfl)) trivial rfl ?_
              refine al_ro' (ro_eql up_h ev_c) trivial rfl ?_
              refine al_end (fun e_16 he_16 => ?_)
              have s8_16 := ef 8 he_16 (up_m rfl (u2 rfl (u4 rfl s8_15)))
              have s10_16 := ef 10 he_16 (up_m rfl (u2 rfl (u4 rfl s10_15)))
              have s28_16 := ef 28 he_16 (up_m rfl (u2 rfl (u4 rfl s28_15)))
              have s29_16 := ef 29 he_16 (up_m rfl (u2 rfl (u4 rfl s29_15)))
              have s30_16 := ef 30 he_16 (up_m rfl (u2 rfl (u4 rfl s30_15)))
              have s41_16 := ef 41 he_16 up_h
              clear he_16 s10_15 s11_15 s28_15 s29_15 s30_15 s8_15
              refine then_n ?_
              refine aw_case s41_16 (fun hq_17 => ?_) (fun hq_17 => ?_)
              · (first | replace hq_17 := bnt hq_17 | replace hq_17 := bnf hq_17 | replace hq_17 := bt hq_17 | replace hq_17 := bf hq_17 | replace hq_17 := bt' hq_17 | replace hq_17 := bf' hq_17 | skip)
                first
                | (cases hq_17; done) | (exfalso; omega)
                | (
                   refine aw_seq ?_
                   refine aw_text (by kernel_rfl) ?_
                   refine al_ro' (ro_move s10_16) trivial rfl ?_
                   refine al_ro' (ro_assign up_h) trivial rfl ?_
                   refine al_ro' (ro_assign ev_c) trivial rfl ?_
                   refine al_end (fun e_18 he_18 => ?_)
                   have s6_18 := ef 6 he_18 (up_m rfl up_h)
                   have s7_18 := ef 7 he_18 up_h
                   clear he_18 s10_16 s28_16 s29_16 s30_16 s41_16 s8_16
                   refine then_n ?_
                   refine aw_ret ?_
                   refine block_r ?_
                   refine then_r ?_
                   refine then_r ?_
                   refine block_r ?_
                   refine then_r ?_
                   refine ret2 (.inr rfl) (by kernel_rfl) (resV_tmp s6_18) (resV_tmp s7_18) (.ro _ rfl) (.ro _ rfl) ?_
                   clear s6_18 s7_18 mo2_12 mo1_12 mo0_12 ml_12
                   (rw [if_pos hq, if_pos hq, fu_bad (i := i.toNat) (by omega) p3 (hat.2 (by assumption)), show ((i.toNat : Nat) : Int) = i by omega]))
              · (first | replace hq_17 := bnt hq_17 | replace hq_17 := bnf hq_17 | replace hq_17 := bt hq_17 | replace hq_17 := bf hq_17 | replace hq_17 := bt' hq_17 | replace hq_17 := bf' hq_17 | skip)
                first
                | (cases hq_17; done) | (exfalso; omega)
                | (
                   refine aw_skip ?_
                   refine block_n ?_
                   refine then_n ?_
                   refine aw_text (by kernel_rfl) ?_
                   first | (refine al_ro' (ro_add' s30_16 ev_c ?_) trivial rfl ?_; · (unfold In64; omega)) | refine al_ro' (ro_add s30_16 ev_c) trivial rfl ?_
                   refine al_ro' (ro_move up_h) trivial rfl ?_
                   refine al_end (fun e_19 he_19 => ?_)
                   have s8_19 := ef 8 he_19 (u2 rfl s8_16)
                   have s28_19 := ef 28 he_19 (u2 rfl s28_16)
                   have s29_19 := ef 29 he_19 (u2 rfl s29_16)
                   have s30_19 := ef 30 he_19 up_h
                   clear he_19 s10_16 s28_16 s29_16 s30_16 s41_16 s8_16
                   refine then_n ?_
                   refine ⟨_, ⟨s30_19, (s8_19.trans s8_11.symm), (s28_19.trans s28_11.symm), (s29_19.trans s29_11.symm), (mo2_12.trans mo2_5.symm), (mo1_12.trans mo1_5.symm), (mo0_12.trans mo0_5.symm), ml_12, ?_⟩, ?_⟩
                   · (refine ⟨by omega, by omega, fun j hj => ?_⟩; by_cases hji : j < i.toNat; (exact p3 j hji); (rw [show j = i.toNat by omega, hat]; assumption))
                   · ((try dsimp only); omega)))
         · (first | replace hq_14 := bnt hq_14 | replace hq_14 := bnf hq_14 | replace hq_14 := bt hq_14 | replace hq_14 := bf hq_14 | replace hq_14 := bt' hq_14 | replace hq_14 := bf' hq_14 | skip)
           first
           | (cases hq_14; done) | (exfalso; omega)
           | (
              refine aw_exit ?_
              refine then_x ?_
              refine then_x ?_
              refine block_hit ?_
              refine then_n ?_
              refine aw_seq ?_
              refine aw_text (by kernel_rfl) ?_
              refine al_ro' (ro_assign ev_c) trivial rfl ?_
              refine al_ro' (ro_assign ev_c) trivial rfl ?_
              refine al_end (fun e_20 he_20 => ?_)
              have s6_20 := ef 6 he_20 (up_m rfl up_h)
              have s7_20 := ef 7 he_20 up_h
              clear he_20 s28_13 s29_13 s30_13 s31_13 s8_13
              refine then_n ?_
              refine aw_ret ?_
              refine ret2 (.inr rfl) (by kernel_rfl) (resV_tmp s6_20) (resV_tmp s7_20) (.ro _ rfl) (.ro _ rfl) ?_
              clear s6_20 s7_20 mo2_12 mo1_12 mo0_12 ml_12
              (rw [if_pos hq, if_pos hq, fu_good (fun j hj => p3 j (by omega))])))
end Go.Proofs.Ytelgkjekpcfffaa
