/- Contracts of chapter 5: the time of squares, and the document's. No conditions on a program. -/
import Derived.Test.YtgiiedpambimoaaK25
namespace Go.Proofs.Ytgiiedpambimoaa
open Go Go.RowKit Go.Proofs
set_option linter.unusedSimpArgs false
set_option linter.unusedVariables false
theorem k26_az105 : (Try.prog.info? 105).bind (·.zero) = some (.agg #[.string ByteArray.empty, .slice none 0 0]) := by kernel_rfl
theorem k26_az118 : (Try.prog.info? 118).bind (·.zero) = some (.agg #[.int .i64 0, .int .i64 0, .int .i64 0, .bool false]) := by kernel_rfl
theorem k26_az42 : (Try.prog.info? 42).bind (·.zero) = some (.agg #[.int .i64 0, .int .i64 0]) := by kernel_rfl
theorem k26_bz42 : (Try.prog.info? 42).bind (·.zero) = some (.agg #[.int .i64 0, .int .i64 0]) := by kernel_rfl
theorem k26_bu42 : Try.prog.underlying 42 = some (.struct (fsOf Try.prog 42)) := by kernel_rfl
theorem k26_bp42 : ∀ w, ((fsOf Try.prog 42).mapM fun f => Prod.mk f.offset <$> sizeOf f.type : Sem (Array (Nat × Nat))).run Try.prog w = .ok (#[(0, 1), (1, 1)]) w := fun _ => by kernel_rfl
theorem k26_fl118_0 : FldIs Try.prog 118 0 0 false 1 := by unfold FldIs; kernel_rfl
theorem k26_fl42_0 : FldIs Try.prog 42 0 0 false 1 := by unfold FldIs; kernel_rfl
theorem k26_fl42_1 : FldIs Try.prog 42 1 1 false 1 := by unfold FldIs; kernel_rfl
theorem k26_fl51_1 : FldIs Try.prog 51 1 1 false 1 := by unfold FldIs; kernel_rfl
theorem k26_hcf56 : ∀ args w, (callFunc 56 args).run Try.prog w = .ok (.enter 56 args) w := fun _ _ => by kernel_rfl
theorem k26_hcf63 : ∀ args w, (callFunc 63 args).run Try.prog w = .ok (.enter 63 args) w := fun _ _ => by kernel_rfl
theorem k26_hcf66 : ∀ args w, (callFunc 66 args).run Try.prog w = .ok (.enter 66 args) w := fun _ _ => by kernel_rfl
theorem k26_hcf67 : ∀ args w, (callFunc 67 args).run Try.prog w = .ok (.enter 67 args) w := fun _ _ => by kernel_rfl
theorem k26_sl126 : SlIs Try.prog 126 33 1 8 (.int .i64 0) := ⟨by kernel_rfl, by kernel_rfl, by kernel_rfl⟩
theorem k26_sl22 : SlIs Try.prog 22 3 1 8 (.int .i64 0) := ⟨by kernel_rfl, by kernel_rfl, by kernel_rfl⟩
theorem k26_sl49 : SlIs Try.prog 49 118 4 32 (.agg #[.int .i64 0, .int .i64 0, .int .i64 0, .bool false]) := ⟨by kernel_rfl, by kernel_rfl, by kernel_rfl⟩
theorem k26_sz105 : (Try.prog.info? 105).map (·.size) = some 2 := by kernel_rfl
theorem k26_sz118 : (Try.prog.info? 118).map (·.size) = some 4 := by kernel_rfl
theorem k26_sz3 : (Try.prog.info? 3).map (·.size) = some 1 := by kernel_rfl
theorem k26_sz42 : (Try.prog.info? 42).map (·.size) = some 2 := by kernel_rfl
theorem k26_ty105 : TyIs Try.prog 105 true 2 := ⟨by kernel_rfl, by kernel_rfl⟩
theorem k26_ty118 : TyIs Try.prog 118 true 4 := ⟨by kernel_rfl, by kernel_rfl⟩
theorem k26_ty3 : TyIs Try.prog 3 false 1 := ⟨by kernel_rfl, by kernel_rfl⟩
theorem k26_ty42 : TyIs Try.prog 42 true 2 := ⟨by kernel_rfl, by kernel_rfl⟩
theorem k26_ty49 : TyIs Try.prog 49 false 1 := ⟨by kernel_rfl, by kernel_rfl⟩
theorem k26_ty51 : TyIs Try.prog 51 true 2 := ⟨by kernel_rfl, by kernel_rfl⟩

/-- The time from a piece on. -/
def timG (ps : List Piece) (xs : List Int) : Nat → Nat → Int → Int → Option (Int × Int)
  | 0, _, lo, hi => some (lo, hi)
  | k + 1, i, lo, hi => if xs.getD i default = 0 ∧ xs.getD (i + 1) default = 0 then none else
      timG ps xs k (i + 1) (lo + (2000 * (ps.getD i default).len).tdiv (ru (xs.getD i default) + ru (xs.getD (i + 1) default)))
        (hi + (2000 * (ps.getD i default).len + (rt (xs.getD i default) + rt (xs.getD (i + 1) default)) - 1).tdiv (rt (xs.getD i default) + rt (xs.getD (i + 1) default)))
def timW (ps : List Piece) (xs : List Int) : (Int × Int) × Int := match timG ps xs ps.length 0 0 0 with
  | some x => (x, 0)
  | none => ((0, 0), 11)
theorem tdiv_low {n k : Int} (hn : 0 ≤ n ∧ n ≤ 20000000000) (hk : 1 ≤ k) : 0 ≤ n.tdiv k ∧ n.tdiv k ≤ 20000000000 := by
  have := tdiv_bound (x := n) (y := k) hn.1 hk; omega
theorem tdiv_up {n k : Int} (hn : 0 ≤ n ∧ n ≤ 20000000000) (hk : 1 ≤ k) : 0 ≤ (n + k - 1).tdiv k ∧ (n + k - 1).tdiv k ≤ 20000000000 := by
  rw [Int.tdiv_eq_ediv_of_nonneg (by omega)]
  refine ⟨Int.ediv_nonneg (by omega) (by omega), ?_⟩
  have h1 : (n + k - 1) / k < n + 1 := by
    rw [Int.ediv_lt_iff_lt_mul (by omega), Int.add_mul, Int.one_mul]
    have : n * 1 ≤ n * k := Int.mul_le_mul_of_nonneg_left hk hn.1
    omega
  omega
theorem tim_facts {ps : List Piece} {xs : List Int} (hok : Ok ps) (hx : ∀ j : Nat, 0 ≤ xs.getD j default ∧ xs.getD j default ≤ 20000000000) (i : Nat) (h : ¬ (xs.getD i default = 0 ∧ xs.getD (i + 1) default = 0)) :
    (1 ≤ ru (xs.getD i default) + ru (xs.getD (i + 1) default) ∧ ru (xs.getD i default) + ru (xs.getD (i + 1) default) ≤ 300000) ∧ (1 ≤ rt (xs.getD i default) + rt (xs.getD (i + 1) default) ∧ rt (xs.getD i default) + rt (xs.getD (i + 1) default) ≤ 300000) ∧ (0 ≤ 2000 * (ps.getD i default).len ∧ 2000 * (ps.getD i default).len ≤ 20000000000) := by
  have a := hx i; have b := hx (i + 1); have c := (hok.at i).1
  have a1 := rt_bound a.1 a.2; have b1 := rt_bound b.1 b.2; have a2 := ru_bound a.1 a.2; have b2 := ru_bound b.1 b.2
  have a3 := rt_zero a.1 a.2; have b3 := rt_zero b.1 b.2
  have h5 : rt (xs.getD i default) ≠ 0 ∨ rt (xs.getD (i + 1) default) ≠ 0 := by
    by_cases h6 : xs.getD i default = 0
    · exact .inr fun e => h ⟨h6, b3.1 e⟩
    · exact .inl fun e => h6 (a3.1 e)
  omega
theorem ru_both {ps : List Piece} {xs : List Int} (hx : ∀ j : Nat, 0 ≤ xs.getD j default ∧ xs.getD j default ≤ 20000000000) (i : Nat) : ru (xs.getD i default) + ru (xs.getD (i + 1) default) = 0 ↔ (xs.getD i default = 0 ∧ xs.getD (i + 1) default = 0) := by
  have a := hx i; have b := hx (i + 1)
  have a2 := ru_bound a.1 a.2; have b2 := ru_bound b.1 b.2
  constructor
  · intro h; exact ⟨a2.2.2.2.1 (by omega), b2.2.2.2.1 (by omega)⟩
  · rintro ⟨h1, h2⟩; have := a2.2.2.2.2 h1; have := b2.2.2.2.2 h2; omega
def timE (nm : ByteArray) (ps : List Piece) (xs : List Int) : Int := firstE [(chk nm ps).2, sqsE ps xs]
section
variable (nm : ByteArray) (ps : List Piece) (hs : nm.size ≤ 1000000000) (hp : ps.length ≤ 1000000000) (xs : List Int) (hx : xs.length ≤ 1000000000)
include hs hp hx
set_option maxRecDepth 100000 in
set_option maxHeartbeats 4000000 in
theorem timeOf_ok : FnOk Try.prog 25 [trA nm ps, .row 1 (xs.map iE)] (fun q => q = .tuple [.agg [iA (if timE nm ps xs = 0 then (timW ps xs).1 else (0, 0)).1, iA (if timE nm ps xs = 0 then (timW ps xs).1 else (0, 0)).2], iA (if timE nm ps xs = 0 then (timW ps xs).2 else timE nm ps xs)]) := by
  refine fnOk_of (fn := Try.f25) 89 (by kernel_rfl) rfl (by kernel_rfl) (Nat.le_of_ble_eq_true rfl) ?_
  intro e_0 m_0 hA hm_0
  have s0_0 : evA e_0 (.tmp 0) = _ := hA 0 _ rfl
  have s1_0 : evA e_0 (.tmp 1) = _ := hA 1 _ rfl
  have ml_0 : m_0.length = 0 := by rw [hm_0]; rfl
  clear hA hm_0
  refine aw_seq ?_
  refine aw_text (by kernel_rfl) ?_
  refine al_stm (st_box s0_0 rfl ml_0) trivial rfl (fun m_1 hm_1 => ?_)
  have mo0_1 := m_push hm_1 ml_0
  (try simp only [packA_t, packA_f, iE, bE, setAt, cellsA, Value.cells, map_vc, map_vn, Nat.reduceAdd, qS, pE] at mo0_1)
  have ml_1 := m_push_l hm_1 ml_0
  have ml_1 : _ = 1 := ml_1
  clear hm_1
  refine al_stm (st_alloc k26_az42 rfl ml_1) trivial rfl (fun m_2 hm_2 => ?_)
  have mo1_2 := m_push hm_2 ml_1
  (try simp only [packA_t, packA_f, iE, bE, setAt, cellsA, Value.cells, map_vc, map_vn, Nat.reduceAdd, qS, pE] at mo1_2)
  have mo0_2 := m_push_o hm_2 mo0_1
  have ml_2 := m_push_l hm_2 ml_1
  have ml_2 : _ = 2 := ml_2
  clear hm_2 mo0_1
  refine al_ro' (ro_assign ev_c) trivial rfl ?_
  refine al_end (fun e_3 he_3 => ?_)
  have s1_3 := ef 1 he_3 (up_m rfl (u2 rfl s1_0))
  have s2_3 := ef 2 he_3 (u2 rfl up_h)
  have s4_3 := ef 4 he_3 (up_m rfl up_h)
  clear he_3 s0_0 s1_0
  refine then_n ?_
  refine aw_seq ?_
  refine aw_text (by kernel_rfl) ?_
  refine al_ro' (ro_eq (ro_ld_ptr k26_ty51 rfl mo0_2 s2_3 (by first | exact Nat.le_of_ble_eq_true rfl | omega | (simp only [lnS] <;> omega) | (simp <;> omega))) (by first | (simp only [packA_t, packA_f, iE, bE, setAt, cellsA, Value.cells, map_vc, map_vn, Nat.reduceAdd, qS, pE] <;> rfl) | rfl)) trivial rfl ?_
  refine al_ro' (ro_call (evL_cons up_h evL_nil) rfl (open_ok nm ps hs hp) k26_hcf66) trivial rfl ?_
  refine al_ro' (ro_move up_h) trivial rfl ?_
  refine al_ro' (ro_extract up_h rfl) trivial rfl ?_
  refine al_ro' (ro_extract (up_m rfl up_h) rfl) trivial rfl ?_
  refine al_stm (st_alloc k26_az105 rfl ml_2) trivial rfl (fun m_4 hm_4 => ?_)
  have mo2_4 := m_push hm_4 ml_2
  (try simp only [packA_t, packA_f, iE, bE, setAt, cellsA, Value.cells, map_vc, map_vn, Nat.reduceAdd, qS, pE] at mo2_4)
  have mo1_4 := m_push_o hm_4 mo1_2
  have mo0_4 := m_push_o hm_4 mo0_2
  have ml_4 := m_push_l hm_4 ml_2
  have ml_4 : _ = 3 := ml_4
  clear hm_4 mo1_2 mo0_2
  refine al_stm (st_store up_h (u2 rfl up_h) rfl rfl mo2_4 k26_sz105 rfl (by first | exact Nat.le_of_ble_eq_true rfl | omega | (simp only [lnS] <;> omega) | (simp <;> omega))) trivial rfl (fun m_5 hm_5 => ?_)
  have mo2_5 := m_set hm_5 mo2_4
  (try simp only [packA_t, packA_f, iE, bE, setAt, cellsA, Value.cells, map_vc, map_vn, Nat.reduceAdd, qS, pE] at mo2_5)
  have mo1_5 := m_set_o hm_5 mo1_4 (by decide)
  have mo0_5 := m_set_o hm_5 mo0_4 (by decide)
  have ml_5 := m_set_l hm_5 ml_4
  clear hm_5 mo2_4 mo1_4 mo0_4
  refine al_ro' (ro_assign (up_n (up_m rfl up_h))) trivial rfl ?_
  refine al_end (fun e_6 he_6 => ?_)
  have s1_6 := ef 1 he_6 (up_m rfl (up_n (u2 rfl (u4 rfl s1_3))))
  have s2_6 := ef 2 he_6 (up_m rfl (up_n (u2 rfl (u4 rfl s2_3))))
  have s4_6 := ef 4 he_6 (up_m rfl (up_n (u2 rfl (u4 rfl s4_3))))
  have s6_6 := ef 6 he_6 (up_m rfl (up_n up_h))
  have s7_6 := ef 7 he_6 up_h
  clear he_6 s1_3 s2_3 s4_3
  refine then_n ?_
  refine aw_seq ?_
  refine aw_seq ?_
  refine aw_text (by kernel_rfl) ?_
  refine al_ro' (ro_move s7_6) trivial rfl ?_
  refine al_ro' (ro_eq (ro_ld_ptr k26_ty105 rfl mo2_5 (up_m rfl s6_6) (by first | exact Nat.le_of_ble_eq_true rfl | omega | (simp only [lnS] <;> omega) | (simp <;> omega))) (by first | (simp only [packA_t, packA_f, iE, bE, setAt, cellsA, Value.cells, map_vc, map_vn, Nat.reduceAdd, qS, pE] <;> rfl) | rfl)) trivial rfl ?_
  refine al_ro' (ro_move (u2 rfl s1_6)) trivial rfl ?_
  refine al_ro' (ro_call (evL_cons (up_m rfl up_h) (evL_cons up_h evL_nil)) rfl (squaresErr_ok xs hx nm ps hp) k26_hcf63) trivial rfl ?_
  refine al_ro' (ro_lit k26_sl126 (evP_cons (up_m rfl (u2 rfl up_h)) (evP_cons up_h evP_nil)) rfl rfl rfl rfl) trivial rfl ?_
  refine al_ro' (ro_call (evL_cons up_h evL_nil) rfl (first_ok [_, _] (by simp)) k26_hcf56) trivial rfl ?_
  refine al_ro' (ro_assign up_h) trivial rfl ?_
  refine al_end (fun e_7 he_7 => ?_)
  have s1_7 := ef 1 he_7 (up_m rfl (u2 rfl (u4 rfl s1_6)))
  have s2_7 := ef 2 he_7 (up_m rfl (u2 rfl (u4 rfl s2_6)))
  have s4_7 := ef 4 he_7 (up_m rfl (u2 rfl (u4 rfl s4_6)))
  have s7_7 := ef 7 he_7 up_h
  clear he_7 s1_6 s2_6 s4_6 s6_6 s7_6
  refine then_n ?_
  refine aw_seq ?_
  refine aw_text (by kernel_rfl) ?_
  refine al_ro' (ro_move s7_7) trivial rfl ?_
  refine al_ro' (ro_neq up_h ev_c) trivial rfl ?_
  refine al_end (fun e_8 he_8 => ?_)
  have s1_8 := ef 1 he_8 (u2 rfl s1_7)
  have s2_8 := ef 2 he_8 (u2 rfl s2_7)
  have s4_8 := ef 4 he_8 (u2 rfl s4_7)
  have s7_8 := ef 7 he_8 (u2 rfl s7_7)
  have s28_8 := ef 28 he_8 up_h
  clear he_8 s1_7 s2_7 s4_7 s7_7
  refine then_n ?_
  refine aw_case s28_8 (fun hq_9 => ?_) (fun hq_9 => ?_)
  · (first | replace hq_9 := bnt hq_9 | replace hq_9 := bnf hq_9 | replace hq_9 := bt hq_9 | replace hq_9 := bf hq_9 | replace hq_9 := bt' hq_9 | replace hq_9 := bf' hq_9 | skip)
    first
    | (cases hq_9; done) | (exfalso; omega)
    | (
       refine aw_seq ?_
       refine aw_text (by kernel_rfl) ?_
       refine al_ro' (ro_build evP_nil k26_bz42 k26_bu42 k26_bp42 rfl) trivial rfl ?_
       refine al_ro' (ro_move (up_m rfl s7_8)) trivial rfl ?_
       refine al_stm (st_store (u2 rfl s4_8) (up_m rfl up_h) rfl rfl mo1_5 k26_sz42 rfl (by first | exact Nat.le_of_ble_eq_true rfl | omega | (simp only [lnS] <;> omega) | (simp <;> omega))) trivial rfl (fun m_10 hm_10 => ?_)
       have mo1_10 := m_set hm_10 mo1_5
       (try simp only [packA_t, packA_f, iE, bE, setAt, cellsA, Value.cells, map_vc, map_vn, Nat.reduceAdd, qS, pE] at mo1_10)
       have mo2_10 := m_set_o hm_10 mo2_5 (by decide)
       have mo0_10 := m_set_o hm_10 mo0_5 (by decide)
       have ml_10 := m_set_l hm_10 ml_5
       clear hm_10 mo2_5 mo1_5 mo0_5
       refine al_ro' (ro_assign (up_n up_h)) trivial rfl ?_
       refine al_end (fun e_11 he_11 => ?_)
       have s4_11 := ef 4 he_11 (up_m rfl (up_n (u2 rfl s4_8)))
       have s5_11 := ef 5 he_11 up_h
       clear he_11 s1_8 s28_8 s2_8 s4_8 s7_8
       refine then_n ?_
       refine aw_ret ?_
       refine then_r ?_
       refine ret2 (.inr rfl) (by kernel_rfl) (resV_cell s4_11 mo1_10 k26_ty42 (by first | exact Nat.le_of_ble_eq_true rfl | omega | (simp only [lnS] <;> omega) | (simp <;> omega)) (by simp)) (resV_tmp s5_11) (vw_r (.ro _ rfl)) (.ro _ rfl) ?_
       clear s4_11 s5_11 mo1_10 mo2_10 mo0_10 ml_10
       (have hq : ¬ timE nm ps xs = 0 := (by assumption); rw [if_neg hq, if_neg hq]; rfl))
  · (first | replace hq_9 := bnt hq_9 | replace hq_9 := bnf hq_9 | replace hq_9 := bt hq_9 | replace hq_9 := bf hq_9 | replace hq_9 := bt' hq_9 | replace hq_9 := bf' hq_9 | skip)
    first
    | (cases hq_9; done) | (exfalso; omega)
    | (
       (have hq : timE nm ps xs = 0 := (by assumption); have hR := chk_right (firstE_cons hq).1; have hsq := sqs_right (firstE_cons (firstE_cons hq).2).1; have hlen := hR.2)
       refine aw_skip ?_
       refine then_n ?_
       refine aw_seq ?_
       refine aw_text (by kernel_rfl) ?_
       refine al_stm (st_alloc k26_az42 rfl ml_5) trivial rfl (fun m_12 hm_12 => ?_)
       have mo3_12 := m_push hm_12 ml_5
       (try simp only [packA_t, packA_f, iE, bE, setAt, cellsA, Value.cells, map_vc, map_vn, Nat.reduceAdd, qS, pE] at mo3_12)
       have mo2_12 := m_push_o hm_12 mo2_5
       have mo1_12 := m_push_o hm_12 mo1_5
       have mo0_12 := m_push_o hm_12 mo0_5
       have ml_12 := m_push_l hm_12 ml_5
       have ml_12 : _ = 4 := ml_12
       clear hm_12 mo2_5 mo1_5 mo0_5
       refine al_end (fun e_13 he_13 => ?_)
       have s1_13 := ef 1 he_13 (up_m rfl s1_8)
       have s2_13 := ef 2 he_13 (up_m rfl s2_8)
       have s4_13 := ef 4 he_13 (up_m rfl s4_8)
       have s8_13 := ef 8 he_13 up_h
       clear he_13 s1_8 s28_8 s2_8 s4_8 s7_8
       refine then_n ?_
       refine aw_seq ?_
       refine aw_seq ?_
       refine aw_text (by kernel_rfl) ?_
       refine al_ro' (ro_fld_ptr k26_fl51_1 rfl s2_13) trivial rfl ?_
       refine al_ro' (ro_eq (ro_ld_ptr k26_ty49 rfl mo0_12 up_h (by first | exact Nat.le_of_ble_eq_true rfl | omega | (simp only [lnS] <;> omega) | (simp <;> omega))) (by first | (simp only [packA_t, packA_f, iE, bE, setAt, cellsA, Value.cells, map_vc, map_vn, Nat.reduceAdd, qS, pE] <;> rfl) | rfl)) trivial rfl ?_
       refine al_ro' (ro_eq (ro_len_row up_h rfl k26_sl49.1) (by first | (simp only [lnS] <;> rfl) | rfl)) trivial rfl ?_
       refine al_ro' (ro_move ev_c) trivial rfl ?_
       refine al_end (fun e_14 he_14 => ?_)
       have s1_14 := ef 1 he_14 (u4 rfl s1_13)
       have s4_14 := ef 4 he_14 (u4 rfl s4_13)
       have s8_14 := ef 8 he_14 (u4 rfl s8_13)
       have s32_14 := ef 32 he_14 (u2 rfl up_h)
       have s33_14 := ef 33 he_14 (up_m rfl up_h)
       have s34_14 := ef 34 he_14 up_h
       clear he_14 s1_13 s2_13 s4_13 s8_13
       refine then_n ?_
       refine aw_block ?_
       refine aw_loop (S := (Int × Int × Int)) (fun s e mem => match s with | ⟨i, lo, hi⟩ => (evA e (.tmp 34) = .v (.int .i64 i)) ∧ (evA e (.tmp 1) = evA e_14 (.tmp 1)) ∧ (evA e (.tmp 4) = evA e_14 (.tmp 4)) ∧ (evA e (.tmp 8) = evA e_14 (.tmp 8)) ∧ (evA e (.tmp 32) = evA e_14 (.tmp 32)) ∧ (evA e (.tmp 33) = evA e_14 (.tmp 33)) ∧ (mem[3]? = some (.box 42 [iA lo, iA hi])) ∧ (mem[2]? = m_12[2]?) ∧ (mem[1]? = m_12[1]?) ∧ (mem[0]? = m_12[0]?) ∧ (∃ n, mem.length = n ∧ 4 ≤ n) ∧ (((0 ≤ i ∧ i ≤ ps.length) ∧ (0 ≤ lo ∧ lo ≤ 20000000000 * i) ∧ (0 ≤ hi ∧ hi ≤ 20000000000 * i) ∧ timG ps xs ps.length 0 0 0 = timG ps xs (ps.length - i.toNat) i.toNat lo hi))) (fun s => match s with | ⟨i, lo, hi⟩ => (ps.length - i).toNat) ⟨0, 0, 0⟩ ⟨s34_14, rfl, rfl, rfl, rfl, rfl, mo3_12, rfl, rfl, rfl, ⟨_, ml_12, Nat.le_refl _⟩, ?_⟩ ?_
       · (exact ⟨by omega, by omega, by omega, rfl⟩)
       · rintro ⟨i, lo, hi⟩ e_15 m_15 ⟨s34_15, k1_15, k4_15, k8_15, k32_15, k33_15, mo3_15, mk2_15, mk1_15, mk0_15, ⟨n_15, ml_15, hn_15⟩, hinv⟩
         have s1_15 := k1_15.trans s1_14
         have s4_15 := k4_15.trans s4_14
         have s8_15 := k8_15.trans s8_14
         have s32_15 := k32_15.trans s32_14
         have s33_15 := k33_15.trans s33_14
         have mo2_15 := mk2_15.trans mo2_12
         have mo1_15 := mk1_15.trans mo1_12
         have mo0_15 := mk0_15.trans mo0_12
         (obtain ⟨p1, p2, p3, p4⟩ := hinv; have hi1 : (i + 1).toNat = i.toNat + 1 := (by omega))
         refine aw_seq ?_
         refine aw_text (by kernel_rfl) ?_
         refine al_ro' (ro_lss s34_15 s33_15) trivial rfl ?_
         refine al_end (fun e_16 he_16 => ?_)
         have s1_16 := ef 1 he_16 (up_m rfl s1_15)
         have s4_16 := ef 4 he_16 (up_m rfl s4_15)
         have s8_16 := ef 8 he_16 (up_m rfl s8_15)
         have s32_16 := ef 32 he_16 (up_m rfl s32_15)
         have s33_16 := ef 33 he_16 (up_m rfl s33_15)
         have s34_16 := ef 34 he_16 (up_m rfl s34_15)
         have s35_16 := ef 35 he_16 up_h
         clear he_16 s1_15 s32_15 s33_15 s34_15 s4_15 s8_15
         refine then_n ?_
         refine aw_seq ?_
         refine aw_case s35_16 (fun hq_17 => ?_) (fun hq_17 => ?_)
         · (first | replace hq_17 := bnt hq_17 | replace hq_17 := bnf hq_17 | replace hq_17 := bt hq_17 | replace hq_17 := bf hq_17 | replace hq_17 := bt' hq_17 | replace hq_17 := bf' hq_17 | skip)
           first
           | (cases hq_17; done) | (exfalso; omega)
           | (
              (have q1 := ru_bound (hsq.2 i.toNat).1 (hsq.2 i.toNat).2; have q2 := ru_bound (hsq.2 (i + 1).toNat).1 (hsq.2 (i + 1).toNat).2)
              refine aw_skip ?_
              refine then_n ?_
              refine aw_seq ?_
              refine aw_block ?_
              refine aw_seq ?_
              refine aw_text (by kernel_rfl) ?_
              refine al_ro' (ro_move s34_16) trivial rfl ?_
              refine al_ro' (ro_eq (ro_ix k26_sl49 (up_m rfl s32_16) (up_m rfl s34_16) (by first | decide | omega | (simp <;> omega)) (by first | (refine idx_map ?_; first | omega | (simp only [lnS]; omega)) | (refine idx_mapI ?_; first | omega | (simp only [lnS]; omega)) | (refine idx_mapN ?_; first | omega | (simp only [lnS]; omega)) | rfl)) (by first | (simp only [packA_t, packA_f, iE, bE, setAt, cellsA, Value.cells, map_vc, map_vn, Nat.reduceAdd, qS, pE] <;> rfl) | rfl)) trivial rfl ?_
              refine al_ro' (ro_eq (ro_ld_ref k26_ty118 rfl up_h (by first | exact Nat.le_of_ble_eq_true rfl | omega | (simp only [lnS] <;> omega) | (simp <;> omega))) (by first | (simp only [packA_t, packA_f, iE, bE, setAt, cellsA, Value.cells, map_vc, map_vn, Nat.reduceAdd, qS, pE] <;> rfl) | rfl)) trivial rfl ?_
              refine al_stm (st_alloc k26_az118 rfl ml_15) trivial rfl (fun m_18 hm_18 => ?_)
              have mon_15_18 := m_push hm_18 ml_15
              (try simp only [packA_t, packA_f, iE, bE, setAt, cellsA, Value.cells, map_vc, map_vn, Nat.reduceAdd, qS, pE] at mon_15_18)
              have mo3_18 := m_push_o hm_18 mo3_15
              have mo2_18 := m_push_o hm_18 mo2_15
              have mo1_18 := m_push_o hm_18 mo1_15
              have mo0_18 := m_push_o hm_18 mo0_15
              have ml_18 := m_push_l hm_18 ml_15
              clear hm_18 mo3_15 mo2_15 mo1_15 mo0_15
              refine al_ro' (ro_assign (up_m rfl (u2 rfl up_h))) trivial rfl ?_
              refine al_stm (st_store (up_m rfl up_h) (u2 rfl up_h) rfl rfl mon_15_18 k26_sz118 rfl (by first | exact Nat.le_of_ble_eq_true rfl | omega | (simp only [lnS] <;> omega) | (simp <;> omega))) trivial rfl (fun m_19 hm_19 => ?_)
              have mon_15_19 := m_set hm_19 mon_15_18
              (try simp only [packA_t, packA_f, iE, bE, setAt, cellsA, Value.cells, map_vc, map_vn, Nat.reduceAdd, qS, pE] at mon_15_19)
              have mo3_19 := m_set_o hm_19 mo3_18 (by omega)
              have mo2_19 := m_set_o hm_19 mo2_18 (by omega)
              have mo1_19 := m_set_o hm_19 mo1_18 (by omega)
              have mo0_19 := m_set_o hm_19 mo0_18 (by omega)
              have ml_19 := m_set_l hm_19 ml_18
              clear hm_19 mon_15_18 mo3_18 mo2_18 mo1_18 mo0_18
              refine al_end (fun e_20 he_20 => ?_)
              have s1_20 := ef 1 he_20 (up_n (up_m rfl (u4 rfl s1_16)))
              have s4_20 := ef 4 he_20 (up_n (up_m rfl (u4 rfl s4_16)))
              have s8_20 := ef 8 he_20 (up_n (up_m rfl (u4 rfl s8_16)))
              have s9_20 := ef 9 he_20 (up_n up_h)
              have s10_20 := ef 10 he_20 (up_n (up_m rfl up_h))
              have s32_20 := ef 32 he_20 (up_n (up_m rfl (u4 rfl s32_16)))
              have s33_20 := ef 33 he_20 (up_n (up_m rfl (u4 rfl s33_16)))
              have s34_20 := ef 34 he_20 (up_n (up_m rfl (u4 rfl s34_16)))
              clear he_20 s1_16 s32_16 s33_16 s34_16 s35_16 s4_16 s8_16
              refine then_n ?_
              refine aw_seq ?_
              refine aw_drawK 13 2 ml_19 (by kernel_rfl) (by kernel_rfl) (by kernel_rfl) (by kernel_rfl) (fun m_21 hm_21 => ?_)
              have mon_15_21 := m_room_o hm_21 mon_15_19
              have mo3_21 := m_room_o hm_21 mo3_19
              have mo2_21 := m_room_o hm_21 mo2_19
              have mo1_21 := m_room_o hm_21 mo1_19
              have mo0_21 := m_room_o hm_21 mo0_19
              have mon_15_1_21 : m_21[n_15 + 1]? = _ := m_room_g hm_21 ml_19 0 rfl rfl
              have mon_15_1_1_21 : m_21[n_15 + 1 + 1]? = _ := m_room_g hm_21 ml_19 1 rfl rfl
              have ml_21 : _ = n_15 + 1 + 2 := m_room_l hm_21 ml_19
              clear hm_21 mon_15_19 mo3_19 mo2_19 mo1_19 mo0_19 ml_19
              refine dh_ro (fun M_ hM_ => (ro_move s1_20)) trivial ?_
              refine dh_ro (fun M_ hM_ => (ro_move (up_m rfl s9_20))) trivial ?_
              refine dh_ro (fun M_ hM_ => (ro_eq (ro_ix k26_sl22 (up_m rfl up_h) up_h (by first | decide | omega | (simp <;> omega)) (by first | (refine idx_map ?_; first | omega | (simp only [lnS]; omega)) | (refine idx_mapI ?_; first | omega | (simp only [lnS]; omega)) | (refine idx_mapN ?_; first | omega | (simp only [lnS]; omega)) | rfl)) (by first | (simp only [packA_t, packA_f, iE, bE, setAt, cellsA, Value.cells, map_vc, map_vn, Nat.reduceAdd, qS, pE] <;> rfl) | rfl))) trivial ?_
              refine dh_ro (fun M_ hM_ => (ro_eq (ro_ld_ref k26_ty3 rfl up_h (by first | exact Nat.le_of_ble_eq_true rfl | omega | (simp only [lnS] <;> omega) | (simp <;> omega))) (by first | (simp only [packA_t, packA_f, iE, bE, setAt, cellsA, Value.cells, map_vc, map_vn, Nat.reduceAdd, qS, pE] <;> rfl) | rfl))) trivial ?_
              refine dh_ro (fun M_ hM_ => (ro_call (evL_cons up_h evL_nil) rfl (roots_ok (xs.getD i.toNat default) (hsq.2 _).1 (hsq.2 _).2) k26_hcf67)) trivial ?_
              refine dh_ro (fun M_ hM_ => (ro_move (up_m rfl (u4 rfl s1_20)))) trivial ?_
              refine dh_ro (fun M_ hM_ => (ro_move (u2 rfl (u4 rfl s9_20)))) trivial ?_
              first | (refine dh_ro (fun M_ hM_ => (ro_add' up_h ev_c ?_)) trivial ?_; · (unfold In64; omega)) | refine dh_ro (fun M_ hM_ => (ro_add up_h ev_c)) trivial ?_
              refine dh_ro (fun M_ hM_ => (ro_eq (ro_ix k26_sl22 (u2 rfl up_h) up_h (by first | decide | omega | (simp <;> omega)) (by first | (refine idx_map ?_; first | omega | (simp only [lnS]; omega)) | (refine idx_mapI ?_; first | omega | (simp only [lnS]; omega)) | (refine idx_mapN ?_; first | omega | (simp only [lnS]; omega)) | rfl)) (by first | (simp only [packA_t, packA_f, iE, bE, setAt, cellsA, Value.cells, map_vc, map_vn, Nat.reduceAdd, qS, pE] <;> rfl) | rfl))) trivial ?_
              refine dh_ro (fun M_ hM_ => (ro_eq (ro_ld_ref k26_ty3 rfl up_h (by first | exact Nat.le_of_ble_eq_true rfl | omega | (simp only [lnS] <;> omega) | (simp <;> omega))) (by first | (simp only [packA_t, packA_f, iE, bE, setAt, cellsA, Value.cells, map_vc, map_vn, Nat.reduceAdd, qS, pE] <;> rfl) | rfl))) trivial ?_
              refine dh_ro (fun M_ hM_ => (ro_call (evL_cons up_h evL_nil) rfl (roots_ok (xs.getD (i + 1).toNat default) (hsq.2 _).1 (hsq.2 _).2) k26_hcf67)) trivial ?_
              refine dh_nw (n_15 + 1) (fun M_ hM_ => (nw_alloc k26_az42 rfl)) trivial mon_15_1_21 rfl trivial trivial (fun m_22 hm_22 => ?_)
              have mon_15_1_22 := m_set hm_22 mon_15_1_21
              (try simp only [packA_t, packA_f, iE, bE, setAt, cellsA, Value.cells, map_vc, map_vn, Nat.reduceAdd, qS, pE] at mon_15_1_22)
              have mon_15_22 := m_set_o hm_22 mon_15_21 (by omega)
              have mo3_22 := m_set_o hm_22 mo3_21 (by omega)
              have mo2_22 := m_set_o hm_22 mo2_21 (by omega)
              have mo1_22 := m_set_o hm_22 mo1_21 (by omega)
              have mo0_22 := m_set_o hm_22 mo0_21 (by omega)
              have mon_15_1_1_22 := m_set_o hm_22 mon_15_1_1_21 (by omega)
              have ml_22 := m_set_l hm_22 ml_21
              clear hm_22 mon_15_21 mo3_21 mo2_21 mo1_21 mo0_21 mon_15_1_21 mon_15_1_1_21
              refine dh_nw (n_15 + 1 + 1) (fun M_ hM_ => (nw_alloc k26_az42 rfl)) trivial mon_15_1_1_22 rfl ⟨.inl (by simp <;> omega), trivial⟩ ⟨.inl (by simp <;> omega), trivial⟩ (fun m_23 hm_23 => ?_)
              have mon_15_1_1_23 := m_set hm_23 mon_15_1_1_22
              (try simp only [packA_t, packA_f, iE, bE, setAt, cellsA, Value.cells, map_vc, map_vn, Nat.reduceAdd, qS, pE] at mon_15_1_1_23)
              have mon_15_1_23 := m_set_o hm_23 mon_15_1_22 (by omega)
              have mon_15_23 := m_set_o hm_23 mon_15_22 (by omega)
              have mo3_23 := m_set_o hm_23 mo3_22 (by omega)
              have mo2_23 := m_set_o hm_23 mo2_22 (by omega)
              have mo1_23 := m_set_o hm_23 mo1_22 (by omega)
              have mo0_23 := m_set_o hm_23 mo0_22 (by omega)
              have ml_23 := m_set_l hm_23 ml_22
              clear hm_23 mon_15_1_22 mon_15_22 mo3_22 mo2_22 mo1_22 mo0_22 mon_15_1_1_22
              refine dh_nil rfl ?_
              refine al_stm (st_store (up_m rfl up_h) (u8 rfl up_h) rfl rfl mon_15_1_23 k26_sz42 rfl (by first | exact Nat.le_of_ble_eq_true rfl | omega | (simp only [lnS] <;> omega) | (simp <;> omega))) trivial rfl (fun m_24 hm_24 => ?_)
              have mon_15_1_24 := m_set hm_24 mon_15_1_23
              (try simp only [packA_t, packA_f, iE, bE, setAt, cellsA, Value.cells, map_vc, map_vn, Nat.reduceAdd, qS, pE] at mon_15_1_24)
              have mon_15_1_1_24 := m_set_o hm_24 mon_15_1_1_23 (by omega)
              have mon_15_24 := m_set_o hm_24 mon_15_23 (by omega)
              have mo3_24 := m_set_o hm_24 mo3_23 (by omega)
              have mo2_24 := m_set_o hm_24 mo2_23 (by omega)
              have mo1_24 := m_set_o hm_24 mo1_23 (by omega)
              have mo0_24 := m_set_o hm_24 mo0_23 (by omega)
              have ml_24 := m_set_l hm_24 ml_23
              clear hm_24 mon_15_1_1_23 mon_15_1_23 mon_15_23 mo3_23 mo2_23 mo1_23 mo0_23
              refine al_stm (st_store (up_n up_h) (up_n (u2 rfl up_h)) rfl rfl mon_15_1_1_24 k26_sz42 rfl (by first | exact Nat.le_of_ble_eq_true rfl | omega | (simp only [lnS] <;> omega) | (simp <;> omega))) trivial rfl (fun m_25 hm_25 => ?_)
              have mon_15_1_1_25 := m_set hm_25 mon_15_1_1_24
              (try simp only [packA_t, packA_f, iE, bE, setAt, cellsA, Value.cells, map_vc, map_vn, Nat.reduceAdd, qS, pE] at mon_15_1_1_25)
              have mon_15_1_25 := m_set_o hm_25 mon_15_1_24 (by omega)
              have mon_15_25 := m_set_o hm_25 mon_15_24 (by omega)
              have mo3_25 := m_set_o hm_25 mo3_24 (by omega)
              have mo2_25 := m_set_o hm_25 mo2_24 (by omega)
              have mo1_25 := m_set_o hm_25 mo1_24 (by omega)
              have mo0_25 := m_set_o hm_25 mo0_24 (by omega)
              have ml_25 := m_set_l hm_25 ml_24
              clear hm_25 mon_15_1_24 mon_15_1_1_24 mon_15_24 mo3_24 mo2_24 mo1_24 mo0_24
              refine al_end (fun e_26 he_26 => ?_)
              have s1_26 := ef 1 he_26 (up_n (up_n (up_m rfl (u4 rfl (u8 rfl s1_20)))))
              have s4_26 := ef 4 he_26 (up_n (up_n (up_m rfl (u4 rfl (u8 rfl s4_20)))))
              have s8_26 := ef 8 he_26 (up_n (up_n (up_m rfl (u4 rfl (u8 rfl s8_20)))))
              have s10_26 := ef 10 he_26 (up_n (up_n (up_m rfl (u4 rfl (u8 rfl s10_20)))))
              have s11_26 := ef 11 he_26 (up_n (up_n (up_m rfl up_h)))
              have s12_26 := ef 12 he_26 (up_n (up_n up_h))
              have s32_26 := ef 32 he_26 (up_n (up_n (up_m rfl (u4 rfl (u8 rfl s32_20)))))
              have s33_26 := ef 33 he_26 (up_n (up_n (up_m rfl (u4 rfl (u8 rfl s33_20)))))
              have s34_26 := ef 34 he_26 (up_n (up_n (up_m rfl (u4 rfl (u8 rfl s34_20)))))
              clear he_26 s10_20 s1_20 s32_20 s33_20 s34_20 s4_20 s8_20 s9_20
              refine then_n ?_
              refine aw_seq ?_
              refine aw_seq ?_
              refine aw_text (by kernel_rfl) ?_
              refine al_ro' (ro_fld_ptr k26_fl42_1 rfl s11_26) trivial rfl ?_
              refine al_ro' (ro_eq (ro_ld_ptr k26_ty3 rfl mon_15_1_25 up_h (by first | exact Nat.le_of_ble_eq_true rfl | omega | (simp only [lnS] <;> omega) | (simp <;> omega))) (by first | (simp only [packA_t, packA_f, iE, bE, setAt, cellsA, Value.cells, map_vc, map_vn, Nat.reduceAdd, qS, pE] <;> rfl) | rfl)) trivial rfl ?_
              refine al_ro' (ro_fld_ptr k26_fl42_1 rfl (u2 rfl s12_26)) trivial rfl ?_
              refine al_ro' (ro_eq (ro_ld_ptr k26_ty3 rfl mon_15_1_1_25 up_h (by first | exact Nat.le_of_ble_eq_true rfl | omega | (simp only [lnS] <;> omega) | (simp <;> omega))) (by first | (simp only [packA_t, packA_f, iE, bE, setAt, cellsA, Value.cells, map_vc, map_vn, Nat.reduceAdd, qS, pE] <;> rfl) | rfl)) trivial rfl ?_
              first | (refine al_ro' (ro_add' (u2 rfl up_h) up_h ?_) trivial rfl ?_; · (unfold In64; omega)) | refine al_ro' (ro_add (u2 rfl up_h) up_h) trivial rfl ?_
              refine al_ro' (ro_eql up_h ev_c) trivial rfl ?_
              refine al_end (fun e_27 he_27 => ?_)
              have s1_27 := ef 1 he_27 (u2 rfl (u4 rfl s1_26))
              have s4_27 := ef 4 he_27 (u2 rfl (u4 rfl s4_26))
              have s8_27 := ef 8 he_27 (u2 rfl (u4 rfl s8_26))
              have s10_27 := ef 10 he_27 (u2 rfl (u4 rfl s10_26))
              have s11_27 := ef 11 he_27 (u2 rfl (u4 rfl s11_26))
              have s12_27 := ef 12 he_27 (u2 rfl (u4 rfl s12_26))
              have s32_27 := ef 32 he_27 (u2 rfl (u4 rfl s32_26))
              have s33_27 := ef 33 he_27 (u2 rfl (u4 rfl s33_26))
              have s34_27 := ef 34 he_27 (u2 rfl (u4 rfl s34_26))
              have s55_27 := ef 55 he_27 up_h
              clear he_27 s10_26 s11_26 s12_26 s1_26 s32_26 s33_26 s34_26 s4_26 s8_26
              refine then_n ?_
              refine aw_case s55_27 (fun hq_28 => ?_) (fun hq_28 => ?_)
              · (first | replace hq_28 := bnt hq_28 | replace hq_28 := bnf hq_28 | replace hq_28 := bt hq_28 | replace hq_28 := bf hq_28 | replace hq_28 := bt' hq_28 | replace hq_28 := bf' hq_28 | skip)
                first
                | (cases hq_28; done) | (exfalso; omega)
                | (
                   (have hz : xs.getD i.toNat default = 0 ∧ xs.getD (i.toNat + 1) default = 0 := (by rw [hi1] at *; exact (ru_both (ps := ps) hsq.2 i.toNat).1 (by assumption)))
                   refine aw_seq ?_
                   refine aw_text (by kernel_rfl) ?_
                   refine al_ro' (ro_build evP_nil k26_bz42 k26_bu42 k26_bp42 rfl) trivial rfl ?_
                   refine al_stm (st_store (up_m rfl s4_27) up_h rfl rfl mo1_25 k26_sz42 rfl (by first | exact Nat.le_of_ble_eq_true rfl | omega | (simp only [lnS] <;> omega) | (simp <;> omega))) trivial rfl (fun m_29 hm_29 => ?_)
                   have mo1_29 := m_set hm_29 mo1_25
                   (try simp only [packA_t, packA_f, iE, bE, setAt, cellsA, Value.cells, map_vc, map_vn, Nat.reduceAdd, qS, pE] at mo1_29)
                   have mon_15_1_1_29 := m_set_o hm_29 mon_15_1_1_25 (by omega)
                   have mon_15_1_29 := m_set_o hm_29 mon_15_1_25 (by omega)
                   have mon_15_29 := m_set_o hm_29 mon_15_25 (by omega)
                   have mo3_29 := m_set_o hm_29 mo3_25 (by decide)
                   have mo2_29 := m_set_o hm_29 mo2_25 (by decide)
                   have mo0_29 := m_set_o hm_29 mo0_25 (by decide)
                   have ml_29 := m_set_l hm_29 ml_25
                   clear hm_29 mon_15_1_1_25 mon_15_1_25 mon_15_25 mo3_25 mo2_25 mo1_25 mo0_25
                   refine al_ro' (ro_assign ev_c) trivial rfl ?_
                   refine al_end (fun e_30 he_30 => ?_)
                   have s4_30 := ef 4 he_30 (up_m rfl (up_n (up_m rfl s4_27)))
                   have s5_30 := ef 5 he_30 up_h
                   clear he_30 s10_27 s11_27 s12_27 s1_27 s32_27 s33_27 s34_27 s4_27 s55_27 s8_27
                   refine then_n ?_
                   refine aw_ret ?_
                   refine then_r ?_
                   refine block_r ?_
                   refine then_r ?_
                   refine then_r ?_
                   refine block_r ?_
                   refine then_r ?_
                   refine ret2 (.inr rfl) (by kernel_rfl) (resV_cell s4_30 mo1_29 k26_ty42 (by first | exact Nat.le_of_ble_eq_true rfl | omega | (simp only [lnS] <;> omega) | (simp <;> omega)) (by simp)) (resV_tmp s5_30) (vw_r (.ro _ rfl)) (.ro _ rfl) ?_
                   clear s4_30 s5_30 mo1_29 mon_15_1_1_29 mon_15_1_29 mon_15_29 mo3_29 mo2_29 mo0_29 ml_29
                   (have ht : timW ps xs = ((0, 0), 11) := (by unfold timW; rw [p4, show ps.length - i.toNat = (ps.length - (i + 1).toNat) + 1 by omega]; simp only [timG]; rw [if_pos hz]); rw [if_pos hq, if_pos hq, ht]; rfl))
              · (first | replace hq_28 := bnt hq_28 | replace hq_28 := bnf hq_28 | replace hq_28 := bt hq_28 | replace hq_28 := bf hq_28 | replace hq_28 := bt' hq_28 | replace hq_28 := bf' hq_28 | skip)
                first
                | (cases hq_28; done) | (exfalso; omega)
                | (
                   (have hnz : ¬ (xs.getD i.toNat default = 0 ∧ xs.getD (i.toNat + 1) default = 0) := (fun hz => by have := (ru_both (ps := ps) hsq.2 i.toNat).2 hz; rw [← hi1] at this; omega); obtain ⟨t1, t2, t3⟩ := tim_facts hR.1 hsq.2 i.toNat hnz; rw [← hi1] at t1 t2; have d1 := tdiv_low t3 t1.1; have d2 := tdiv_up t3 t2.1; have q1 := ru_bound (hsq.2 i.toNat).1 (hsq.2 i.toNat).2; have q2 := ru_bound (hsq.2 (i + 1).toNat).1 (hsq.2 (i + 1).toNat).2; have q3 := rt_bound (hsq.2 i.toNat).1 (hsq.2 i.toNat).2; have q4 := rt_bound (hsq.2 (i + 1).toNat).1 (hsq.2 (i + 1).toNat).2)
                   refine aw_skip ?_
                   refine then_n ?_
                   refine aw_seq ?_
                   refine aw_draw 16 (by kernel_rfl) (by kernel_rfl) (by kernel_rfl) (by kernel_rfl) ?_
                   refine ds_ro' (ro_fld_ptr k26_fl118_0 rfl s10_27) trivial rfl ?_
                   refine ds_ro' (ro_eq (ro_ld_ptr k26_ty3 rfl mon_15_25 up_h (by first | exact Nat.le_of_ble_eq_true rfl | omega | (simp only [lnS] <;> omega) | (simp <;> omega))) (by first | (simp only [packA_t, packA_f, iE, bE, setAt, cellsA, Value.cells, map_vc, map_vn, Nat.reduceAdd, qS, pE] <;> rfl) | rfl)) trivial rfl ?_
                   first | (refine ds_ro' (ro_mul' ev_c up_h ?_) trivial rfl ?_; · (unfold In64; omega)) | refine ds_ro' (ro_mul ev_c up_h) trivial rfl ?_
                   refine ds_ro' (ro_fld_ptr k26_fl42_0 rfl (up_m rfl (u2 rfl s11_27))) trivial rfl ?_
                   refine ds_ro' (ro_eq (ro_ld_ptr k26_ty3 rfl mon_15_1_25 up_h (by first | exact Nat.le_of_ble_eq_true rfl | omega | (simp only [lnS] <;> omega) | (simp <;> omega))) (by first | (simp only [packA_t, packA_f, iE, bE, setAt, cellsA, Value.cells, map_vc, map_vn, Nat.reduceAdd, qS, pE] <;> rfl) | rfl)) trivial rfl ?_
                   refine ds_ro' (ro_fld_ptr k26_fl42_0 rfl (up_m rfl (u4 rfl s12_27))) trivial rfl ?_
                   refine ds_ro' (ro_eq (ro_ld_ptr k26_ty3 rfl mon_15_1_1_25 up_h (by first | exact Nat.le_of_ble_eq_true rfl | omega | (simp only [lnS] <;> omega) | (simp <;> omega))) (by first | (simp only [packA_t, packA_f, iE, bE, setAt, cellsA, Value.cells, map_vc, map_vn, Nat.reduceAdd, qS, pE] <;> rfl) | rfl)) trivial rfl ?_
                   first | (refine ds_ro' (ro_add' (u2 rfl up_h) up_h ?_) trivial rfl ?_; · (unfold In64; omega)) | refine ds_ro' (ro_add (u2 rfl up_h) up_h) trivial rfl ?_
                   refine ds_ro' (ro_fld_ptr k26_fl42_1 rfl (u8 rfl s11_27)) trivial rfl ?_
                   refine ds_ro' (ro_eq (ro_ld_ptr k26_ty3 rfl mon_15_1_25 up_h (by first | exact Nat.le_of_ble_eq_true rfl | omega | (simp only [lnS] <;> omega) | (simp <;> omega))) (by first | (simp only [packA_t, packA_f, iE, bE, setAt, cellsA, Value.cells, map_vc, map_vn, Nat.reduceAdd, qS, pE] <;> rfl) | rfl)) trivial rfl ?_
                   refine ds_ro' (ro_fld_ptr k26_fl42_1 rfl (u2 rfl (u8 rfl s12_27))) trivial rfl ?_
                   refine ds_ro' (ro_eq (ro_ld_ptr k26_ty3 rfl mon_15_1_1_25 up_h (by first | exact Nat.le_of_ble_eq_true rfl | omega | (simp only [lnS] <;> omega) | (simp <;> omega))) (by first | (simp only [packA_t, packA_f, iE, bE, setAt, cellsA, Value.cells, map_vc, map_vn, Nat.reduceAdd, qS, pE] <;> rfl) | rfl)) trivial rfl ?_
                   first | (refine ds_ro' (ro_add' (u2 rfl up_h) up_h ?_) trivial rfl ?_; · (unfold In64; omega)) | refine ds_ro' (ro_add (u2 rfl up_h) up_h) trivial rfl ?_
                   refine ds_ro' (ro_assign (u2 rfl (u8 rfl up_h))) trivial rfl ?_
                   refine ds_ro' (ro_assign (u2 rfl (u4 rfl up_h))) trivial rfl ?_
                   refine ds_ro' (ro_assign (u2 rfl up_h)) trivial rfl ?_
                   refine ds_nil ?_
                   refine al_end (fun e_31 he_31 => ?_)
                   have s1_31 := ef 1 he_31 (u16 rfl s1_27)
                   have s4_31 := ef 4 he_31 (u16 rfl s4_27)
                   have s8_31 := ef 8 he_31 (u16 rfl s8_27)
                   have s13_31 := ef 13 he_31 (u2 rfl up_h)
                   have s14_31 := ef 14 he_31 (up_m rfl up_h)
                   have s15_31 := ef 15 he_31 up_h
                   have s32_31 := ef 32 he_31 (u16 rfl s32_27)
                   have s33_31 := ef 33 he_31 (u16 rfl s33_27)
                   have s34_31 := ef 34 he_31 (u16 rfl s34_27)
                   clear he_31 s10_27 s11_27 s12_27 s1_27 s32_27 s33_27 s34_27 s4_27 s55_27 s8_27
                   refine then_n ?_
                   refine aw_seq ?_
                   refine aw_draw 7 (by kernel_rfl) (by kernel_rfl) (by kernel_rfl) (by kernel_rfl) ?_
                   refine ds_ro' (ro_fld_ptr k26_fl42_0 rfl s8_31) trivial rfl ?_
                   refine ds_ro' (ro_eq (ro_ld_ptr k26_ty3 rfl mo3_25 up_h (by first | exact Nat.le_of_ble_eq_true rfl | omega | (simp only [lnS] <;> omega) | (simp <;> omega))) (by first | (simp only [packA_t, packA_f, iE, bE, setAt, cellsA, Value.cells, map_vc, map_vn, Nat.reduceAdd, qS, pE] <;> rfl) | rfl)) trivial rfl ?_
                   refine ds_ro' (ro_move (u2 rfl s13_31)) trivial rfl ?_
                   refine ds_ro' (ro_move (up_m rfl (u2 rfl s15_31))) trivial rfl ?_
                   first | (refine ds_ro' (ro_quo' (up_m rfl up_h) up_h (by first | decide | omega) ?_) trivial rfl ?_; · (unfold In64; omega)) | refine ds_ro' (ro_quo (up_m rfl up_h) up_h (by first | decide | omega)) trivial rfl ?_
                   first | (refine ds_ro' (ro_add' (up_m rfl (u2 rfl up_h)) up_h ?_) trivial rfl ?_; · (unfold In64; omega)) | refine ds_ro' (ro_add (up_m rfl (u2 rfl up_h)) up_h) trivial rfl ?_
                   refine ds_ro' (ro_fld_ptr k26_fl42_0 rfl (u2 rfl (u4 rfl s8_31))) trivial rfl ?_
                   refine ds_nil ?_
                   refine al_stm (st_store up_h (up_m rfl up_h) rfl rfl mo3_25 k26_sz3 rfl (by first | exact Nat.le_of_ble_eq_true rfl | omega | (simp only [lnS] <;> omega) | (simp <;> omega))) trivial rfl (fun m_32 hm_32 => ?_)
                   have mo3_32 := m_set hm_32 mo3_25
                   (try simp only [packA_t, packA_f, iE, bE, setAt, cellsA, Value.cells, map_vc, map_vn, Nat.reduceAdd, qS, pE] at mo3_32)
                   have mon_15_1_1_32 := m_set_o hm_32 mon_15_1_1_25 (by omega)
                   have mon_15_1_32 := m_set_o hm_32 mon_15_1_25 (by omega)
                   have mon_15_32 := m_set_o hm_32 mon_15_25 (by omega)
                   have mo2_32 := m_set_o hm_32 mo2_25 (by decide)
                   have mo1_32 := m_set_o hm_32 mo1_25 (by decide)
                   have mo0_32 := m_set_o hm_32 mo0_25 (by decide)
                   have ml_32 := m_set_l hm_32 ml_25
                   clear hm_32 mon_15_1_1_25 mon_15_1_25 mon_15_25 mo3_25 mo2_25 mo1_25 mo0_25
                   refine al_end (fun e_33 he_33 => ?_)
                   have s1_33 := ef 1 he_33 (up_n (up_m rfl (u2 rfl (u4 rfl s1_31))))
                   have s4_33 := ef 4 he_33 (up_n (up_m rfl (u2 rfl (u4 rfl s4_31))))
                   have s8_33 := ef 8 he_33 (up_n (up_m rfl (u2 rfl (u4 rfl s8_31))))
                   have s13_33 := ef 13 he_33 (up_n (up_m rfl (u2 rfl (u4 rfl s13_31))))
                   have s14_33 := ef 14 he_33 (up_n (up_m rfl (u2 rfl (u4 rfl s14_31))))
                   have s32_33 := ef 32 he_33 (up_n (up_m rfl (u2 rfl (u4 rfl s32_31))))
                   have s33_33 := ef 33 he_33 (up_n (up_m rfl (u2 rfl (u4 rfl s33_31))))
                   have s34_33 := ef 34 he_33 (up_n (up_m rfl (u2 rfl (u4 rfl s34_31))))
                   clear he_33 s13_31 s14_31 s15_31 s1_31 s32_31 s33_31 s34_31 s4_31 s8_31
                   refine then_n ?_
                   refine aw_draw 10 (by kernel_rfl) (by kernel_rfl) (by kernel_rfl) (by kernel_rfl) ?_
                   refine ds_ro' (ro_fld_ptr k26_fl42_1 rfl s8_33) trivial rfl ?_
                   refine ds_ro' (ro_eq (ro_ld_ptr k26_ty3 rfl mo3_32 up_h (by first | exact Nat.le_of_ble_eq_true rfl | omega | (simp only [lnS] <;> omega) | (simp <;> omega))) (by first | (simp only [packA_t, packA_f, iE, bE, setAt, cellsA, Value.cells, map_vc, map_vn, Nat.reduceAdd, qS, pE] <;> rfl) | rfl)) trivial rfl ?_
                   refine ds_ro' (ro_move (u2 rfl s13_33)) trivial rfl ?_
                   refine ds_ro' (ro_move (up_m rfl (u2 rfl s14_33))) trivial rfl ?_
                   first | (refine ds_ro' (ro_add' (up_m rfl up_h) up_h ?_) trivial rfl ?_; · (unfold In64; omega)) | refine ds_ro' (ro_add (up_m rfl up_h) up_h) trivial rfl ?_
                   first | (refine ds_ro' (ro_sub' up_h ev_c ?_) trivial rfl ?_; · (unfold In64; omega)) | refine ds_ro' (ro_sub up_h ev_c) trivial rfl ?_
                   refine ds_ro' (ro_move (u2 rfl (u4 rfl s14_33))) trivial rfl ?_
                   first | (refine ds_ro' (ro_quo' (up_m rfl up_h) up_h (by first | decide | omega) ?_) trivial rfl ?_; · (unfold In64; omega)) | refine ds_ro' (ro_quo (up_m rfl up_h) up_h (by first | decide | omega)) trivial rfl ?_
                   first | (refine ds_ro' (ro_add' (u2 rfl (u4 rfl up_h)) up_h ?_) trivial rfl ?_; · (unfold In64; omega)) | refine ds_ro' (ro_add (u2 rfl (u4 rfl up_h)) up_h) trivial rfl ?_
                   refine ds_ro' (ro_fld_ptr k26_fl42_1 rfl (up_m rfl (u8 rfl s8_33))) trivial rfl ?_
                   refine ds_nil ?_
                   refine al_stm (st_store up_h (up_m rfl up_h) rfl rfl mo3_32 k26_sz3 rfl (by first | exact Nat.le_of_ble_eq_true rfl | omega | (simp only [lnS] <;> omega) | (simp <;> omega))) trivial rfl (fun m_34 hm_34 => ?_)
                   have mo3_34 := m_set hm_34 mo3_32
                   (try simp only [packA_t, packA_f, iE, bE, setAt, cellsA, Value.cells, map_vc, map_vn, Nat.reduceAdd, qS, pE] at mo3_34)
                   have mon_15_1_1_34 := m_set_o hm_34 mon_15_1_1_32 (by omega)
                   have mon_15_1_34 := m_set_o hm_34 mon_15_1_32 (by omega)
                   have mon_15_34 := m_set_o hm_34 mon_15_32 (by omega)
                   have mo2_34 := m_set_o hm_34 mo2_32 (by decide)
                   have mo1_34 := m_set_o hm_34 mo1_32 (by decide)
                   have mo0_34 := m_set_o hm_34 mo0_32 (by decide)
                   have ml_34 := m_set_l hm_34 ml_32
                   clear hm_34 mo3_32 mon_15_1_1_32 mon_15_1_32 mon_15_32 mo2_32 mo1_32 mo0_32
                   refine al_end (fun e_35 he_35 => ?_)
                   have s1_35 := ef 1 he_35 (up_n (u2 rfl (u8 rfl s1_33)))
                   have s4_35 := ef 4 he_35 (up_n (u2 rfl (u8 rfl s4_33)))
                   have s8_35 := ef 8 he_35 (up_n (u2 rfl (u8 rfl s8_33)))
                   have s32_35 := ef 32 he_35 (up_n (u2 rfl (u8 rfl s32_33)))
                   have s33_35 := ef 33 he_35 (up_n (u2 rfl (u8 rfl s33_33)))
                   have s34_35 := ef 34 he_35 (up_n (u2 rfl (u8 rfl s34_33)))
                   clear he_35 s13_33 s14_33 s1_33 s32_33 s33_33 s34_33 s4_33 s8_33
                   refine block_n ?_
                   refine then_n ?_
                   refine aw_text (by kernel_rfl) ?_
                   first | (refine al_ro' (ro_add' s34_35 ev_c ?_) trivial rfl ?_; · (unfold In64; omega)) | refine al_ro' (ro_add s34_35 ev_c) trivial rfl ?_
                   refine al_ro' (ro_move up_h) trivial rfl ?_
                   refine al_end (fun e_36 he_36 => ?_)
                   have s1_36 := ef 1 he_36 (u2 rfl s1_35)
                   have s4_36 := ef 4 he_36 (u2 rfl s4_35)
                   have s8_36 := ef 8 he_36 (u2 rfl s8_35)
                   have s32_36 := ef 32 he_36 (u2 rfl s32_35)
                   have s33_36 := ef 33 he_36 (u2 rfl s33_35)
                   have s34_36 := ef 34 he_36 up_h
                   clear he_36 s1_35 s32_35 s33_35 s34_35 s4_35 s8_35
                   refine then_n ?_
                   refine ⟨⟨_, _, _⟩, ⟨s34_36, (s1_36.trans s1_14.symm), (s4_36.trans s4_14.symm), (s8_36.trans s8_14.symm), (s32_36.trans s32_14.symm), (s33_36.trans s33_14.symm), mo3_34, (mo2_34.trans mo2_12.symm), (mo1_34.trans mo1_12.symm), (mo0_34.trans mo0_12.symm), ⟨_, ml_34, by omega⟩, ?_⟩, ?_⟩
                   · (refine ⟨by omega, by omega, by omega, ?_⟩; rw [p4, show ps.length - i.toNat = (ps.length - (i + 1).toNat) + 1 by omega]; simp only [timG]; rw [if_neg hnz, hi1])
                   · ((try dsimp only); omega)))
         · (first | replace hq_17 := bnt hq_17 | replace hq_17 := bnf hq_17 | replace hq_17 := bt hq_17 | replace hq_17 := bf hq_17 | replace hq_17 := bt' hq_17 | replace hq_17 := bf' hq_17 | skip)
           first
           | (cases hq_17; done) | (exfalso; omega)
           | (
              refine aw_exit ?_
              refine then_x ?_
              refine then_x ?_
              refine block_hit ?_
              refine then_n ?_
              refine aw_seq ?_
              refine aw_text (by kernel_rfl) ?_
              refine al_ro' (ro_eq (ro_ld_ptr k26_ty42 rfl mo3_15 s8_16 (by first | exact Nat.le_of_ble_eq_true rfl | omega | (simp only [lnS] <;> omega) | (simp <;> omega))) (by first | (simp only [packA_t, packA_f, iE, bE, setAt, cellsA, Value.cells, map_vc, map_vn, Nat.reduceAdd, qS, pE] <;> rfl) | rfl)) trivial rfl ?_
              refine al_stm (st_store (up_m rfl s4_16) up_h rfl rfl mo1_15 k26_sz42 rfl (by first | exact Nat.le_of_ble_eq_true rfl | omega | (simp only [lnS] <;> omega) | (simp <;> omega))) trivial rfl (fun m_37 hm_37 => ?_)
              have mo1_37 := m_set hm_37 mo1_15
              (try simp only [packA_t, packA_f, iE, bE, setAt, cellsA, Value.cells, map_vc, map_vn, Nat.reduceAdd, qS, pE] at mo1_37)
              have mo3_37 := m_set_o hm_37 mo3_15 (by decide)
              have mo2_37 := m_set_o hm_37 mo2_15 (by decide)
              have mo0_37 := m_set_o hm_37 mo0_15 (by decide)
              have ml_37 := m_set_l hm_37 ml_15
              clear hm_37 mo3_15 mo2_15 mo1_15 mo0_15
              refine al_ro' (ro_assign ev_c) trivial rfl ?_
              refine al_end (fun e_38 he_38 => ?_)
              have s4_38 := ef 4 he_38 (up_m rfl (up_n (up_m rfl s4_16)))
              have s5_38 := ef 5 he_38 up_h
              clear he_38 s1_16 s32_16 s33_16 s34_16 s35_16 s4_16 s8_16
              refine then_n ?_
              refine aw_ret ?_
              refine ret2 (.inr rfl) (by kernel_rfl) (resV_cell s4_38 mo1_37 k26_ty42 (by first | exact Nat.le_of_ble_eq_true rfl | omega | (simp only [lnS] <;> omega) | (simp <;> omega)) (by simp)) (resV_tmp s5_38) (vw_r (.ro _ rfl)) (.ro _ rfl) ?_
              clear s4_38 s5_38 mo1_37 mo3_37 mo2_37 mo0_37 ml_37
              (have ht : timW ps xs = ((lo, hi), 0) := (by unfold timW; rw [p4, show ps.length - i.toNat = 0 by omega]; rfl); rw [if_pos hq, if_pos hq, ht]; rfl)))
end
section
variable (nm : ByteArray) (ps : List Piece) (hR : trackR ps) (xs : List Int) (hsq : xs.length = ps.length + 1 ∧ ∀ j : Nat, 0 ≤ xs.getD j default ∧ xs.getD j default ≤ 20000000000)
include hR hsq
end
end Go.Proofs.Ytgiiedpambimoaa
