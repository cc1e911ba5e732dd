/- The law of chapter 5 on where a train may be left: the walk. No conditions on a program. -/
import Derived.Test.YtelgkjekpcfffaaK22
namespace Go.Proofs.Ytelgkjekpcfffaa
open Go Go.RowKit Go.Proofs
set_option linter.unusedSimpArgs false
set_option linter.unusedVariables false
theorem k23_az66 : (Try.prog.info? 66).bind (·.zero) = some (.agg #[.int .i64 0, .int .i64 0, .int .i64 0, .bool false]) := by kernel_rfl
theorem k23_az68 : (Try.prog.info? 68).bind (·.zero) = some (.agg #[.int .i64 0, .int .i64 0]) := by kernel_rfl
theorem k23_bz42 : (Try.prog.info? 42).bind (·.zero) = some (.agg #[.int .i64 0, .int .i64 0]) := by kernel_rfl
theorem k23_bu42 : Try.prog.underlying 42 = some (.struct (fsOf Try.prog 42)) := by kernel_rfl
theorem k23_bp42 : ∀ w, ((fsOf Try.prog 42).mapM fun f => Prod.mk f.offset <$> sizeOf f.type : Sem (Array (Nat × Nat))).run Try.prog w = .ok (#[(0, 1), (1, 1)]) w := fun _ => by kernel_rfl
theorem k23_fl24_1 : FldIs Try.prog 24 1 1 false 1 := by unfold FldIs; kernel_rfl
theorem k23_fl26_0 : FldIs Try.prog 26 0 0 false 1 := by unfold FldIs; kernel_rfl
theorem k23_fl26_2 : FldIs Try.prog 26 2 2 false 1 := by unfold FldIs; kernel_rfl
theorem k23_fl42_0 : FldIs Try.prog 42 0 0 false 1 := by unfold FldIs; kernel_rfl
theorem k23_fl42_1 : FldIs Try.prog 42 1 1 false 1 := by unfold FldIs; kernel_rfl
theorem k23_fl44_0 : FldIs Try.prog 44 0 0 true 2 := by unfold FldIs; kernel_rfl
theorem k23_fl44_1 : FldIs Try.prog 44 1 2 false 1 := by unfold FldIs; kernel_rfl
theorem k23_fl66_0 : FldIs Try.prog 66 0 0 false 1 := by unfold FldIs; kernel_rfl
theorem k23_fl66_1 : FldIs Try.prog 66 1 1 false 1 := by unfold FldIs; kernel_rfl
theorem k23_fl68_0 : FldIs Try.prog 68 0 0 false 1 := by unfold FldIs; kernel_rfl
theorem k23_fl68_1 : FldIs Try.prog 68 1 1 false 1 := by unfold FldIs; kernel_rfl
theorem k23_hcf15 : ∀ args w, (callFunc 15 args).run Try.prog w = .ok (.enter 15 args) w := fun _ _ => by kernel_rfl
theorem k23_hcf16 : ∀ args w, (callFunc 16 args).run Try.prog w = .ok (.enter 16 args) w := fun _ _ => by kernel_rfl
theorem k23_hcf18 : ∀ args w, (callFunc 18 args).run Try.prog w = .ok (.enter 18 args) w := fun _ _ => by kernel_rfl
theorem k23_hcf19 : ∀ args w, (callFunc 19 args).run Try.prog w = .ok (.enter 19 args) w := fun _ _ => by kernel_rfl
theorem k23_hcf20 : ∀ args w, (callFunc 20 args).run Try.prog w = .ok (.enter 20 args) w := fun _ _ => by kernel_rfl
theorem k23_hcf23 : ∀ args w, (callFunc 23 args).run Try.prog w = .ok (.enter 23 args) w := fun _ _ => by kernel_rfl
theorem k23_hcf24 : ∀ args w, (callFunc 24 args).run Try.prog w = .ok (.enter 24 args) w := fun _ _ => by kernel_rfl
theorem k23_hcf25 : ∀ args w, (callFunc 25 args).run Try.prog w = .ok (.enter 25 args) w := fun _ _ => by kernel_rfl
theorem k23_hcf26 : ∀ args w, (callFunc 26 args).run Try.prog w = .ok (.enter 26 args) w := fun _ _ => by kernel_rfl
theorem k23_hcf34 : ∀ args w, (callFunc 34 args).run Try.prog w = .ok (.enter 34 args) w := fun _ _ => by kernel_rfl
theorem k23_hcf35 : ∀ args w, (callFunc 35 args).run Try.prog w = .ok (.enter 35 args) w := fun _ _ => by kernel_rfl
theorem k23_hcf40 : ∀ args w, (callFunc 40 args).run Try.prog w = .ok (.enter 40 args) w := fun _ _ => by kernel_rfl
theorem k23_sl22 : SlIs Try.prog 22 66 4 32 (.agg #[.int .i64 0, .int .i64 0, .int .i64 0, .bool false]) := ⟨by kernel_rfl, by kernel_rfl, by kernel_rfl⟩
theorem k23_sl30 : SlIs Try.prog 30 3 1 8 (.int .i64 0) := ⟨by kernel_rfl, by kernel_rfl, by kernel_rfl⟩
theorem k23_sz66 : (Try.prog.info? 66).map (·.size) = some 4 := by kernel_rfl
theorem k23_sz68 : (Try.prog.info? 68).map (·.size) = some 2 := by kernel_rfl
theorem k23_ty22 : TyIs Try.prog 22 false 1 := ⟨by kernel_rfl, by kernel_rfl⟩
theorem k23_ty24 : TyIs Try.prog 24 true 2 := ⟨by kernel_rfl, by kernel_rfl⟩
theorem k23_ty26 : TyIs Try.prog 26 true 3 := ⟨by kernel_rfl, by kernel_rfl⟩
theorem k23_ty3 : TyIs Try.prog 3 false 1 := ⟨by kernel_rfl, by kernel_rfl⟩
theorem k23_ty42 : TyIs Try.prog 42 true 2 := ⟨by kernel_rfl, by kernel_rfl⟩
theorem k23_ty66 : TyIs Try.prog 66 true 4 := ⟨by kernel_rfl, by kernel_rfl⟩

section
variable {nm : ByteArray} {ps : List Piece} (hs : nm.size ≤ 1000000000) (hp : ps.length ≤ 1000000000)
include hs hp
theorem limitsAt3_ok (hc : (chk nm ps).2 = 0) : FnOk Try.prog 35 [trA nm ps] (fun q => q = .tuple [.row 1 ((liW ps (ps.length + 1)).map iE), iA 0]) :=
  (limitsAt_ok nm ps hs hp).mono fun q h => h.trans (by rw [hc, if_pos rfl])
theorem places3_ok (hc : (chk nm ps).2 = 0) : FnOk Try.prog 34 [trA nm ps] (fun q => q = .tuple [.row 1 ((plW ps ps.length).map iE), iA 0]) :=
  (placesOf_ok nm ps hs hp).mono fun q h => h.trans (by rw [hc, if_pos rfl])
theorem standsAt3_ok {b d v post sq : Int} (hc : stE nm ps b d v post sq = 0) : FnOk Try.prog 40 [trA nm ps, syA b d v, .agg [iA post, iA sq]] (fun q => q = .tuple [.agg [iA (stW ps b post sq).1.1, iA (stW ps b post sq).1.2], iA (stW ps b post sq).2]) :=
  (standsAt_ok nm ps hs hp b d v post sq).mono fun q h => h.trans (by rw [hc, if_pos rfl, if_pos rfl])
end
theorem los_bound2 {ps : List Piece} (hok : Ok ps) (i : Nat) {x : Int} (hx : -3000 ≤ x ∧ x ≤ 3000) : -80000000000 ≤ 2 * (x + 10 * (ps.getD i default).grad) * (ps.getD i default).len ∧ 2 * (x + 10 * (ps.getD i default).grad) * (ps.getD i default).len ≤ 80000000000 := by
  have h := hok.at i
  exact los_bound hx h.1 h.2.1
theorem los_bound3 {ps : List Piece} (hok : Ok ps) (i : Nat) {x : Int} (hx : -3000 ≤ x ∧ x ≤ 3000) : -80000000000 ≤ 2 * (x - 10 * (ps.getD i default).grad) * (ps.getD i default).len ∧ 2 * (x - 10 * (ps.getD i default).grad) * (ps.getD i default).len ≤ 80000000000 := by
  have h := hok.at i
  have := los_bound (dec := -x) (p := ps.getD i default) (by omega) h.1 h.2.1
  unfold losW at this
  rw [show 2 * (-x + 10 * (ps.getD i default).grad) = -(2 * (x - 10 * (ps.getD i default).grad)) by omega, Int.neg_mul] at this
  omega
set_option maxRecDepth 100000 in
set_option maxHeartbeats 4000000 in
theorem brakeWhereLeft_ok (nm : ByteArray) (ps : List Piece) (b d v : Int) (post sq stop : Int) : FnOk Try.prog 9 [trA nm ps, syA b d v, .agg [iA post, iA sq, iA stop]] (fun q => q = bA true) := by
  refine fnOk_of (fn := Try.f9) 286 (by kernel_rfl) rfl (by kernel_rfl) (Nat.le_of_ble_eq_true rfl) ?_
  intro e_0 m_0 hA hm_0
  have s0_0 : evA e_0 (.tmp 0) = _ := hA 0 _ rfl
  have s1_0 : evA e_0 (.tmp 1) = _ := hA 1 _ rfl
  have s2_0 : evA e_0 (.tmp 2) = _ := hA 2 _ rfl
  have ml_0 : m_0.length = 0 := by rw [hm_0]; rfl
  clear hA hm_0
  refine aw_seq ?_
  refine aw_text ?_
  refine al_stm (st_box s0_0 rfl ml_0) trivial rfl (fun m_1 hm_1 => ?_)
  have mo0_1 := m_push hm_1 ml_0
  (try simp only [packA_t, packA_f, iE, bE, setAt, cellsA, Value.cells, map_vc, map_vn, Nat.reduceAdd, qS] at mo0_1)
  have ml_1 := m_push_l hm_1 ml_0
  have ml_1 : _ = 1 := ml_1
  clear hm_1
  refine al_stm (st_box (up_m rfl s1_0) rfl ml_1) trivial rfl (fun m_2 hm_2 => ?_)
  have mo1_2 := m_push hm_2 ml_1
  (try simp only [packA_t, packA_f, iE, bE, setAt, cellsA, Value.cells, map_vc, map_vn, Nat.reduceAdd, qS] at mo1_2)
  have mo0_2 := m_push_o hm_2 mo0_1
  have ml_2 := m_push_l hm_2 ml_1
  have ml_2 : _ = 2 := ml_2
  clear hm_2 mo0_1
  refine al_stm (st_box (u2 rfl s2_0) rfl ml_2) trivial rfl (fun m_3 hm_3 => ?_)
  have mo2_3 := m_push hm_3 ml_2
  (try simp only [packA_t, packA_f, iE, bE, setAt, cellsA, Value.cells, map_vc, map_vn, Nat.reduceAdd, qS] at mo2_3)
  have mo1_3 := m_push_o hm_3 mo1_2
  have mo0_3 := m_push_o hm_3 mo0_2
  have ml_3 := m_push_l hm_3 ml_2
  have ml_3 : _ = 3 := ml_3
  clear hm_3 mo1_2 mo0_2
  refine al_ro' (ro_assign ev_c) trivial rfl ?_
  refine al_end (fun e_4 he_4 => ?_)
  have s3_4 := ef 3 he_4 (up_m rfl (u2 rfl up_h))
  have s4_4 := ef 4 he_4 (u2 rfl up_h)
  have s5_4 := ef 5 he_4 (up_m rfl up_h)
  clear he_4 s0_0 s1_0 s2_0
  refine then_n ?_
  refine aw_seq ?_
  refine aw_seq ?_
  refine aw_text ?_
  refine al_ro' (ro_call evL_nil rfl (awake_ok) k23_hcf15) trivial rfl ?_
  refine al_ro' (ro_not up_h) trivial rfl ?_
  refine al_end (fun e_5 he_5 => ?_)
  have s3_5 := ef 3 he_5 (u2 rfl s3_4)
  have s4_5 := ef 4 he_5 (u2 rfl s4_4)
  have s5_5 := ef 5 he_5 (u2 rfl s5_4)
  have s21_5 := ef 21 he_5 up_h
  clear he_5 s3_4 s4_4 s5_4
  refine then_n ?_
  refine aw_case s21_5 (fun hq_6 => ?_) (fun hq_6 => ?_)
  · skip
    first
    | (cases hq_6; done) | ((first | replace hq_6 := bnt hq_6 | replace hq_6 := bnf hq_6 | replace hq_6 := bt hq_6 | replace hq_6 := bf hq_6 | replace hq_6 := bt' hq_6 | replace hq_6 := bf' hq_6 | skip); exfalso; omega) | (first | (simp [hw] at hq_6; done) | (rw [hw2] at hq_6; simp at hq_6; done))
    | ((first | replace hq_6 := bnt hq_6 | replace hq_6 := bnf hq_6 | replace hq_6 := bt hq_6 | replace hq_6 := bf hq_6 | replace hq_6 := bt' hq_6 | replace hq_6 := bf' hq_6 | skip)
       refine aw_seq ?_
       refine aw_text ?_
       refine al_ro' (ro_assign ev_c) trivial rfl ?_
       refine al_end (fun e_7 he_7 => ?_)
       have s6_7 := ef 6 he_7 up_h
       clear he_7 s21_5 s3_5 s4_5 s5_5
       refine then_n ?_
       refine aw_ret ?_
       refine then_r ?_
       refine ret1 (.inr rfl) (by kernel_rfl) (resV_tmp s6_7) (.ro _ rfl) ?_
       clear s6_7 mo2_3 mo1_3 mo0_3 ml_3
       first | rfl | (simp; done) | (simp_all; done) | omega)
  · skip
    first
    | (cases hq_6; done) | ((first | replace hq_6 := bnt hq_6 | replace hq_6 := bnf hq_6 | replace hq_6 := bt hq_6 | replace hq_6 := bf hq_6 | replace hq_6 := bt' hq_6 | replace hq_6 := bf' hq_6 | skip); exfalso; omega) | (first | (simp [hw] at hq_6; done) | (rw [hw2] at hq_6; simp at hq_6; done))
    | ((first | replace hq_6 := bnt hq_6 | replace hq_6 := bnf hq_6 | replace hq_6 := bt hq_6 | replace hq_6 := bf hq_6 | replace hq_6 := bt' hq_6 | replace hq_6 := bf' hq_6 | skip)
       refine aw_skip ?_
       refine then_n ?_
       refine aw_seq ?_
       refine aw_seq ?_
       refine aw_cut (fun e mem => (evA e (.tmp 52) = .v (.bool (decide (¬ (nm.size ≤ 30 ∧ ps.length ≤ 14) ∨ firstE [(chk nm ps).2, sysE b d v] ≠ 0 ∨ stateE ps post sq ≠ 0 ∨ stopE ps stop ≠ 0 ∨ stop < post)))) ∧ (evA e (.tmp 3) = evA e_5 (.tmp 3)) ∧ (evA e (.tmp 4) = evA e_5 (.tmp 4)) ∧ (evA e (.tmp 5) = evA e_5 (.tmp 5)) ∧ m_3 = mem) ?_ ?_
       ·
         refine aw_text ?_
         refine al_ro' (ro_eq (ro_ld_ptr k23_ty24 rfl mo0_3 s3_5 (by first | exact Nat.le_of_ble_eq_true rfl | omega | (simp only [lnS] <;> omega) | (simp <;> omega))) (by first | (simp only [packA_t, packA_f, iE, bE, setAt, cellsA, Value.cells, map_vc, map_vn, Nat.reduceAdd, qS] <;> rfl) | rfl)) trivial rfl ?_
         refine al_ro' (ro_call (evL_cons up_h evL_nil) rfl (short_ok nm ps) k23_hcf16) trivial rfl ?_
         refine al_ro' (ro_not up_h) trivial rfl ?_
         refine al_ro' (ro_move up_h) trivial rfl ?_
         refine al_case up_h (fun hb_9 hq_9 => ?_) (fun hb_9 hq_9 => ?_)
         · skip
           first
           | (cases hq_9; done) | ((first | replace hq_9 := bnt hq_9 | replace hq_9 := bnf hq_9 | replace hq_9 := bt hq_9 | replace hq_9 := bf hq_9 | replace hq_9 := bt' hq_9 | replace hq_9 := bf' hq_9 | skip); exfalso; omega) | (first | (simp [hw] at hq_9; done) | (rw [hw2] at hq_9; simp at hq_9; done))
           | ((first | replace hq_9 := bnt hq_9 | replace hq_9 := bnf hq_9 | replace hq_9 := bt hq_9 | replace hq_9 := bf hq_9 | replace hq_9 := bt' hq_9 | replace hq_9 := bf' hq_9 | skip)
              refine al_skip' ⟨_, rfl, .inl hb_9⟩ rfl ?_
              refine al_skip' ⟨_, rfl, .inl (up_m rfl hb_9)⟩ rfl ?_
              refine al_skip' ⟨_, rfl, .inl (u2 rfl hb_9)⟩ rfl ?_
              refine al_skip' ⟨_, rfl, .inl (up_m rfl (u2 rfl hb_9))⟩ rfl ?_
              refine al_ro' (ro_pickT (u4 rfl hb_9) ev_c) trivial rfl ?_
              refine al_ro' (ro_move up_h) trivial rfl ?_
              refine al_skip' ⟨_, rfl, .inl up_h⟩ rfl ?_
              refine al_skip' ⟨_, rfl, .inl (up_m rfl up_h)⟩ rfl ?_
              refine al_skip' ⟨_, rfl, .inl (u2 rfl up_h)⟩ rfl ?_
              refine al_skip' ⟨_, rfl, .inl (up_m rfl (u2 rfl up_h))⟩ rfl ?_
              refine al_skip' ⟨_, rfl, .inl (u4 rfl up_h)⟩ rfl ?_
              refine al_ro' (ro_pickT (up_m rfl (u4 rfl up_h)) ev_c) trivial rfl ?_
              refine al_ro' (ro_move up_h) trivial rfl ?_
              refine al_skip' ⟨_, rfl, .inl up_h⟩ rfl ?_
              refine al_skip' ⟨_, rfl, .inl (up_m rfl up_h)⟩ rfl ?_
              refine al_skip' ⟨_, rfl, .inl (u2 rfl up_h)⟩ rfl ?_
              refine al_skip' ⟨_, rfl, .inl (up_m rfl (u2 rfl up_h))⟩ rfl ?_
              refine al_skip' ⟨_, rfl, .inl (u4 rfl up_h)⟩ rfl ?_
              refine al_ro' (ro_pickT (up_m rfl (u4 rfl up_h)) ev_c) trivial rfl ?_
              refine al_ro' (ro_move up_h) trivial rfl ?_
              refine al_skip' ⟨_, rfl, .inl up_h⟩ rfl ?_
              refine al_skip' ⟨_, rfl, .inl (up_m rfl up_h)⟩ rfl ?_
              refine al_skip' ⟨_, rfl, .inl (u2 rfl up_h)⟩ rfl ?_
              refine al_skip' ⟨_, rfl, .inl (up_m rfl (u2 rfl up_h))⟩ rfl ?_
              refine al_skip' ⟨_, rfl, .inl (u4 rfl up_h)⟩ rfl ?_
              refine al_skip' ⟨_, rfl, .inl (up_m rfl (u4 rfl up_h))⟩ rfl ?_
              refine al_ro' (ro_pickT (u2 rfl (u4 rfl up_h)) ev_c) trivial rfl ?_
              refine al_end (fun e_10 he_10 => ?_)
              have s3_10 := ef 3 he_10 (up_m rfl (u2 rfl (u4 rfl (u8 rfl (u16 rfl s3_5)))))
              have s4_10 := ef 4 he_10 (up_m rfl (u2 rfl (u4 rfl (u8 rfl (u16 rfl s4_5)))))
              have s5_10 := ef 5 he_10 (up_m rfl (u2 rfl (u4 rfl (u8 rfl (u16 rfl s5_5)))))
              have s52_10 := ef 52 he_10 up_h
              clear he_10
              refine then_n ⟨(s52_10).trans (by (refine avb ?_; simp only [decide_eq_true_eq, Bool.false_eq_true, true_iff, false_iff]; omega)), (s3_10).trans (s3_5).symm, (s4_10).trans (s4_5).symm, (s5_10).trans (s5_5).symm, rfl⟩)
         · skip
           first
           | (cases hq_9; done) | ((first | replace hq_9 := bnt hq_9 | replace hq_9 := bnf hq_9 | replace hq_9 := bt hq_9 | replace hq_9 := bf hq_9 | replace hq_9 := bt' hq_9 | replace hq_9 := bf' hq_9 | skip); exfalso; omega) | (first | (simp [hw] at hq_9; done) | (rw [hw2] at hq_9; simp at hq_9; done))
           | ((first | replace hq_9 := bnt hq_9 | replace hq_9 := bnf hq_9 | replace hq_9 := bt hq_9 | replace hq_9 := bf hq_9 | replace hq_9 := bt' hq_9 | replace hq_9 := bf' hq_9 | skip)
              refine al_ro' (ro_eq (ro_ld_ptr k23_ty24 rfl mo0_3 (u4 rfl s3_5) (by first | exact Nat.le_of_ble_eq_true rfl | omega | (simp only [lnS] <;> omega) | (simp <;> omega))) (by first | (simp only [packA_t, packA_f, iE, bE, setAt, cellsA, Value.cells, map_vc, map_vn, Nat.reduceAdd, qS] <;> rfl) | rfl)) ⟨_, rfl, hb_9⟩ rfl ?_
              refine al_ro' (ro_eq (ro_ld_ptr k23_ty26 rfl mo1_3 (up_m rfl (u4 rfl s4_5)) (by first | exact Nat.le_of_ble_eq_true rfl | omega | (simp only [lnS] <;> omega) | (simp <;> omega))) (by first | (simp only [packA_t, packA_f, iE, bE, setAt, cellsA, Value.cells, map_vc, map_vn, Nat.reduceAdd, qS] <;> rfl) | rfl)) ⟨_, rfl, (up_m rfl hb_9)⟩ rfl ?_
              refine al_ro' (ro_call (evL_cons (up_m rfl up_h) (evL_cons up_h evL_nil)) rfl (rBothErr_ok nm ps (by omega) (by omega) b d v) k23_hcf19) ⟨_, rfl, (u2 rfl hb_9)⟩ rfl ?_
              refine al_ro' (ro_neq up_h ev_c) ⟨_, rfl, (up_m rfl (u2 rfl hb_9))⟩ rfl ?_
              refine al_ro' (ro_pickF (u4 rfl hb_9) up_h) trivial rfl ?_
              refine al_ro' (ro_move up_h) trivial rfl ?_
              refine al_case up_h (fun hb_11 hq_11 => ?_) (fun hb_11 hq_11 => ?_)
              · skip
                first
                | (cases hq_11; done) | ((first | replace hq_11 := bnt hq_11 | replace hq_11 := bnf hq_11 | replace hq_11 := bt hq_11 | replace hq_11 := bf hq_11 | replace hq_11 := bt' hq_11 | replace hq_11 := bf' hq_11 | skip); exfalso; omega) | (first | (simp [hw] at hq_11; done) | (rw [hw2] at hq_11; simp at hq_11; done))
                | ((first | replace hq_11 := bnt hq_11 | replace hq_11 := bnf hq_11 | replace hq_11 := bt hq_11 | replace hq_11 := bf hq_11 | replace hq_11 := bt' hq_11 | replace hq_11 := bf' hq_11 | skip)
                   refine al_skip' ⟨_, rfl, .inl hb_11⟩ rfl ?_
                   refine al_skip' ⟨_, rfl, .inl (up_m rfl hb_11)⟩ rfl ?_
                   refine al_skip' ⟨_, rfl, .inl (u2 rfl hb_11)⟩ rfl ?_
                   refine al_skip' ⟨_, rfl, .inl (up_m rfl (u2 rfl hb_11))⟩ rfl ?_
                   refine al_skip' ⟨_, rfl, .inl (u4 rfl hb_11)⟩ rfl ?_
                   refine al_ro' (ro_pickT (up_m rfl (u4 rfl hb_11)) ev_c) trivial rfl ?_
                   refine al_ro' (ro_move up_h) trivial rfl ?_
                   refine al_skip' ⟨_, rfl, .inl up_h⟩ rfl ?_
                   refine al_skip' ⟨_, rfl, .inl (up_m rfl up_h)⟩ rfl ?_
                   refine al_skip' ⟨_, rfl, .inl (u2 rfl up_h)⟩ rfl ?_
                   refine al_skip' ⟨_, rfl, .inl (up_m rfl (u2 rfl up_h))⟩ rfl ?_
                   refine al_skip' ⟨_, rfl, .inl (u4 rfl up_h)⟩ rfl ?_
                   refine al_ro' (ro_pickT (up_m rfl (u4 rfl up_h)) ev_c) trivial rfl ?_
                   refine al_ro' (ro_move up_h) trivial rfl ?_
                   refine al_skip' ⟨_, rfl, .inl up_h⟩ rfl ?_
                   refine al_skip' ⟨_, rfl, .inl (up_m rfl up_h)⟩ rfl ?_
                   refine al_skip' ⟨_, rfl, .inl (u2 rfl up_h)⟩ rfl ?_
                   refine al_skip' ⟨_, rfl, .inl (up_m rfl (u2 rfl up_h))⟩ rfl ?_
                   refine al_skip' ⟨_, rfl, .inl (u4 rfl up_h)⟩ rfl ?_
                   refine al_skip' ⟨_, rfl, .inl (up_m rfl (u4 rfl up_h))⟩ rfl ?_
                   refine al_ro' (ro_pickT (u2 rfl (u4 rfl up_h)) ev_c) trivial rfl ?_
                   refine al_end (fun e_12 he_12 => ?_)
                   have s3_12 := ef 3 he_12 (up_m rfl (u2 rfl (u4 rfl (u8 rfl (u16 rfl s3_5)))))
                   have s4_12 := ef 4 he_12 (up_m rfl (u2 rfl (u4 rfl (u8 rfl (u16 rfl s4_5)))))
                   have s5_12 := ef 5 he_12 (up_m rfl (u2 rfl (u4 rfl (u8 rfl (u16 rfl s5_5)))))
                   have s52_12 := ef 52 he_12 up_h
                   clear he_12
                   refine then_n ⟨(s52_12).trans (by (refine avb ?_; simp only [decide_eq_true_eq, Bool.false_eq_true, true_iff, false_iff]; omega)), (s3_12).trans (s3_5).symm, (s4_12).trans (s4_5).symm, (s5_12).trans (s5_5).symm, rfl⟩)
              · skip
                first
                | (cases hq_11; done) | ((first | replace hq_11 := bnt hq_11 | replace hq_11 := bnf hq_11 | replace hq_11 := bt hq_11 | replace hq_11 := bf hq_11 | replace hq_11 := bt' hq_11 | replace hq_11 := bf' hq_11 | skip); exfalso; omega) | (first | (simp [hw] at hq_11; done) | (rw [hw2] at hq_11; simp at hq_11; done))
                | ((first | replace hq_11 := bnt hq_11 | replace hq_11 := bnf hq_11 | replace hq_11 := bt hq_11 | replace hq_11 := bf hq_11 | replace hq_11 := bt' hq_11 | replace hq_11 := bf' hq_11 | skip)
                   refine al_ro' (ro_eq (ro_ld_ptr k23_ty24 rfl mo0_3 (u2 rfl (u8 rfl s3_5)) (by first | exact Nat.le_of_ble_eq_true rfl | omega | (simp only [lnS] <;> omega) | (simp <;> omega))) (by first | (simp only [packA_t, packA_f, iE, bE, setAt, cellsA, Value.cells, map_vc, map_vn, Nat.reduceAdd, qS] <;> rfl) | rfl)) ⟨_, rfl, hb_11⟩ rfl ?_
                   refine al_ro' (ro_fld_ptr k23_fl44_0 rfl (up_m rfl (u2 rfl (u8 rfl s5_5)))) ⟨_, rfl, (up_m rfl hb_11)⟩ rfl ?_
                   refine al_ro' (ro_eq (ro_ld_ptr k23_ty42 rfl mo2_3 up_h (by first | exact Nat.le_of_ble_eq_true rfl | omega | (simp only [lnS] <;> omega) | (simp <;> omega))) (by first | (simp only [packA_t, packA_f, iE, bE, setAt, cellsA, Value.cells, map_vc, map_vn, Nat.reduceAdd, qS] <;> rfl) | rfl)) ⟨_, rfl, (u2 rfl hb_11)⟩ rfl ?_
                   refine al_ro' (ro_call (evL_cons (u2 rfl up_h) (evL_cons up_h evL_nil)) rfl (rStateErr_ok nm ps post sq) k23_hcf25) ⟨_, rfl, (up_m rfl (u2 rfl hb_11))⟩ rfl ?_
                   refine al_ro' (ro_neq up_h ev_c) ⟨_, rfl, (u4 rfl hb_11)⟩ rfl ?_
                   refine al_ro' (ro_pickF (up_m rfl (u4 rfl hb_11)) up_h) trivial rfl ?_
                   refine al_ro' (ro_move up_h) trivial rfl ?_
                   refine al_case up_h (fun hb_13 hq_13 => ?_) (fun hb_13 hq_13 => ?_)
                   · skip
                     first
                     | (cases hq_13; done) | ((first | replace hq_13 := bnt hq_13 | replace hq_13 := bnf hq_13 | replace hq_13 := bt hq_13 | replace hq_13 := bf hq_13 | replace hq_13 := bt' hq_13 | replace hq_13 := bf' hq_13 | skip); exfalso; omega) | (first | (simp [hw] at hq_13; done) | (rw [hw2] at hq_13; simp at hq_13; done))
                     | ((first | replace hq_13 := bnt hq_13 | replace hq_13 := bnf hq_13 | replace hq_13 := bt hq_13 | replace hq_13 := bf hq_13 | replace hq_13 := bt' hq_13 | replace hq_13 := bf' hq_13 | skip)
                        refine al_skip' ⟨_, rfl, .inl hb_13⟩ rfl ?_
                        refine al_skip' ⟨_, rfl, .inl (up_m rfl hb_13)⟩ rfl ?_
                        refine al_skip' ⟨_, rfl, .inl (u2 rfl hb_13)⟩ rfl ?_
                        refine al_skip' ⟨_, rfl, .inl (up_m rfl (u2 rfl hb_13))⟩ rfl ?_
                        refine al_skip' ⟨_, rfl, .inl (u4 rfl hb_13)⟩ rfl ?_
                        refine al_ro' (ro_pickT (up_m rfl (u4 rfl hb_13)) ev_c) trivial rfl ?_
                        refine al_ro' (ro_move up_h) trivial rfl ?_
                        refine al_skip' ⟨_, rfl, .inl up_h⟩ rfl ?_
                        refine al_skip' ⟨_, rfl, .inl (up_m rfl up_h)⟩ rfl ?_
                        refine al_skip' ⟨_, rfl, .inl (u2 rfl up_h)⟩ rfl ?_
                        refine al_skip' ⟨_, rfl, .inl (up_m rfl (u2 rfl up_h))⟩ rfl ?_
                        refine al_skip' ⟨_, rfl, .inl (u4 rfl up_h)⟩ rfl ?_
                        refine al_skip' ⟨_, rfl, .inl (up_m rfl (u4 rfl up_h))⟩ rfl ?_
                        refine al_ro' (ro_pickT (u2 rfl (u4 rfl up_h)) ev_c) trivial rfl ?_
                        refine al_end (fun e_14 he_14 => ?_)
                        have s3_14 := ef 3 he_14 (up_m rfl (u2 rfl (u4 rfl (u8 rfl (u16 rfl s3_5)))))
                        have s4_14 := ef 4 he_14 (up_m rfl (u2 rfl (u4 rfl (u8 rfl (u16 rfl s4_5)))))
                        have s5_14 := ef 5 he_14 (up_m rfl (u2 rfl (u4 rfl (u8 rfl (u16 rfl s5_5)))))
                        have s52_14 := ef 52 he_14 up_h
                        clear he_14
                        refine then_n ⟨(s52_14).trans (by (refine avb ?_; simp only [decide_eq_true_eq, Bool.false_eq_true, true_iff, false_iff]; omega)), (s3_14).trans (s3_5).symm, (s4_14).trans (s4_5).symm, (s5_14).trans (s5_5).symm, rfl⟩)
                   · skip
                     first
                     | (cases hq_13; done) | ((first | replace hq_13 := bnt hq_13 | replace hq_13 := bnf hq_13 | replace hq_13 := bt hq_13 | replace hq_13 := bf hq_13 | replace hq_13 := bt' hq_13 | replace hq_13 := bf' hq_13 | skip); exfalso; omega) | (first | (simp [hw] at hq_13; done) | (rw [hw2] at hq_13; simp at hq_13; done))
                     | ((first | replace hq_13 := bnt hq_13 | replace hq_13 := bnf hq_13 | replace hq_13 := bt hq_13 | replace hq_13 := bf hq_13 | replace hq_13 := bt' hq_13 | replace hq_13 := bf' hq_13 | skip)
                        refine al_ro' (ro_eq (ro_ld_ptr k23_ty24 rfl mo0_3 (up_m rfl (u16 rfl s3_5)) (by first | exact Nat.le_of_ble_eq_true rfl | omega | (simp only [lnS] <;> omega) | (simp <;> omega))) (by first | (simp only [packA_t, packA_f, iE, bE, setAt, cellsA, Value.cells, map_vc, map_vn, Nat.reduceAdd, qS] <;> rfl) | rfl)) ⟨_, rfl, hb_13⟩ rfl ?_
                        refine al_ro' (ro_fld_ptr k23_fl44_1 rfl (u2 rfl (u16 rfl s5_5))) ⟨_, rfl, (up_m rfl hb_13)⟩ rfl ?_
                        refine al_ro' (ro_eq (ro_ld_ptr k23_ty3 rfl mo2_3 up_h (by first | exact Nat.le_of_ble_eq_true rfl | omega | (simp only [lnS] <;> omega) | (simp <;> omega))) (by first | (simp only [packA_t, packA_f, iE, bE, setAt, cellsA, Value.cells, map_vc, map_vn, Nat.reduceAdd, qS] <;> rfl) | rfl)) ⟨_, rfl, (u2 rfl hb_13)⟩ rfl ?_
                        refine al_ro' (ro_call (evL_cons (u2 rfl up_h) (evL_cons up_h evL_nil)) rfl (rStopErr_ok nm ps (by omega) stop) k23_hcf26) ⟨_, rfl, (up_m rfl (u2 rfl hb_13))⟩ rfl ?_
                        refine al_ro' (ro_neq up_h ev_c) ⟨_, rfl, (u4 rfl hb_13)⟩ rfl ?_
                        refine al_ro' (ro_pickF (up_m rfl (u4 rfl hb_13)) up_h) trivial rfl ?_
                        refine al_ro' (ro_move up_h) trivial rfl ?_
                        refine al_case up_h (fun hb_15 hq_15 => ?_) (fun hb_15 hq_15 => ?_)
                        · skip
                          first
                          | (cases hq_15; done) | ((first | replace hq_15 := bnt hq_15 | replace hq_15 := bnf hq_15 | replace hq_15 := bt hq_15 | replace hq_15 := bf hq_15 | replace hq_15 := bt' hq_15 | replace hq_15 := bf' hq_15 | skip); exfalso; omega) | (first | (simp [hw] at hq_15; done) | (rw [hw2] at hq_15; simp at hq_15; done))
                          | ((first | replace hq_15 := bnt hq_15 | replace hq_15 := bnf hq_15 | replace hq_15 := bt hq_15 | replace hq_15 := bf hq_15 | replace hq_15 := bt' hq_15 | replace hq_15 := bf' hq_15 | skip)
                             refine al_skip' ⟨_, rfl, .inl hb_15⟩ rfl ?_
                             refine al_skip' ⟨_, rfl, .inl (up_m rfl hb_15)⟩ rfl ?_
                             refine al_skip' ⟨_, rfl, .inl (u2 rfl hb_15)⟩ rfl ?_
                             refine al_skip' ⟨_, rfl, .inl (up_m rfl (u2 rfl hb_15))⟩ rfl ?_
                             refine al_skip' ⟨_, rfl, .inl (u4 rfl hb_15)⟩ rfl ?_
                             refine al_skip' ⟨_, rfl, .inl (up_m rfl (u4 rfl hb_15))⟩ rfl ?_
                             refine al_ro' (ro_pickT (u2 rfl (u4 rfl hb_15)) ev_c) trivial rfl ?_
                             refine al_end (fun e_16 he_16 => ?_)
                             have s3_16 := ef 3 he_16 (up_m rfl (u2 rfl (u4 rfl (u8 rfl (u16 rfl s3_5)))))
                             have s4_16 := ef 4 he_16 (up_m rfl (u2 rfl (u4 rfl (u8 rfl (u16 rfl s4_5)))))
                             have s5_16 := ef 5 he_16 (up_m rfl (u2 rfl (u4 rfl (u8 rfl (u16 rfl s5_5)))))
                             have s52_16 := ef 52 he_16 up_h
                             clear he_16
                             refine then_n ⟨(s52_16).trans (by (refine avb ?_; simp only [decide_eq_true_eq, Bool.false_eq_true, true_iff, false_iff]; omega)), (s3_16).trans (s3_5).symm, (s4_16).trans (s4_5).symm, (s5_16).trans (s5_5).symm, rfl⟩)
                        · skip
                          first
                          | (cases hq_15; done) | ((first | replace hq_15 := bnt hq_15 | replace hq_15 := bnf hq_15 | replace hq_15 := bt hq_15 | replace hq_15 := bf hq_15 | replace hq_15 := bt' hq_15 | replace hq_15 := bf' hq_15 | skip); exfalso; omega) | (first | (simp [hw] at hq_15; done) | (rw [hw2] at hq_15; simp at hq_15; done))
                          | ((first | replace hq_15 := bnt hq_15 | replace hq_15 := bnf hq_15 | replace hq_15 := bt hq_15 | replace hq_15 := bf hq_15 | replace hq_15 := bt' hq_15 | replace hq_15 := bf' hq_15 | skip)
                             refine al_ro' (ro_fld_ptr k23_fl44_0 rfl (u8 rfl (u16 rfl s5_5))) ⟨_, rfl, hb_15⟩ rfl ?_
                             refine al_ro' (ro_fld_ptr k23_fl42_0 rfl up_h) ⟨_, rfl, (up_m rfl hb_15)⟩ rfl ?_
                             refine al_ro' (ro_eq (ro_ld_ptr k23_ty3 rfl mo2_3 up_h (by first | exact Nat.le_of_ble_eq_true rfl | omega | (simp only [lnS] <;> omega) | (simp <;> omega))) (by first | (simp only [packA_t, packA_f, iE, bE, setAt, cellsA, Value.cells, map_vc, map_vn, Nat.reduceAdd, qS] <;> rfl) | rfl)) ⟨_, rfl, (u2 rfl hb_15)⟩ rfl ?_
                             refine al_ro' (ro_fld_ptr k23_fl44_1 rfl (up_m rfl (u2 rfl (u8 rfl (u16 rfl s5_5))))) ⟨_, rfl, (up_m rfl (u2 rfl hb_15))⟩ rfl ?_
                             refine al_ro' (ro_eq (ro_ld_ptr k23_ty3 rfl mo2_3 up_h (by first | exact Nat.le_of_ble_eq_true rfl | omega | (simp only [lnS] <;> omega) | (simp <;> omega))) (by first | (simp only [packA_t, packA_f, iE, bE, setAt, cellsA, Value.cells, map_vc, map_vn, Nat.reduceAdd, qS] <;> rfl) | rfl)) ⟨_, rfl, (u4 rfl hb_15)⟩ rfl ?_
                             refine al_ro' (ro_gtr (u2 rfl up_h) up_h) ⟨_, rfl, (up_m rfl (u4 rfl hb_15))⟩ rfl ?_
                             refine al_ro' (ro_pickF (u2 rfl (u4 rfl hb_15)) up_h) trivial rfl ?_
                             refine al_end (fun e_17 he_17 => ?_)
                             have s3_17 := ef 3 he_17 (up_m rfl (u2 rfl (u4 rfl (u8 rfl (u16 rfl s3_5)))))
                             have s4_17 := ef 4 he_17 (up_m rfl (u2 rfl (u4 rfl (u8 rfl (u16 rfl s4_5)))))
                             have s5_17 := ef 5 he_17 (up_m rfl (u2 rfl (u4 rfl (u8 rfl (u16 rfl s5_5)))))
                             have s52_17 := ef 52 he_17 up_h
                             clear he_17
                             refine then_n ⟨(s52_17).trans (by (refine avb ?_; simp only [decide_eq_true_eq, Bool.false_eq_true, true_iff, false_iff]; omega)), (s3_17).trans (s3_5).symm, (s4_17).trans (s4_5).symm, (s5_17).trans (s5_5).symm, rfl⟩))))
       · rintro e_8 _ ⟨s52_8, k3_8, k4_8, k5_8, rfl⟩
         have s3_8 := k3_8.trans s3_5
         have s4_8 := k4_8.trans s4_5
         have s5_8 := k5_8.trans s5_5
         refine aw_case s52_8 (fun hq_18 => ?_) (fun hq_18 => ?_)
         · skip
           first
           | (cases hq_18; done) | ((first | replace hq_18 := bnt hq_18 | replace hq_18 := bnf hq_18 | replace hq_18 := bt hq_18 | replace hq_18 := bf hq_18 | replace hq_18 := bt' hq_18 | replace hq_18 := bf' hq_18 | skip); exfalso; omega) | (first | (simp [hw] at hq_18; done) | (rw [hw2] at hq_18; simp at hq_18; done))
           | ((first | replace hq_18 := bnt hq_18 | replace hq_18 := bnf hq_18 | replace hq_18 := bt hq_18 | replace hq_18 := bf hq_18 | replace hq_18 := bt' hq_18 | replace hq_18 := bf' hq_18 | skip)
              refine aw_seq ?_
              refine aw_text ?_
              refine al_ro' (ro_assign ev_c) trivial rfl ?_
              refine al_end (fun e_19 he_19 => ?_)
              have s6_19 := ef 6 he_19 up_h
              clear he_19 s3_8 s4_8 s52_8 s5_8
              refine then_n ?_
              refine aw_ret ?_
              refine then_r ?_
              refine ret1 (.inr rfl) (by kernel_rfl) (resV_tmp s6_19) (.ro _ rfl) ?_
              clear s6_19 mo2_3 mo1_3 mo0_3 ml_3
              first | rfl | (simp; done) | (simp_all; done) | omega)
         · skip
           first
           | (cases hq_18; done) | ((first | replace hq_18 := bnt hq_18 | replace hq_18 := bnf hq_18 | replace hq_18 := bt hq_18 | replace hq_18 := bf hq_18 | replace hq_18 := bt' hq_18 | replace hq_18 := bf' hq_18 | skip); exfalso; omega) | (first | (simp [hw] at hq_18; done) | (rw [hw2] at hq_18; simp at hq_18; done))
           | ((first | replace hq_18 := bnt hq_18 | replace hq_18 := bnf hq_18 | replace hq_18 := bt hq_18 | replace hq_18 := bf hq_18 | replace hq_18 := bt' hq_18 | replace hq_18 := bf' hq_18 | skip)
              (have hsh : nm.size ≤ 30 ∧ ps.length ≤ 14 := (by omega); have hs : nm.size ≤ 1000000000 := (by omega); have hp : ps.length ≤ 1000000000 := (by omega); have hle : post ≤ stop := (by omega); have hR := runE_zero (b := b) (d := d) (v := v) (nm := nm) (ps := ps) (post := post) (sq := sq) (stop := stop) (by omega) (by omega) (by omega) hle; have hr := runE_right hR.1; have hr3 := hr.2.2.1; have hr4 := hr.2.2.2.1; have hr5 := hr.2.2.2.2.1; have hsys := hr.2.1; obtain ⟨y1, y2, y3, y4⟩ := hsys; have hok := hr.1.1; have h3 := runW_three ps b d stop post sq)
              refine aw_skip ?_
              refine then_n ?_
              refine aw_seq ?_
              refine aw_draw 13 (by kernel_rfl) (by kernel_rfl) (by kernel_rfl) ?_
              refine ds_ro' (ro_eq (ro_ld_ptr k23_ty24 rfl mo0_3 s3_8 (by first | exact Nat.le_of_ble_eq_true rfl | omega | (simp only [lnS] <;> omega) | (simp <;> omega))) (by first | (simp only [packA_t, packA_f, iE, bE, setAt, cellsA, Value.cells, map_vc, map_vn, Nat.reduceAdd, qS] <;> rfl) | rfl)) trivial rfl ?_
              refine ds_ro' (ro_call (evL_cons up_h evL_nil) rfl (rCopy_ok nm ps (by omega)) k23_hcf18) trivial rfl ?_
              refine ds_ro' (ro_eq (ro_ld_ptr k23_ty26 rfl mo1_3 (u2 rfl s4_8) (by first | exact Nat.le_of_ble_eq_true rfl | omega | (simp only [lnS] <;> omega) | (simp <;> omega))) (by first | (simp only [packA_t, packA_f, iE, bE, setAt, cellsA, Value.cells, map_vc, map_vn, Nat.reduceAdd, qS] <;> rfl) | rfl)) trivial rfl ?_
              refine ds_ro' (ro_fld_ptr k23_fl44_0 rfl (up_m rfl (u2 rfl s5_8))) trivial rfl ?_
              refine ds_ro' (ro_eq (ro_ld_ptr k23_ty42 rfl mo2_3 up_h (by first | exact Nat.le_of_ble_eq_true rfl | omega | (simp only [lnS] <;> omega) | (simp <;> omega))) (by first | (simp only [packA_t, packA_f, iE, bE, setAt, cellsA, Value.cells, map_vc, map_vn, Nat.reduceAdd, qS] <;> rfl) | rfl)) trivial rfl ?_
              refine ds_ro' (ro_fld_ptr k23_fl44_1 rfl (up_m rfl (u4 rfl s5_8))) trivial rfl ?_
              refine ds_ro' (ro_eq (ro_ld_ptr k23_ty3 rfl mo2_3 up_h (by first | exact Nat.le_of_ble_eq_true rfl | omega | (simp only [lnS] <;> omega) | (simp <;> omega))) (by first | (simp only [packA_t, packA_f, iE, bE, setAt, cellsA, Value.cells, map_vc, map_vn, Nat.reduceAdd, qS] <;> rfl) | rfl)) trivial rfl ?_
              refine ds_ro' (ro_call (evL_cons (up_m rfl (u4 rfl up_h)) (evL_cons (u4 rfl up_h) (evL_cons (u2 rfl up_h) (evL_cons up_h evL_nil)))) rfl (runTo3_ok hs hp hR.1) k23_hcf24) trivial rfl ?_
              refine ds_ro' (ro_move up_h) trivial rfl ?_
              refine ds_ro' (ro_extract up_h rfl) trivial rfl ?_
              refine ds_ro' (ro_extract (up_m rfl up_h) rfl) trivial rfl ?_
              refine ds_ro' (ro_assign (up_m rfl up_h)) trivial rfl ?_
              refine ds_ro' (ro_assign (up_m rfl up_h)) trivial rfl ?_
              refine ds_nil ?_
              refine al_end (fun e_20 he_20 => ?_)
              have s3_20 := ef 3 he_20 (up_m rfl (u4 rfl (u8 rfl s3_8)))
              have s4_20 := ef 4 he_20 (up_m rfl (u4 rfl (u8 rfl s4_8)))
              have s5_20 := ef 5 he_20 (up_m rfl (u4 rfl (u8 rfl s5_8)))
              have s7_20 := ef 7 he_20 (up_m rfl up_h)
              have s8_20 := ef 8 he_20 up_h
              clear he_20 s3_8 s4_8 s52_8 s5_8
              refine then_n ?_
              refine aw_seq ?_
              refine aw_seq ?_
              refine aw_text ?_
              refine al_ro' (ro_move s8_20) trivial rfl ?_
              refine al_ro' (ro_neq up_h ev_c) trivial rfl ?_
              refine al_end (fun e_21 he_21 => ?_)
              have s3_21 := ef 3 he_21 (u2 rfl s3_20)
              have s4_21 := ef 4 he_21 (u2 rfl s4_20)
              have s5_21 := ef 5 he_21 (u2 rfl s5_20)
              have s7_21 := ef 7 he_21 (u2 rfl s7_20)
              have s8_21 := ef 8 he_21 (u2 rfl s8_20)
              have s65_21 := ef 65 he_21 up_h
              clear he_21 s3_20 s4_20 s5_20 s7_20 s8_20
              refine then_n ?_
              refine aw_case s65_21 (fun hq_22 => ?_) (fun hq_22 => ?_)
              · skip
                first
                | (cases hq_22; done) | ((first | replace hq_22 := bnt hq_22 | replace hq_22 := bnf hq_22 | replace hq_22 := bt hq_22 | replace hq_22 := bf hq_22 | replace hq_22 := bt' hq_22 | replace hq_22 := bf' hq_22 | skip); exfalso; omega) | (first | (simp [hw] at hq_22; done) | (rw [hw2] at hq_22; simp at hq_22; done))
                | ((first | replace hq_22 := bnt hq_22 | replace hq_22 := bnf hq_22 | replace hq_22 := bt hq_22 | replace hq_22 := bf hq_22 | replace hq_22 := bt' hq_22 | replace hq_22 := bf' hq_22 | skip)
                   refine aw_seq ?_
                   refine aw_text ?_
                   refine al_ro' (ro_move s8_21) trivial rfl ?_
                   refine al_ro' (ro_eql up_h ev_c) trivial rfl ?_
                   refine al_ro' (ro_move up_h) trivial rfl ?_
                   refine al_case up_h (fun hb_23 hq_23 => ?_) (fun hb_23 hq_23 => ?_)
                   · skip
                     first
                     | (cases hq_23; done) | ((first | replace hq_23 := bnt hq_23 | replace hq_23 := bnf hq_23 | replace hq_23 := bt hq_23 | replace hq_23 := bf hq_23 | replace hq_23 := bt' hq_23 | replace hq_23 := bf' hq_23 | skip); exfalso; omega) | (first | (simp [hw] at hq_23; done) | (rw [hw2] at hq_23; simp at hq_23; done))
                     | ((first | replace hq_23 := bnt hq_23 | replace hq_23 := bnf hq_23 | replace hq_23 := bt hq_23 | replace hq_23 := bf hq_23 | replace hq_23 := bt' hq_23 | replace hq_23 := bf' hq_23 | skip)
                        refine al_skip' ⟨_, rfl, .inl hb_23⟩ rfl ?_
                        refine al_skip' ⟨_, rfl, .inl (up_m rfl hb_23)⟩ rfl ?_
                        refine al_ro' (ro_pickT (u2 rfl hb_23) ev_c) trivial rfl ?_
                        refine al_ro' (ro_assign up_h) trivial rfl ?_
                        refine al_end (fun e_24 he_24 => ?_)
                        have s6_24 := ef 6 he_24 up_h
                        clear he_24 hb_23 s3_21 s4_21 s5_21 s65_21 s7_21 s8_21
                        refine then_n ?_
                        refine aw_ret ?_
                        refine then_r ?_
                        refine ret1 (.inr rfl) (by kernel_rfl) (resV_tmp s6_24) (.ro _ rfl) ?_
                        clear s6_24 mo2_3 mo1_3 mo0_3 ml_3
                        first | rfl | (simp; done) | (simp_all; done) | omega)
                   · skip
                     first
                     | (cases hq_23; done) | ((first | replace hq_23 := bnt hq_23 | replace hq_23 := bnf hq_23 | replace hq_23 := bt hq_23 | replace hq_23 := bf hq_23 | replace hq_23 := bt' hq_23 | replace hq_23 := bf' hq_23 | skip); exfalso; omega) | (first | (simp [hw] at hq_23; done) | (rw [hw2] at hq_23; simp at hq_23; done))
                     | ((first | replace hq_23 := bnt hq_23 | replace hq_23 := bnf hq_23 | replace hq_23 := bt hq_23 | replace hq_23 := bf hq_23 | replace hq_23 := bt' hq_23 | replace hq_23 := bf' hq_23 | skip)
                        refine al_ro' (ro_move (up_m rfl (u2 rfl s8_21))) ⟨_, rfl, hb_23⟩ rfl ?_
                        refine al_ro' (ro_eql up_h ev_c) ⟨_, rfl, (up_m rfl hb_23)⟩ rfl ?_
                        refine al_ro' (ro_pickF (u2 rfl hb_23) up_h) trivial rfl ?_
                        refine al_ro' (ro_assign up_h) trivial rfl ?_
                        refine al_end (fun e_25 he_25 => ?_)
                        have s6_25 := ef 6 he_25 up_h
                        clear he_25 hb_23 s3_21 s4_21 s5_21 s65_21 s7_21 s8_21
                        refine then_n ?_
                        refine aw_ret ?_
                        refine then_r ?_
                        refine ret1 (.inr rfl) (by kernel_rfl) (resV_tmp s6_25) (.ro _ rfl) ?_
                        clear s6_25 mo2_3 mo1_3 mo0_3 ml_3
                        first | rfl | (simp; done) | (simp_all; done) | omega))
              · skip
                first
                | (cases hq_22; done) | ((first | replace hq_22 := bnt hq_22 | replace hq_22 := bnf hq_22 | replace hq_22 := bt hq_22 | replace hq_22 := bf hq_22 | replace hq_22 := bt' hq_22 | replace hq_22 := bf' hq_22 | skip); exfalso; omega) | (first | (simp [hw] at hq_22; done) | (rw [hw2] at hq_22; simp at hq_22; done))
                | ((first | replace hq_22 := bnt hq_22 | replace hq_22 := bnf hq_22 | replace hq_22 := bt hq_22 | replace hq_22 := bf hq_22 | replace hq_22 := bt' hq_22 | replace hq_22 := bf' hq_22 | skip)
                   (have hrun : (runW ps b d stop post sq).2 = 0 := (by omega); obtain ⟨hal, hfi, hon⟩ := run_along (v := v) hok y2.1 y4 y3.1 hr3.1 hle hr4 hrun; have hll := liW_len ps (ps.length + 1); have hpl := plW_len ps ps.length; have hlast := hon (stop - post).toNat (Nat.le_refl _); have hix : ((((runW ps b d stop post sq).1.length : Int) - 1)).toNat = (stop - post).toNat := (by omega))
                   refine aw_skip ?_
                   refine then_n ?_
                   refine aw_seq ?_
                   refine aw_text ?_
                   refine al_ro' (ro_eq (ro_ld_ptr k23_ty24 rfl mo0_3 s3_21 (by first | exact Nat.le_of_ble_eq_true rfl | omega | (simp only [lnS] <;> omega) | (simp <;> omega))) (by first | (simp only [packA_t, packA_f, iE, bE, setAt, cellsA, Value.cells, map_vc, map_vn, Nat.reduceAdd, qS] <;> rfl) | rfl)) trivial rfl ?_
                   refine al_ro' (ro_call (evL_cons up_h evL_nil) rfl (rCopy_ok nm ps (by omega)) k23_hcf18) trivial rfl ?_
                   refine al_ro' (ro_call (evL_cons up_h evL_nil) rfl (limitsAt3_ok hs hp (chk_zero hR.1)) k23_hcf35) trivial rfl ?_
                   refine al_ro' (ro_move up_h) trivial rfl ?_
                   refine al_ro' (ro_extract up_h rfl) trivial rfl ?_
                   refine al_ro' (ro_extract (up_m rfl up_h) rfl) trivial rfl ?_
                   refine al_ro' (ro_assign (up_m rfl up_h)) trivial rfl ?_
                   refine al_ro' (ro_assign (up_m rfl up_h)) trivial rfl ?_
                   refine al_end (fun e_26 he_26 => ?_)
                   have s3_26 := ef 3 he_26 (u8 rfl s3_21)
                   have s4_26 := ef 4 he_26 (u8 rfl s4_21)
                   have s5_26 := ef 5 he_26 (u8 rfl s5_21)
                   have s7_26 := ef 7 he_26 (u8 rfl s7_21)
                   have s9_26 := ef 9 he_26 (up_m rfl up_h)
                   have s10_26 := ef 10 he_26 up_h
                   clear he_26 s3_21 s4_21 s5_21 s65_21 s7_21 s8_21
                   refine then_n ?_
                   refine aw_seq ?_
                   refine aw_text ?_
                   refine al_ro' (ro_eq (ro_ld_ptr k23_ty24 rfl mo0_3 s3_26 (by first | exact Nat.le_of_ble_eq_true rfl | omega | (simp only [lnS] <;> omega) | (simp <;> omega))) (by first | (simp only [packA_t, packA_f, iE, bE, setAt, cellsA, Value.cells, map_vc, map_vn, Nat.reduceAdd, qS] <;> rfl) | rfl)) trivial rfl ?_
                   refine al_ro' (ro_call (evL_cons up_h evL_nil) rfl (rCopy_ok nm ps (by omega)) k23_hcf18) trivial rfl ?_
                   refine al_ro' (ro_call (evL_cons up_h evL_nil) rfl (places3_ok hs hp (chk_zero hR.1)) k23_hcf34) trivial rfl ?_
                   refine al_ro' (ro_move up_h) trivial rfl ?_
                   refine al_ro' (ro_extract up_h rfl) trivial rfl ?_
                   refine al_ro' (ro_extract (up_m rfl up_h) rfl) trivial rfl ?_
                   refine al_ro' (ro_assign (up_m rfl up_h)) trivial rfl ?_
                   refine al_ro' (ro_assign (up_m rfl up_h)) trivial rfl ?_
                   refine al_end (fun e_27 he_27 => ?_)
                   have s3_27 := ef 3 he_27 (u8 rfl s3_26)
                   have s4_27 := ef 4 he_27 (u8 rfl s4_26)
                   have s5_27 := ef 5 he_27 (u8 rfl s5_26)
                   have s7_27 := ef 7 he_27 (u8 rfl s7_26)
                   have s9_27 := ef 9 he_27 (u8 rfl s9_26)
                   have s10_27 := ef 10 he_27 (u8 rfl s10_26)
                   have s11_27 := ef 11 he_27 (up_m rfl up_h)
                   have s12_27 := ef 12 he_27 up_h
                   clear he_27 s10_26 s3_26 s4_26 s5_26 s7_26 s9_26
                   refine then_n ?_
                   refine aw_seq ?_
                   refine aw_seq ?_
                   refine aw_cut (fun e mem => (evA e (.tmp 126) = .v (.bool false)) ∧ (evA e (.tmp 3) = evA e_27 (.tmp 3)) ∧ (evA e (.tmp 4) = evA e_27 (.tmp 4)) ∧ (evA e (.tmp 5) = evA e_27 (.tmp 5)) ∧ (evA e (.tmp 7) = evA e_27 (.tmp 7)) ∧ (evA e (.tmp 9) = evA e_27 (.tmp 9)) ∧ (evA e (.tmp 11) = evA e_27 (.tmp 11)) ∧ m_3 = mem) ?_ ?_
                   ·
                     refine aw_draw 43 (by kernel_rfl) (by kernel_rfl) (by kernel_rfl) ?_
                     refine ds_ro' (ro_move s10_27) trivial rfl ?_
                     refine ds_ro' (ro_neq up_h ev_c) trivial rfl ?_
                     refine ds_ro' (ro_move up_h) trivial rfl ?_
                     refine ds_case up_h (fun hb_29 hq_29 => ?_) (fun hb_29 hq_29 => ?_)
                     · skip
                       first
                       | (cases hq_29; done) | ((first | replace hq_29 := bnt hq_29 | replace hq_29 := bnf hq_29 | replace hq_29 := bt hq_29 | replace hq_29 := bf hq_29 | replace hq_29 := bt' hq_29 | replace hq_29 := bf' hq_29 | skip); exfalso; omega) | (first | (simp [hw] at hq_29; done) | (rw [hw2] at hq_29; simp at hq_29; done))
                       | ((first | replace hq_29 := bnt hq_29 | replace hq_29 := bnf hq_29 | replace hq_29 := bt hq_29 | replace hq_29 := bf hq_29 | replace hq_29 := bt' hq_29 | replace hq_29 := bf' hq_29 | skip)
                          refine ds_skip' ⟨_, rfl, .inl hb_29⟩ rfl ?_
                          refine ds_skip' ⟨_, rfl, .inl (up_m rfl hb_29)⟩ rfl ?_
                          refine ds_ro' (ro_pickT (u2 rfl hb_29) ev_c) trivial rfl ?_
                          refine ds_ro' (ro_move up_h) trivial rfl ?_
                          refine ds_skip' ⟨_, rfl, .inl up_h⟩ rfl ?_
                          refine ds_skip' ⟨_, rfl, .inl (up_m rfl up_h)⟩ rfl ?_
                          refine ds_skip' ⟨_, rfl, .inl (u2 rfl up_h)⟩ rfl ?_
                          refine ds_skip' ⟨_, rfl, .inl (up_m rfl (u2 rfl up_h))⟩ rfl ?_
                          refine ds_skip' ⟨_, rfl, .inl (u4 rfl up_h)⟩ rfl ?_
                          refine ds_skip' ⟨_, rfl, .inl (up_m rfl (u4 rfl up_h))⟩ rfl ?_
                          refine ds_skip' ⟨_, rfl, .inl (u2 rfl (u4 rfl up_h))⟩ rfl ?_
                          refine ds_ro' (ro_pickT (up_m rfl (u2 rfl (u4 rfl up_h))) ev_c) trivial rfl ?_
                          refine ds_ro' (ro_move up_h) trivial rfl ?_
                          refine ds_skip' ⟨_, rfl, .inl up_h⟩ rfl ?_
                          refine ds_skip' ⟨_, rfl, .inl (up_m rfl up_h)⟩ rfl ?_
                          refine ds_skip' ⟨_, rfl, .inl (u2 rfl up_h)⟩ rfl ?_
                          refine ds_skip' ⟨_, rfl, .inl (up_m rfl (u2 rfl up_h))⟩ rfl ?_
                          refine ds_skip' ⟨_, rfl, .inl (u4 rfl up_h)⟩ rfl ?_
                          refine ds_ro' (ro_pickT (up_m rfl (u4 rfl up_h)) ev_c) trivial rfl ?_
                          refine ds_ro' (ro_move up_h) trivial rfl ?_
                          refine ds_skip' ⟨_, rfl, .inl up_h⟩ rfl ?_
                          refine ds_skip' ⟨_, rfl, .inl (up_m rfl up_h)⟩ rfl ?_
                          refine ds_skip' ⟨_, rfl, .inl (u2 rfl up_h)⟩ rfl ?_
                          refine ds_skip' ⟨_, rfl, .inl (up_m rfl (u2 rfl up_h))⟩ rfl ?_
                          refine ds_skip' ⟨_, rfl, .inl (u4 rfl up_h)⟩ rfl ?_
                          refine ds_skip' ⟨_, rfl, .inl (up_m rfl (u4 rfl up_h))⟩ rfl ?_
                          refine ds_skip' ⟨_, rfl, .inl (u2 rfl (u4 rfl up_h))⟩ rfl ?_
                          refine ds_skip' ⟨_, rfl, .inl (up_m rfl (u2 rfl (u4 rfl up_h)))⟩ rfl ?_
                          refine ds_skip' ⟨_, rfl, .inl (u8 rfl up_h)⟩ rfl ?_
                          refine ds_skip' ⟨_, rfl, .inl (up_m rfl (u8 rfl up_h))⟩ rfl ?_
                          refine ds_ro' (ro_pickT (u2 rfl (u8 rfl up_h)) ev_c) trivial rfl ?_
                          refine ds_ro' (ro_move up_h) trivial rfl ?_
                          refine ds_skip' ⟨_, rfl, .inl up_h⟩ rfl ?_
                          refine ds_skip' ⟨_, rfl, .inl (up_m rfl up_h)⟩ rfl ?_
                          refine ds_skip' ⟨_, rfl, .inl (u2 rfl up_h)⟩ rfl ?_
                          refine ds_skip' ⟨_, rfl, .inl (up_m rfl (u2 rfl up_h))⟩ rfl ?_
                          refine ds_skip' ⟨_, rfl, .inl (u4 rfl up_h)⟩ rfl ?_
                          refine ds_skip' ⟨_, rfl, .inl (up_m rfl (u4 rfl up_h))⟩ rfl ?_
                          refine ds_skip' ⟨_, rfl, .inl (u2 rfl (u4 rfl up_h))⟩ rfl ?_
                          refine ds_ro' (ro_pickT (up_m rfl (u2 rfl (u4 rfl up_h))) ev_c) trivial rfl ?_
                          refine ds_nil ?_
                          refine al_end (fun e_30 he_30 => ?_)
                          have s3_30 := ef 3 he_30 (up_m rfl (u2 rfl (u8 rfl (u16 rfl (u16 rfl s3_27)))))
                          have s4_30 := ef 4 he_30 (up_m rfl (u2 rfl (u8 rfl (u16 rfl (u16 rfl s4_27)))))
                          have s5_30 := ef 5 he_30 (up_m rfl (u2 rfl (u8 rfl (u16 rfl (u16 rfl s5_27)))))
                          have s7_30 := ef 7 he_30 (up_m rfl (u2 rfl (u8 rfl (u16 rfl (u16 rfl s7_27)))))
                          have s9_30 := ef 9 he_30 (up_m rfl (u2 rfl (u8 rfl (u16 rfl (u16 rfl s9_27)))))
                          have s11_30 := ef 11 he_30 (up_m rfl (u2 rfl (u8 rfl (u16 rfl (u16 rfl s11_27)))))
                          have s126_30 := ef 126 he_30 up_h
                          clear he_30
                          refine then_n ⟨(s126_30).trans (by (refine avb ?_; first | (simp only [hal, hll, hpl]; simp; done) | (simp only [show (0 : Int).toNat = 0 from rfl, hfi]; simp; done) | (simp only [hal]; simp; omega) | (simp; omega) | (exfalso; omega))), (s3_30).trans (s3_27).symm, (s4_30).trans (s4_27).symm, (s5_30).trans (s5_27).symm, (s7_30).trans (s7_27).symm, (s9_30).trans (s9_27).symm, (s11_30).trans (s11_27).symm, rfl⟩)
                     · skip
                       first
                       | (cases hq_29; done) | ((first | replace hq_29 := bnt hq_29 | replace hq_29 := bnf hq_29 | replace hq_29 := bt hq_29 | replace hq_29 := bf hq_29 | replace hq_29 := bt' hq_29 | replace hq_29 := bf' hq_29 | skip); exfalso; omega) | (first | (simp [hw] at hq_29; done) | (rw [hw2] at hq_29; simp at hq_29; done))
                       | ((first | replace hq_29 := bnt hq_29 | replace hq_29 := bnf hq_29 | replace hq_29 := bt hq_29 | replace hq_29 := bf hq_29 | replace hq_29 := bt' hq_29 | replace hq_29 := bf' hq_29 | skip)
                          refine ds_ro' (ro_move (up_m rfl (u2 rfl s12_27))) ⟨_, rfl, hb_29⟩ rfl ?_
                          refine ds_ro' (ro_neq up_h ev_c) ⟨_, rfl, (up_m rfl hb_29)⟩ rfl ?_
                          refine ds_ro' (ro_pickF (u2 rfl hb_29) up_h) trivial rfl ?_
                          refine ds_ro' (ro_move up_h) trivial rfl ?_
                          refine ds_case up_h (fun hb_31 hq_31 => ?_) (fun hb_31 hq_31 => ?_)
                          · skip
                            first
                            | (cases hq_31; done) | ((first | replace hq_31 := bnt hq_31 | replace hq_31 := bnf hq_31 | replace hq_31 := bt hq_31 | replace hq_31 := bf hq_31 | replace hq_31 := bt' hq_31 | replace hq_31 := bf' hq_31 | skip); exfalso; omega) | (first | (simp [hw] at hq_31; done) | (rw [hw2] at hq_31; simp at hq_31; done))
                            | ((first | replace hq_31 := bnt hq_31 | replace hq_31 := bnf hq_31 | replace hq_31 := bt hq_31 | replace hq_31 := bf hq_31 | replace hq_31 := bt' hq_31 | replace hq_31 := bf' hq_31 | skip)
                               refine ds_skip' ⟨_, rfl, .inl hb_31⟩ rfl ?_
                               refine ds_skip' ⟨_, rfl, .inl (up_m rfl hb_31)⟩ rfl ?_
                               refine ds_skip' ⟨_, rfl, .inl (u2 rfl hb_31)⟩ rfl ?_
                               refine ds_skip' ⟨_, rfl, .inl (up_m rfl (u2 rfl hb_31))⟩ rfl ?_
                               refine ds_skip' ⟨_, rfl, .inl (u4 rfl hb_31)⟩ rfl ?_
                               refine ds_skip' ⟨_, rfl, .inl (up_m rfl (u4 rfl hb_31))⟩ rfl ?_
                               refine ds_skip' ⟨_, rfl, .inl (u2 rfl (u4 rfl hb_31))⟩ rfl ?_
                               refine ds_ro' (ro_pickT (up_m rfl (u2 rfl (u4 rfl hb_31))) ev_c) trivial rfl ?_
                               refine ds_ro' (ro_move up_h) trivial rfl ?_
                               refine ds_skip' ⟨_, rfl, .inl up_h⟩ rfl ?_
                               refine ds_skip' ⟨_, rfl, .inl (up_m rfl up_h)⟩ rfl ?_
                               refine ds_skip' ⟨_, rfl, .inl (u2 rfl up_h)⟩ rfl ?_
                               refine ds_skip' ⟨_, rfl, .inl (up_m rfl (u2 rfl up_h))⟩ rfl ?_
                               refine ds_skip' ⟨_, rfl, .inl (u4 rfl up_h)⟩ rfl ?_
                               refine ds_ro' (ro_pickT (up_m rfl (u4 rfl up_h)) ev_c) trivial rfl ?_
                               refine ds_ro' (ro_move up_h) trivial rfl ?_
                               refine ds_skip' ⟨_, rfl, .inl up_h⟩ rfl ?_
                               refine ds_skip' ⟨_, rfl, .inl (up_m rfl up_h)⟩ rfl ?_
                               refine ds_skip' ⟨_, rfl, .inl (u2 rfl up_h)⟩ rfl ?_
                               refine ds_skip' ⟨_, rfl, .inl (up_m rfl (u2 rfl up_h))⟩ rfl ?_
                               refine ds_skip' ⟨_, rfl, .inl (u4 rfl up_h)⟩ rfl ?_
                               refine ds_skip' ⟨_, rfl, .inl (up_m rfl (u4 rfl up_h))⟩ rfl ?_
                               refine ds_skip' ⟨_, rfl, .inl (u2 rfl (u4 rfl up_h))⟩ rfl ?_
                               refine ds_skip' ⟨_, rfl, .inl (up_m rfl (u2 rfl (u4 rfl up_h)))⟩ rfl ?_
                               refine ds_skip' ⟨_, rfl, .inl (u8 rfl up_h)⟩ rfl ?_
                               refine ds_skip' ⟨_, rfl, .inl (up_m rfl (u8 rfl up_h))⟩ rfl ?_
                               refine ds_ro' (ro_pickT (u2 rfl (u8 rfl up_h)) ev_c) trivial rfl ?_
                               refine ds_ro' (ro_move up_h) trivial rfl ?_
                               refine ds_skip' ⟨_, rfl, .inl up_h⟩ rfl ?_
                               refine ds_skip' ⟨_, rfl, .inl (up_m rfl up_h)⟩ rfl ?_
                               refine ds_skip' ⟨_, rfl, .inl (u2 rfl up_h)⟩ rfl ?_
                               refine ds_skip' ⟨_, rfl, .inl (up_m rfl (u2 rfl up_h))⟩ rfl ?_
                               refine ds_skip' ⟨_, rfl, .inl (u4 rfl up_h)⟩ rfl ?_
                               refine ds_skip' ⟨_, rfl, .inl (up_m rfl (u4 rfl up_h))⟩ rfl ?_
                               refine ds_skip' ⟨_, rfl, .inl (u2 rfl (u4 rfl up_h))⟩ rfl ?_
                               refine ds_ro' (ro_pickT (up_m rfl (u2 rfl (u4 rfl up_h))) ev_c) trivial rfl ?_
                               refine ds_nil ?_
                               refine al_end (fun e_32 he_32 => ?_)
                               have s3_32 := ef 3 he_32 (up_m rfl (u2 rfl (u8 rfl (u16 rfl (u16 rfl s3_27)))))
                               have s4_32 := ef 4 he_32 (up_m rfl (u2 rfl (u8 rfl (u16 rfl (u16 rfl s4_27)))))
                               have s5_32 := ef 5 he_32 (up_m rfl (u2 rfl (u8 rfl (u16 rfl (u16 rfl s5_27)))))
                               have s7_32 := ef 7 he_32 (up_m rfl (u2 rfl (u8 rfl (u16 rfl (u16 rfl s7_27)))))
                               have s9_32 := ef 9 he_32 (up_m rfl (u2 rfl (u8 rfl (u16 rfl (u16 rfl s9_27)))))
                               have s11_32 := ef 11 he_32 (up_m rfl (u2 rfl (u8 rfl (u16 rfl (u16 rfl s11_27)))))
                               have s126_32 := ef 126 he_32 up_h
                               clear he_32
                               refine then_n ⟨(s126_32).trans (by (refine avb ?_; first | (simp only [hal, hll, hpl]; simp; done) | (simp only [show (0 : Int).toNat = 0 from rfl, hfi]; simp; done) | (simp only [hal]; simp; omega) | (simp; omega) | (exfalso; omega))), (s3_32).trans (s3_27).symm, (s4_32).trans (s4_27).symm, (s5_32).trans (s5_27).symm, (s7_32).trans (s7_27).symm, (s9_32).trans (s9_27).symm, (s11_32).trans (s11_27).symm, rfl⟩)
                          · skip
                            first
                            | (cases hq_31; done) | ((first | replace hq_31 := bnt hq_31 | replace hq_31 := bnf hq_31 | replace hq_31 := bt hq_31 | replace hq_31 := bf hq_31 | replace hq_31 := bt' hq_31 | replace hq_31 := bf' hq_31 | skip); exfalso; omega) | (first | (simp [hw] at hq_31; done) | (rw [hw2] at hq_31; simp at hq_31; done))
                            | ((first | replace hq_31 := bnt hq_31 | replace hq_31 := bnf hq_31 | replace hq_31 := bt hq_31 | replace hq_31 := bf hq_31 | replace hq_31 := bt' hq_31 | replace hq_31 := bf' hq_31 | skip)
                               refine ds_ro' (ro_move (up_m rfl (u2 rfl (u4 rfl s9_27)))) ⟨_, rfl, hb_31⟩ rfl ?_
                               refine ds_ro' (ro_eq (ro_len_row up_h rfl k23_sl30.1) (by first | (simp only [lnS] <;> rfl) | rfl)) ⟨_, rfl, (up_m rfl hb_31)⟩ rfl ?_
                               refine ds_ro' (ro_fld_ptr k23_fl24_1 rfl (up_m rfl (u8 rfl s3_27))) ⟨_, rfl, (u2 rfl hb_31)⟩ rfl ?_
                               refine ds_ro' (ro_eq (ro_ld_ptr k23_ty22 rfl mo0_3 up_h (by first | exact Nat.le_of_ble_eq_true rfl | omega | (simp only [lnS] <;> omega) | (simp <;> omega))) (by first | (simp only [packA_t, packA_f, iE, bE, setAt, cellsA, Value.cells, map_vc, map_vn, Nat.reduceAdd, qS] <;> rfl) | rfl)) ⟨_, rfl, (up_m rfl (u2 rfl hb_31))⟩ rfl ?_
                               refine ds_ro' (ro_eq (ro_len_row up_h rfl k23_sl22.1) (by first | (simp only [lnS] <;> rfl) | rfl)) ⟨_, rfl, (u4 rfl hb_31)⟩ rfl ?_
                               first | (refine ds_ro' (ro_add' up_h ev_c ?_) ⟨_, rfl, (up_m rfl (u4 rfl hb_31))⟩ rfl ?_; · (unfold In64; omega)) | refine ds_ro' (ro_add up_h ev_c) ⟨_, rfl, (up_m rfl (u4 rfl hb_31))⟩ rfl ?_
                               refine ds_ro' (ro_neq (u4 rfl up_h) up_h) ⟨_, rfl, (u2 rfl (u4 rfl hb_31))⟩ rfl ?_
                               refine ds_ro' (ro_pickF (up_m rfl (u2 rfl (u4 rfl hb_31))) up_h) trivial rfl ?_
                               refine ds_ro' (ro_move up_h) trivial rfl ?_
                               refine ds_case up_h (fun hb_33 hq_33 => ?_) (fun hb_33 hq_33 => ?_)
                               · skip
                                 first
                                 | (cases hq_33; done) | ((first | replace hq_33 := bnt hq_33 | replace hq_33 := bnf hq_33 | replace hq_33 := bt hq_33 | replace hq_33 := bf hq_33 | replace hq_33 := bt' hq_33 | replace hq_33 := bf' hq_33 | skip); exfalso; omega) | (first | (simp [hw] at hq_33; done) | (rw [hw2] at hq_33; simp at hq_33; done))
                                 | ((first | replace hq_33 := bnt hq_33 | replace hq_33 := bnf hq_33 | replace hq_33 := bt hq_33 | replace hq_33 := bf hq_33 | replace hq_33 := bt' hq_33 | replace hq_33 := bf' hq_33 | skip)
                                    refine ds_skip' ⟨_, rfl, .inl hb_33⟩ rfl ?_
                                    refine ds_skip' ⟨_, rfl, .inl (up_m rfl hb_33)⟩ rfl ?_
                                    refine ds_skip' ⟨_, rfl, .inl (u2 rfl hb_33)⟩ rfl ?_
                                    refine ds_skip' ⟨_, rfl, .inl (up_m rfl (u2 rfl hb_33))⟩ rfl ?_
                                    refine ds_skip' ⟨_, rfl, .inl (u4 rfl hb_33)⟩ rfl ?_
                                    refine ds_ro' (ro_pickT (up_m rfl (u4 rfl hb_33)) ev_c) trivial rfl ?_
                                    refine ds_ro' (ro_move up_h) trivial rfl ?_
                                    refine ds_skip' ⟨_, rfl, .inl up_h⟩ rfl ?_
                                    refine ds_skip' ⟨_, rfl, .inl (up_m rfl up_h)⟩ rfl ?_
                                    refine ds_skip' ⟨_, rfl, .inl (u2 rfl up_h)⟩ rfl ?_
                                    refine ds_skip' ⟨_, rfl, .inl (up_m rfl (u2 rfl up_h))⟩ rfl ?_
                                    refine ds_skip' ⟨_, rfl, .inl (u4 rfl up_h)⟩ rfl ?_
                                    refine ds_skip' ⟨_, rfl, .inl (up_m rfl (u4 rfl up_h))⟩ rfl ?_
                                    refine ds_skip' ⟨_, rfl, .inl (u2 rfl (u4 rfl up_h))⟩ rfl ?_
                                    refine ds_skip' ⟨_, rfl, .inl (up_m rfl (u2 rfl (u4 rfl up_h)))⟩ rfl ?_
                                    refine ds_skip' ⟨_, rfl, .inl (u8 rfl up_h)⟩ rfl ?_
                                    refine ds_skip' ⟨_, rfl, .inl (up_m rfl (u8 rfl up_h))⟩ rfl ?_
                                    refine ds_ro' (ro_pickT (u2 rfl (u8 rfl up_h)) ev_c) trivial rfl ?_
                                    refine ds_ro' (ro_move up_h) trivial rfl ?_
                                    refine ds_skip' ⟨_, rfl, .inl up_h⟩ rfl ?_
                                    refine ds_skip' ⟨_, rfl, .inl (up_m rfl up_h)⟩ rfl ?_
                                    refine ds_skip' ⟨_, rfl, .inl (u2 rfl up_h)⟩ rfl ?_
                                    refine ds_skip' ⟨_, rfl, .inl (up_m rfl (u2 rfl up_h))⟩ rfl ?_
                                    refine ds_skip' ⟨_, rfl, .inl (u4 rfl up_h)⟩ rfl ?_
                                    refine ds_skip' ⟨_, rfl, .inl (up_m rfl (u4 rfl up_h))⟩ rfl ?_
                                    refine ds_skip' ⟨_, rfl, .inl (u2 rfl (u4 rfl up_h))⟩ rfl ?_
                                    refine ds_ro' (ro_pickT (up_m rfl (u2 rfl (u4 rfl up_h))) ev_c) trivial rfl ?_
                                    refine ds_nil ?_
                                    refine al_end (fun e_34 he_34 => ?_)
                                    have s3_34 := ef 3 he_34 (up_m rfl (u2 rfl (u8 rfl (u16 rfl (u16 rfl s3_27)))))
                                    have s4_34 := ef 4 he_34 (up_m rfl (u2 rfl (u8 rfl (u16 rfl (u16 rfl s4_27)))))
                                    have s5_34 := ef 5 he_34 (up_m rfl (u2 rfl (u8 rfl (u16 rfl (u16 rfl s5_27)))))
                                    have s7_34 := ef 7 he_34 (up_m rfl (u2 rfl (u8 rfl (u16 rfl (u16 rfl s7_27)))))
                                    have s9_34 := ef 9 he_34 (up_m rfl (u2 rfl (u8 rfl (u16 rfl (u16 rfl s9_27)))))
                                    have s11_34 := ef 11 he_34 (up_m rfl (u2 rfl (u8 rfl (u16 rfl (u16 rfl s11_27)))))
                                    have s126_34 := ef 126 he_34 up_h
                                    clear he_34
                                    refine then_n ⟨(s126_34).trans (by (refine avb ?_; first | (simp only [hal, hll, hpl]; simp; done) | (simp only [show (0 : Int).toNat = 0 from rfl, hfi]; simp; done) | (simp only [hal]; simp; omega) | (simp; omega) | (exfalso; omega))), (s3_34).trans (s3_27).symm, (s4_34).trans (s4_27).symm, (s5_34).trans (s5_27).symm, (s7_34).trans (s7_27).symm, (s9_34).trans (s9_27).symm, (s11_34).trans (s11_27).symm, rfl⟩)
                               · skip
                                 first
                                 | (cases hq_33; done) | ((first | replace hq_33 := bnt hq_33 | replace hq_33 := bnf hq_33 | replace hq_33 := bt hq_33 | replace hq_33 := bf hq_33 | replace hq_33 := bt' hq_33 | replace hq_33 := bf' hq_33 | skip); exfalso; omega) | (first | (simp [hw] at hq_33; done) | (rw [hw2] at hq_33; simp at hq_33; done))
                                 | ((first | replace hq_33 := bnt hq_33 | replace hq_33 := bnf hq_33 | replace hq_33 := bt hq_33 | replace hq_33 := bf hq_33 | replace hq_33 := bt' hq_33 | replace hq_33 := bf' hq_33 | skip)
                                    refine ds_ro' (ro_move (u16 rfl s11_27)) ⟨_, rfl, hb_33⟩ rfl ?_
                                    refine ds_ro' (ro_eq (ro_len_row up_h rfl k23_sl30.1) (by first | (simp only [lnS] <;> rfl) | rfl)) ⟨_, rfl, (up_m rfl hb_33)⟩ rfl ?_
                                    refine ds_ro' (ro_move (u2 rfl (u16 rfl s9_27))) ⟨_, rfl, (u2 rfl hb_33)⟩ rfl ?_
                                    refine ds_ro' (ro_eq (ro_len_row up_h rfl k23_sl30.1) (by first | (simp only [lnS] <;> rfl) | rfl)) ⟨_, rfl, (up_m rfl (u2 rfl hb_33))⟩ rfl ?_
                                    refine ds_ro' (ro_neq (u2 rfl up_h) up_h) ⟨_, rfl, (u4 rfl hb_33)⟩ rfl ?_
                                    refine ds_ro' (ro_pickF (up_m rfl (u4 rfl hb_33)) up_h) trivial rfl ?_
                                    refine ds_ro' (ro_move up_h) trivial rfl ?_
                                    refine ds_case up_h (fun hb_35 hq_35 => ?_) (fun hb_35 hq_35 => ?_)
                                    · skip
                                      first
                                      | (cases hq_35; done) | ((first | replace hq_35 := bnt hq_35 | replace hq_35 := bnf hq_35 | replace hq_35 := bt hq_35 | replace hq_35 := bf hq_35 | replace hq_35 := bt' hq_35 | replace hq_35 := bf' hq_35 | skip); exfalso; omega) | (first | (simp [hw] at hq_35; done) | (rw [hw2] at hq_35; simp at hq_35; done))
                                      | ((first | replace hq_35 := bnt hq_35 | replace hq_35 := bnf hq_35 | replace hq_35 := bt hq_35 | replace hq_35 := bf hq_35 | replace hq_35 := bt' hq_35 | replace hq_35 := bf' hq_35 | skip)
                                         refine ds_skip' ⟨_, rfl, .inl hb_35⟩ rfl ?_
                                         refine ds_skip' ⟨_, rfl, .inl (up_m rfl hb_35)⟩ rfl ?_
                                         refine ds_skip' ⟨_, rfl, .inl (u2 rfl hb_35)⟩ rfl ?_
                                         refine ds_skip' ⟨_, rfl, .inl (up_m rfl (u2 rfl hb_35))⟩ rfl ?_
                                         refine ds_skip' ⟨_, rfl, .inl (u4 rfl hb_35)⟩ rfl ?_
                                         refine ds_skip' ⟨_, rfl, .inl (up_m rfl (u4 rfl hb_35))⟩ rfl ?_
                                         refine ds_skip' ⟨_, rfl, .inl (u2 rfl (u4 rfl hb_35))⟩ rfl ?_
                                         refine ds_skip' ⟨_, rfl, .inl (up_m rfl (u2 rfl (u4 rfl hb_35)))⟩ rfl ?_
                                         refine ds_skip' ⟨_, rfl, .inl (u8 rfl hb_35)⟩ rfl ?_
                                         refine ds_skip' ⟨_, rfl, .inl (up_m rfl (u8 rfl hb_35))⟩ rfl ?_
                                         refine ds_ro' (ro_pickT (u2 rfl (u8 rfl hb_35)) ev_c) trivial rfl ?_
                                         refine ds_ro' (ro_move up_h) trivial rfl ?_
                                         refine ds_skip' ⟨_, rfl, .inl up_h⟩ rfl ?_
                                         refine ds_skip' ⟨_, rfl, .inl (up_m rfl up_h)⟩ rfl ?_
                                         refine ds_skip' ⟨_, rfl, .inl (u2 rfl up_h)⟩ rfl ?_
                                         refine ds_skip' ⟨_, rfl, .inl (up_m rfl (u2 rfl up_h))⟩ rfl ?_
                                         refine ds_skip' ⟨_, rfl, .inl (u4 rfl up_h)⟩ rfl ?_
                                         refine ds_skip' ⟨_, rfl, .inl (up_m rfl (u4 rfl up_h))⟩ rfl ?_
                                         refine ds_skip' ⟨_, rfl, .inl (u2 rfl (u4 rfl up_h))⟩ rfl ?_
                                         refine ds_ro' (ro_pickT (up_m rfl (u2 rfl (u4 rfl up_h))) ev_c) trivial rfl ?_
                                         refine ds_nil ?_
                                         refine al_end (fun e_36 he_36 => ?_)
                                         have s3_36 := ef 3 he_36 (up_m rfl (u2 rfl (u8 rfl (u16 rfl (u16 rfl s3_27)))))
                                         have s4_36 := ef 4 he_36 (up_m rfl (u2 rfl (u8 rfl (u16 rfl (u16 rfl s4_27)))))
                                         have s5_36 := ef 5 he_36 (up_m rfl (u2 rfl (u8 rfl (u16 rfl (u16 rfl s5_27)))))
                                         have s7_36 := ef 7 he_36 (up_m rfl (u2 rfl (u8 rfl (u16 rfl (u16 rfl s7_27)))))
                                         have s9_36 := ef 9 he_36 (up_m rfl (u2 rfl (u8 rfl (u16 rfl (u16 rfl s9_27)))))
                                         have s11_36 := ef 11 he_36 (up_m rfl (u2 rfl (u8 rfl (u16 rfl (u16 rfl s11_27)))))
                                         have s126_36 := ef 126 he_36 up_h
                                         clear he_36
                                         refine then_n ⟨(s126_36).trans (by (refine avb ?_; first | (simp only [hal, hll, hpl]; simp; done) | (simp only [show (0 : Int).toNat = 0 from rfl, hfi]; simp; done) | (simp only [hal]; simp; omega) | (simp; omega) | (exfalso; omega))), (s3_36).trans (s3_27).symm, (s4_36).trans (s4_27).symm, (s5_36).trans (s5_27).symm, (s7_36).trans (s7_27).symm, (s9_36).trans (s9_27).symm, (s11_36).trans (s11_27).symm, rfl⟩)
                                    · skip
                                      first
                                      | (cases hq_35; done) | ((first | replace hq_35 := bnt hq_35 | replace hq_35 := bnf hq_35 | replace hq_35 := bt hq_35 | replace hq_35 := bf hq_35 | replace hq_35 := bt' hq_35 | replace hq_35 := bf' hq_35 | skip); exfalso; omega) | (first | (simp [hw] at hq_35; done) | (rw [hw2] at hq_35; simp at hq_35; done))
                                      | ((first | replace hq_35 := bnt hq_35 | replace hq_35 := bnf hq_35 | replace hq_35 := bt hq_35 | replace hq_35 := bf hq_35 | replace hq_35 := bt' hq_35 | replace hq_35 := bf' hq_35 | skip)
                                         refine ds_ro' (ro_move (up_m rfl (u2 rfl (u4 rfl (u16 rfl s7_27))))) ⟨_, rfl, hb_35⟩ rfl ?_
                                         refine ds_ro' (ro_eq (ro_len_row up_h rfl k23_sl30.1) (by first | (simp only [lnS] <;> rfl) | rfl)) ⟨_, rfl, (up_m rfl hb_35)⟩ rfl ?_
                                         refine ds_ro' (ro_fld_ptr k23_fl44_1 rfl (up_m rfl (u8 rfl (u16 rfl s5_27)))) ⟨_, rfl, (u2 rfl hb_35)⟩ rfl ?_
                                         refine ds_ro' (ro_eq (ro_ld_ptr k23_ty3 rfl mo2_3 up_h (by first | exact Nat.le_of_ble_eq_true rfl | omega | (simp only [lnS] <;> omega) | (simp <;> omega))) (by first | (simp only [packA_t, packA_f, iE, bE, setAt, cellsA, Value.cells, map_vc, map_vn, Nat.reduceAdd, qS] <;> rfl) | rfl)) ⟨_, rfl, (up_m rfl (u2 rfl hb_35))⟩ rfl ?_
                                         refine ds_ro' (ro_fld_ptr k23_fl44_0 rfl (up_m rfl (u2 rfl (u8 rfl (u16 rfl s5_27))))) ⟨_, rfl, (u4 rfl hb_35)⟩ rfl ?_
                                         refine ds_ro' (ro_fld_ptr k23_fl42_0 rfl up_h) ⟨_, rfl, (up_m rfl (u4 rfl hb_35))⟩ rfl ?_
                                         refine ds_ro' (ro_eq (ro_ld_ptr k23_ty3 rfl mo2_3 up_h (by first | exact Nat.le_of_ble_eq_true rfl | omega | (simp only [lnS] <;> omega) | (simp <;> omega))) (by first | (simp only [packA_t, packA_f, iE, bE, setAt, cellsA, Value.cells, map_vc, map_vn, Nat.reduceAdd, qS] <;> rfl) | rfl)) ⟨_, rfl, (u2 rfl (u4 rfl hb_35))⟩ rfl ?_
                                         first | (refine ds_ro' (ro_sub' (up_m rfl (u2 rfl up_h)) up_h ?_) ⟨_, rfl, (up_m rfl (u2 rfl (u4 rfl hb_35)))⟩ rfl ?_; · (unfold In64; omega)) | refine ds_ro' (ro_sub (up_m rfl (u2 rfl up_h)) up_h) ⟨_, rfl, (up_m rfl (u2 rfl (u4 rfl hb_35)))⟩ rfl ?_
                                         first | (refine ds_ro' (ro_add' up_h ev_c ?_) ⟨_, rfl, (u8 rfl hb_35)⟩ rfl ?_; · (unfold In64; omega)) | refine ds_ro' (ro_add up_h ev_c) ⟨_, rfl, (u8 rfl hb_35)⟩ rfl ?_
                                         refine ds_ro' (ro_neq (up_m rfl (u2 rfl (u4 rfl up_h))) up_h) ⟨_, rfl, (up_m rfl (u8 rfl hb_35))⟩ rfl ?_
                                         refine ds_ro' (ro_pickF (u2 rfl (u8 rfl hb_35)) up_h) trivial rfl ?_
                                         refine ds_ro' (ro_move up_h) trivial rfl ?_
                                         refine ds_case up_h (fun hb_37 hq_37 => ?_) (fun hb_37 hq_37 => ?_)
                                         · skip
                                           first
                                           | (cases hq_37; done) | ((first | replace hq_37 := bnt hq_37 | replace hq_37 := bnf hq_37 | replace hq_37 := bt hq_37 | replace hq_37 := bf hq_37 | replace hq_37 := bt' hq_37 | replace hq_37 := bf' hq_37 | skip); exfalso; omega) | (first | (simp [hw] at hq_37; done) | (rw [hw2] at hq_37; simp at hq_37; done))
                                           | ((first | replace hq_37 := bnt hq_37 | replace hq_37 := bnf hq_37 | replace hq_37 := bt hq_37 | replace hq_37 := bf hq_37 | replace hq_37 := bt' hq_37 | replace hq_37 := bf' hq_37 | skip)
                                              refine ds_skip' ⟨_, rfl, .inl hb_37⟩ rfl ?_
                                              refine ds_skip' ⟨_, rfl, .inl (up_m rfl hb_37)⟩ rfl ?_
                                              refine ds_skip' ⟨_, rfl, .inl (u2 rfl hb_37)⟩ rfl ?_
                                              refine ds_skip' ⟨_, rfl, .inl (up_m rfl (u2 rfl hb_37))⟩ rfl ?_
                                              refine ds_skip' ⟨_, rfl, .inl (u4 rfl hb_37)⟩ rfl ?_
                                              refine ds_skip' ⟨_, rfl, .inl (up_m rfl (u4 rfl hb_37))⟩ rfl ?_
                                              refine ds_skip' ⟨_, rfl, .inl (u2 rfl (u4 rfl hb_37))⟩ rfl ?_
                                              refine ds_ro' (ro_pickT (up_m rfl (u2 rfl (u4 rfl hb_37))) ev_c) trivial rfl ?_
                                              refine ds_nil ?_
                                              refine al_end (fun e_38 he_38 => ?_)
                                              have s3_38 := ef 3 he_38 (up_m rfl (u2 rfl (u8 rfl (u16 rfl (u16 rfl s3_27)))))
                                              have s4_38 := ef 4 he_38 (up_m rfl (u2 rfl (u8 rfl (u16 rfl (u16 rfl s4_27)))))
                                              have s5_38 := ef 5 he_38 (up_m rfl (u2 rfl (u8 rfl (u16 rfl (u16 rfl s5_27)))))
                                              have s7_38 := ef 7 he_38 (up_m rfl (u2 rfl (u8 rfl (u16 rfl (u16 rfl s7_27)))))
                                              have s9_38 := ef 9 he_38 (up_m rfl (u2 rfl (u8 rfl (u16 rfl (u16 rfl s9_27)))))
                                              have s11_38 := ef 11 he_38 (up_m rfl (u2 rfl (u8 rfl (u16 rfl (u16 rfl s11_27)))))
                                              have s126_38 := ef 126 he_38 up_h
                                              clear he_38
                                              refine then_n ⟨(s126_38).trans (by (refine avb ?_; first | (simp only [hal, hll, hpl]; simp; done) | (simp only [show (0 : Int).toNat = 0 from rfl, hfi]; simp; done) | (simp only [hal]; simp; omega) | (simp; omega) | (exfalso; omega))), (s3_38).trans (s3_27).symm, (s4_38).trans (s4_27).symm, (s5_38).trans (s5_27).symm, (s7_38).trans (s7_27).symm, (s9_38).trans (s9_27).symm, (s11_38).trans (s11_27).symm, rfl⟩)
                                         · skip
                                           first
                                           | (cases hq_37; done) | ((first | replace hq_37 := bnt hq_37 | replace hq_37 := bnf hq_37 | replace hq_37 := bt hq_37 | replace hq_37 := bf hq_37 | replace hq_37 := bt' hq_37 | replace hq_37 := bf' hq_37 | skip); exfalso; omega) | (first | (simp [hw] at hq_37; done) | (rw [hw2] at hq_37; simp at hq_37; done))
                                           | ((first | replace hq_37 := bnt hq_37 | replace hq_37 := bnf hq_37 | replace hq_37 := bt hq_37 | replace hq_37 := bf hq_37 | replace hq_37 := bt' hq_37 | replace hq_37 := bf' hq_37 | skip)
                                              refine ds_ro' (ro_move (up_m rfl (u2 rfl (u16 rfl (u16 rfl s7_27))))) ⟨_, rfl, hb_37⟩ rfl ?_
                                              refine ds_ro' (ro_eq (ro_ix k23_sl30 up_h ev_c (by first | decide | omega | (simp <;> omega)) (by first | (refine idx_map ?_; first | omega | (simp only [lnS]; omega)) | (refine idx_mapI ?_; first | omega | (simp only [lnS]; omega)) | (refine idx_mapN ?_; first | omega | (simp only [lnS]; omega)) | rfl)) (by first | (simp only [packA_t, packA_f, iE, bE, setAt, cellsA, Value.cells, map_vc, map_vn, Nat.reduceAdd, qS] <;> rfl) | rfl)) ⟨_, rfl, (up_m rfl hb_37)⟩ rfl ?_
                                              refine ds_ro' (ro_eq (ro_ld_ref k23_ty3 rfl up_h (by first | exact Nat.le_of_ble_eq_true rfl | omega | (simp only [lnS] <;> omega) | (simp <;> omega))) (by first | (simp only [packA_t, packA_f, iE, bE, setAt, cellsA, Value.cells, map_vc, map_vn, Nat.reduceAdd, qS] <;> rfl) | rfl)) ⟨_, rfl, (u2 rfl hb_37)⟩ rfl ?_
                                              refine ds_ro' (ro_fld_ptr k23_fl44_0 rfl (u2 rfl (u4 rfl (u16 rfl (u16 rfl s5_27))))) ⟨_, rfl, (up_m rfl (u2 rfl hb_37))⟩ rfl ?_
                                              refine ds_ro' (ro_fld_ptr k23_fl42_1 rfl up_h) ⟨_, rfl, (u4 rfl hb_37)⟩ rfl ?_
                                              refine ds_ro' (ro_eq (ro_ld_ptr k23_ty3 rfl mo2_3 up_h (by first | exact Nat.le_of_ble_eq_true rfl | omega | (simp only [lnS] <;> omega) | (simp <;> omega))) (by first | (simp only [packA_t, packA_f, iE, bE, setAt, cellsA, Value.cells, map_vc, map_vn, Nat.reduceAdd, qS] <;> rfl) | rfl)) ⟨_, rfl, (up_m rfl (u4 rfl hb_37))⟩ rfl ?_
                                              refine ds_ro' (ro_neq (up_m rfl (u2 rfl up_h)) up_h) ⟨_, rfl, (u2 rfl (u4 rfl hb_37))⟩ rfl ?_
                                              refine ds_ro' (ro_pickF (up_m rfl (u2 rfl (u4 rfl hb_37))) up_h) trivial rfl ?_
                                              refine ds_nil ?_
                                              refine al_end (fun e_39 he_39 => ?_)
                                              have s3_39 := ef 3 he_39 (up_m rfl (u2 rfl (u8 rfl (u16 rfl (u16 rfl s3_27)))))
                                              have s4_39 := ef 4 he_39 (up_m rfl (u2 rfl (u8 rfl (u16 rfl (u16 rfl s4_27)))))
                                              have s5_39 := ef 5 he_39 (up_m rfl (u2 rfl (u8 rfl (u16 rfl (u16 rfl s5_27)))))
                                              have s7_39 := ef 7 he_39 (up_m rfl (u2 rfl (u8 rfl (u16 rfl (u16 rfl s7_27)))))
                                              have s9_39 := ef 9 he_39 (up_m rfl (u2 rfl (u8 rfl (u16 rfl (u16 rfl s9_27)))))
                                              have s11_39 := ef 11 he_39 (up_m rfl (u2 rfl (u8 rfl (u16 rfl (u16 rfl s11_27)))))
                                              have s126_39 := ef 126 he_39 up_h
                                              clear he_39
                                              refine then_n ⟨(s126_39).trans (by (refine avb ?_; first | (simp only [hal, hll, hpl]; simp; done) | (simp only [show (0 : Int).toNat = 0 from rfl, hfi]; simp; done) | (simp only [hal]; simp; omega) | (simp; omega) | (exfalso; omega))), (s3_39).trans (s3_27).symm, (s4_39).trans (s4_27).symm, (s5_39).trans (s5_27).symm, (s7_39).trans (s7_27).symm, (s9_39).trans (s9_27).symm, (s11_39).trans (s11_27).symm, rfl⟩)))))
                   · rintro e_28 _ ⟨s126_28, k3_28, k4_28, k5_28, k7_28, k9_28, k11_28, rfl⟩
                     have s3_28 := k3_28.trans s3_27
                     have s4_28 := k4_28.trans s4_27
                     have s5_28 := k5_28.trans s5_27
                     have s7_28 := k7_28.trans s7_27
                     have s9_28 := k9_28.trans s9_27
                     have s11_28 := k11_28.trans s11_27
                     refine aw_case s126_28 (fun hq_40 => ?_) (fun hq_40 => ?_)
                     · skip
                       first
                       | (cases hq_40; done) | ((first | replace hq_40 := bnt hq_40 | replace hq_40 := bnf hq_40 | replace hq_40 := bt hq_40 | replace hq_40 := bf hq_40 | replace hq_40 := bt' hq_40 | replace hq_40 := bf' hq_40 | skip); exfalso; omega) | (first | (simp [hw] at hq_40; done) | (rw [hw2] at hq_40; simp at hq_40; done))
                       | ((first | replace hq_40 := bnt hq_40 | replace hq_40 := bnf hq_40 | replace hq_40 := bt hq_40 | replace hq_40 := bf hq_40 | replace hq_40 := bt' hq_40 | replace hq_40 := bf' hq_40 | skip)
                          refine aw_seq ?_
                          refine aw_text ?_
                          refine al_ro' (ro_assign ev_c) trivial rfl ?_
                          refine al_end (fun e_41 he_41 => ?_)
                          have s6_41 := ef 6 he_41 up_h
                          clear he_41 s11_28 s126_28 s3_28 s4_28 s5_28 s7_28 s9_28
                          refine then_n ?_
                          refine aw_ret ?_
                          refine then_r ?_
                          refine ret1 (.inr rfl) (by kernel_rfl) (resV_tmp s6_41) (.ro _ rfl) ?_
                          clear s6_41 mo2_3 mo1_3 mo0_3 ml_3
                          first | rfl | (simp; done) | (simp_all; done) | omega)
                     · skip
                       first
                       | (cases hq_40; done) | ((first | replace hq_40 := bnt hq_40 | replace hq_40 := bnf hq_40 | replace hq_40 := bt hq_40 | replace hq_40 := bf hq_40 | replace hq_40 := bt' hq_40 | replace hq_40 := bf' hq_40 | skip); exfalso; omega) | (first | (simp [hw] at hq_40; done) | (rw [hw2] at hq_40; simp at hq_40; done))
                       | ((first | replace hq_40 := bnt hq_40 | replace hq_40 := bnf hq_40 | replace hq_40 := bt hq_40 | replace hq_40 := bf hq_40 | replace hq_40 := bt' hq_40 | replace hq_40 := bf' hq_40 | skip)
                          refine aw_skip ?_
                          refine then_n ?_
                          refine aw_seq ?_
                          refine aw_seq ?_
                          refine aw_text ?_
                          refine al_ro' (ro_assign ev_c) trivial rfl ?_
                          refine al_end (fun e_42 he_42 => ?_)
                          have s3_42 := ef 3 he_42 (up_m rfl s3_28)
                          have s4_42 := ef 4 he_42 (up_m rfl s4_28)
                          have s5_42 := ef 5 he_42 (up_m rfl s5_28)
                          have s7_42 := ef 7 he_42 (up_m rfl s7_28)
                          have s9_42 := ef 9 he_42 (up_m rfl s9_28)
                          have s11_42 := ef 11 he_42 (up_m rfl s11_28)
                          have s13_42 := ef 13 he_42 up_h
                          clear he_42 s11_28 s126_28 s3_28 s4_28 s5_28 s7_28 s9_28
                          refine then_n ?_
                          refine aw_block ?_
                          refine aw_loop (S := Int) (fun i e mem => (evA e (.tmp 13) = .v (.int .i64 i)) ∧ (evA e (.tmp 3) = evA e_42 (.tmp 3)) ∧ (evA e (.tmp 4) = evA e_42 (.tmp 4)) ∧ (evA e (.tmp 5) = evA e_42 (.tmp 5)) ∧ (evA e (.tmp 7) = evA e_42 (.tmp 7)) ∧ (evA e (.tmp 9) = evA e_42 (.tmp 9)) ∧ (evA e (.tmp 11) = evA e_42 (.tmp 11)) ∧ (mem[2]? = m_3[2]?) ∧ (mem[1]? = m_3[1]?) ∧ (mem[0]? = m_3[0]?) ∧ (∃ n, mem.length = n ∧ 3 ≤ n) ∧ ((0 ≤ i ∧ i ≤ (stop - post).toNat + 1))) (fun i => ((stop - post).toNat + 1 - i).toNat) _ ⟨s13_42, rfl, rfl, rfl, rfl, rfl, rfl, rfl, rfl, rfl, ⟨_, ml_3, Nat.le_refl _⟩, ?_⟩ ?_
                          · (exact ⟨by omega, by omega⟩)
                          · rintro i e_43 m_43 ⟨s13_43, k3_43, k4_43, k5_43, k7_43, k9_43, k11_43, mk2_43, mk1_43, mk0_43, ⟨n_43, ml_43, hn_43⟩, hinv⟩
                            have s3_43 := k3_43.trans s3_42
                            have s4_43 := k4_43.trans s4_42
                            have s5_43 := k5_43.trans s5_42
                            have s7_43 := k7_43.trans s7_42
                            have s9_43 := k9_43.trans s9_42
                            have s11_43 := k11_43.trans s11_42
                            have mo2_43 := mk2_43.trans mo2_3
                            have mo1_43 := mk1_43.trans mo1_3
                            have mo0_43 := mk0_43.trans mo0_3
                            (obtain ⟨p1, p2⟩ := hinv)
                            refine aw_seq ?_
                            refine aw_seq ?_
                            refine aw_text ?_
                            refine al_ro' (ro_move s13_43) trivial rfl ?_
                            refine al_ro' (ro_move (up_m rfl s7_43)) trivial rfl ?_
                            refine al_ro' (ro_eq (ro_len_row up_h rfl k23_sl30.1) (by first | (simp only [lnS] <;> rfl) | rfl)) trivial rfl ?_
                            refine al_ro' (ro_lss (u2 rfl up_h) up_h) trivial rfl ?_
                            refine al_end (fun e_44 he_44 => ?_)
                            have s3_44 := ef 3 he_44 (u4 rfl s3_43)
                            have s4_44 := ef 4 he_44 (u4 rfl s4_43)
                            have s5_44 := ef 5 he_44 (u4 rfl s5_43)
                            have s7_44 := ef 7 he_44 (u4 rfl s7_43)
                            have s9_44 := ef 9 he_44 (u4 rfl s9_43)
                            have s11_44 := ef 11 he_44 (u4 rfl s11_43)
                            have s13_44 := ef 13 he_44 (u4 rfl s13_43)
                            have s130_44 := ef 130 he_44 up_h
                            clear he_44 s11_43 s13_43 s3_43 s4_43 s5_43 s7_43 s9_43
                            refine then_n ?_
                            refine aw_case s130_44 (fun hq_45 => ?_) (fun hq_45 => ?_)
                            · skip
                              first
                              | (cases hq_45; done) | ((first | replace hq_45 := bnt hq_45 | replace hq_45 := bnf hq_45 | replace hq_45 := bt hq_45 | replace hq_45 := bf hq_45 | replace hq_45 := bt' hq_45 | replace hq_45 := bf' hq_45 | skip); exfalso; omega) | (first | (simp [hw] at hq_45; done) | (rw [hw2] at hq_45; simp at hq_45; done))
                              | ((first | replace hq_45 := bnt hq_45 | replace hq_45 := bnf hq_45 | replace hq_45 := bt hq_45 | replace hq_45 := bf hq_45 | replace hq_45 := bt' hq_45 | replace hq_45 := bf' hq_45 | skip)
                                 (have ho := hon i.toNat (by omega); have hw : withinB ((runW ps b d stop post sq).1.getD i.toNat default) 0 ((liW ps (ps.length + 1)).getD (post + i).toNat default) = true := (by rw [liW_at ps (by omega), show (post + i).toNat = post.toNat + i.toNat by omega]; simp only [withinB, Bool.and_eq_true, decide_eq_true_eq]; omega); have hre : (runW ps b d stop (post + i) ((runW ps b d stop post sq).1.getD i.toNat default)).2 = 0 := (by have := ho.2.2.2.1; rwa [show ((i.toNat : Nat) : Int) = i by omega] at this))
                                 refine aw_skip ?_
                                 refine then_n ?_
                                 refine aw_seq ?_
                                 refine aw_block ?_
                                 refine aw_seq ?_
                                 refine aw_text ?_
                                 refine al_ro' (ro_fld_ptr k23_fl44_0 rfl s5_44) trivial rfl ?_
                                 refine al_ro' (ro_fld_ptr k23_fl42_0 rfl up_h) trivial rfl ?_
                                 refine al_ro' (ro_eq (ro_ld_ptr k23_ty3 rfl mo2_43 up_h (by first | exact Nat.le_of_ble_eq_true rfl | omega | (simp only [lnS] <;> omega) | (simp <;> omega))) (by first | (simp only [packA_t, packA_f, iE, bE, setAt, cellsA, Value.cells, map_vc, map_vn, Nat.reduceAdd, qS] <;> rfl) | rfl)) trivial rfl ?_
                                 refine al_ro' (ro_move (up_m rfl (u2 rfl s13_44))) trivial rfl ?_
                                 first | (refine al_ro' (ro_add' (up_m rfl up_h) up_h ?_) trivial rfl ?_; · (unfold In64; omega)) | refine al_ro' (ro_add (up_m rfl up_h) up_h) trivial rfl ?_
                                 refine al_ro' (ro_assign up_h) trivial rfl ?_
                                 refine al_end (fun e_46 he_46 => ?_)
                                 have s3_46 := ef 3 he_46 (u2 rfl (u4 rfl s3_44))
                                 have s4_46 := ef 4 he_46 (u2 rfl (u4 rfl s4_44))
                                 have s5_46 := ef 5 he_46 (u2 rfl (u4 rfl s5_44))
                                 have s7_46 := ef 7 he_46 (u2 rfl (u4 rfl s7_44))
                                 have s9_46 := ef 9 he_46 (u2 rfl (u4 rfl s9_44))
                                 have s11_46 := ef 11 he_46 (u2 rfl (u4 rfl s11_44))
                                 have s13_46 := ef 13 he_46 (u2 rfl (u4 rfl s13_44))
                                 have s14_46 := ef 14 he_46 up_h
                                 clear he_46 s11_44 s130_44 s13_44 s3_44 s4_44 s5_44 s7_44 s9_44
                                 refine then_n ?_
                                 refine aw_seq ?_
                                 refine aw_seq ?_
                                 refine aw_draw 10 (by kernel_rfl) (by kernel_rfl) (by kernel_rfl) ?_
                                 refine ds_ro' (ro_move s7_46) trivial rfl ?_
                                 refine ds_ro' (ro_move (up_m rfl s13_46)) trivial rfl ?_
                                 refine ds_ro' (ro_eq (ro_ix k23_sl30 (up_m rfl up_h) up_h (by first | decide | omega | (simp <;> omega)) (by first | (refine idx_map ?_; first | omega | (simp only [lnS]; omega)) | (refine idx_mapI ?_; first | omega | (simp only [lnS]; omega)) | (refine idx_mapN ?_; first | omega | (simp only [lnS]; omega)) | rfl)) (by first | (simp only [packA_t, packA_f, iE, bE, setAt, cellsA, Value.cells, map_vc, map_vn, Nat.reduceAdd, qS] <;> rfl) | rfl)) trivial rfl ?_
                                 refine ds_ro' (ro_eq (ro_ld_ref k23_ty3 rfl up_h (by first | exact Nat.le_of_ble_eq_true rfl | omega | (simp only [lnS] <;> omega) | (simp <;> omega))) (by first | (simp only [packA_t, packA_f, iE, bE, setAt, cellsA, Value.cells, map_vc, map_vn, Nat.reduceAdd, qS] <;> rfl) | rfl)) trivial rfl ?_
                                 refine ds_ro' (ro_move (u4 rfl s9_46)) trivial rfl ?_
                                 refine ds_ro' (ro_move (up_m rfl (u4 rfl s14_46))) trivial rfl ?_
                                 refine ds_ro' (ro_eq (ro_ix k23_sl30 (up_m rfl up_h) up_h (by first | decide | omega | (simp <;> omega)) (by first | (refine idx_map ?_; first | omega | (simp only [lnS]; omega)) | (refine idx_mapI ?_; first | omega | (simp only [lnS]; omega)) | (refine idx_mapN ?_; first | omega | (simp only [lnS]; omega)) | rfl)) (by first | (simp only [packA_t, packA_f, iE, bE, setAt, cellsA, Value.cells, map_vc, map_vn, Nat.reduceAdd, qS] <;> rfl) | rfl)) trivial rfl ?_
                                 refine ds_ro' (ro_eq (ro_ld_ref k23_ty3 rfl up_h (by first | exact Nat.le_of_ble_eq_true rfl | omega | (simp only [lnS] <;> omega) | (simp <;> omega))) (by first | (simp only [packA_t, packA_f, iE, bE, setAt, cellsA, Value.cells, map_vc, map_vn, Nat.reduceAdd, qS] <;> rfl) | rfl)) trivial rfl ?_
                                 refine ds_ro' (ro_call (evL_cons (u4 rfl up_h) (evL_cons ev_c (evL_cons up_h evL_nil))) rfl (bWithin_ok _ _ _) k23_hcf20) trivial rfl ?_
                                 refine ds_ro' (ro_not up_h) trivial rfl ?_
                                 refine ds_nil ?_
                                 refine al_end (fun e_47 he_47 => ?_)
                                 have s3_47 := ef 3 he_47 (u2 rfl (u8 rfl s3_46))
                                 have s4_47 := ef 4 he_47 (u2 rfl (u8 rfl s4_46))
                                 have s5_47 := ef 5 he_47 (u2 rfl (u8 rfl s5_46))
                                 have s7_47 := ef 7 he_47 (u2 rfl (u8 rfl s7_46))
                                 have s9_47 := ef 9 he_47 (u2 rfl (u8 rfl s9_46))
                                 have s11_47 := ef 11 he_47 (u2 rfl (u8 rfl s11_46))
                                 have s13_47 := ef 13 he_47 (u2 rfl (u8 rfl s13_46))
                                 have s14_47 := ef 14 he_47 (u2 rfl (u8 rfl s14_46))
                                 have s147_47 := ef 147 he_47 up_h
                                 clear he_47 s11_46 s13_46 s14_46 s3_46 s4_46 s5_46 s7_46 s9_46
                                 refine then_n ?_
                                 refine aw_case s147_47 (fun hq_48 => ?_) (fun hq_48 => ?_)
                                 · skip
                                   first
                                   | (cases hq_48; done) | ((first | replace hq_48 := bnt hq_48 | replace hq_48 := bnf hq_48 | replace hq_48 := bt hq_48 | replace hq_48 := bf hq_48 | replace hq_48 := bt' hq_48 | replace hq_48 := bf' hq_48 | skip); exfalso; omega) | (first | (simp [hw] at hq_48; done) | (rw [hw2] at hq_48; simp at hq_48; done))
                                   | ((first | replace hq_48 := bnt hq_48 | replace hq_48 := bnf hq_48 | replace hq_48 := bt hq_48 | replace hq_48 := bf hq_48 | replace hq_48 := bt' hq_48 | replace hq_48 := bf' hq_48 | skip)
                                      refine aw_seq ?_
                                      refine aw_text ?_
                                      refine al_ro' (ro_assign ev_c) trivial rfl ?_
                                      refine al_end (fun e_49 he_49 => ?_)
                                      have s6_49 := ef 6 he_49 up_h
                                      clear he_49 s11_47 s13_47 s147_47 s14_47 s3_47 s4_47 s5_47 s7_47 s9_47
                                      refine then_n ?_
                                      refine aw_ret ?_
                                      refine then_r ?_
                                      refine block_r ?_
                                      refine then_r ?_
                                      refine then_r ?_
                                      refine block_r ?_
                                      refine then_r ?_
                                      refine ret1 (.inr rfl) (by kernel_rfl) (resV_tmp s6_49) (.ro _ rfl) ?_
                                      clear s6_49 mo2_43 mo1_43 mo0_43 ml_43
                                      first | rfl | (simp; done) | (simp_all; done) | omega)
                                 · skip
                                   first
                                   | (cases hq_48; done) | ((first | replace hq_48 := bnt hq_48 | replace hq_48 := bnf hq_48 | replace hq_48 := bt hq_48 | replace hq_48 := bf hq_48 | replace hq_48 := bt' hq_48 | replace hq_48 := bf' hq_48 | skip); exfalso; omega) | (first | (simp [hw] at hq_48; done) | (rw [hw2] at hq_48; simp at hq_48; done))
                                   | ((first | replace hq_48 := bnt hq_48 | replace hq_48 := bnf hq_48 | replace hq_48 := bt hq_48 | replace hq_48 := bf hq_48 | replace hq_48 := bt' hq_48 | replace hq_48 := bf' hq_48 | skip)
                                      refine aw_skip ?_
                                      refine then_n ?_
                                      refine aw_seq ?_
                                      refine aw_draw 17 (by kernel_rfl) (by kernel_rfl) (by kernel_rfl) ?_
                                      refine ds_ro' (ro_eq (ro_ld_ptr k23_ty24 rfl mo0_43 s3_47 (by first | exact Nat.le_of_ble_eq_true rfl | omega | (simp only [lnS] <;> omega) | (simp <;> omega))) (by first | (simp only [packA_t, packA_f, iE, bE, setAt, cellsA, Value.cells, map_vc, map_vn, Nat.reduceAdd, qS] <;> rfl) | rfl)) trivial rfl ?_
                                      refine ds_ro' (ro_call (evL_cons up_h evL_nil) rfl (rCopy_ok nm ps (by omega)) k23_hcf18) trivial rfl ?_
                                      refine ds_ro' (ro_eq (ro_ld_ptr k23_ty26 rfl mo1_43 (u2 rfl s4_47) (by first | exact Nat.le_of_ble_eq_true rfl | omega | (simp only [lnS] <;> omega) | (simp <;> omega))) (by first | (simp only [packA_t, packA_f, iE, bE, setAt, cellsA, Value.cells, map_vc, map_vn, Nat.reduceAdd, qS] <;> rfl) | rfl)) trivial rfl ?_
                                      refine ds_ro' (ro_move (up_m rfl (u2 rfl s14_47))) trivial rfl ?_
                                      refine ds_ro' (ro_move (u4 rfl s7_47)) trivial rfl ?_
                                      refine ds_ro' (ro_move (up_m rfl (u4 rfl s13_47))) trivial rfl ?_
                                      refine ds_ro' (ro_eq (ro_ix k23_sl30 (up_m rfl up_h) up_h (by first | decide | omega | (simp <;> omega)) (by first | (refine idx_map ?_; first | omega | (simp only [lnS]; omega)) | (refine idx_mapI ?_; first | omega | (simp only [lnS]; omega)) | (refine idx_mapN ?_; first | omega | (simp only [lnS]; omega)) | rfl)) (by first | (simp only [packA_t, packA_f, iE, bE, setAt, cellsA, Value.cells, map_vc, map_vn, Nat.reduceAdd, qS] <;> rfl) | rfl)) trivial rfl ?_
                                      refine ds_ro' (ro_eq (ro_ld_ref k23_ty3 rfl up_h (by first | exact Nat.le_of_ble_eq_true rfl | omega | (simp only [lnS] <;> omega) | (simp <;> omega))) (by first | (simp only [packA_t, packA_f, iE, bE, setAt, cellsA, Value.cells, map_vc, map_vn, Nat.reduceAdd, qS] <;> rfl) | rfl)) trivial rfl ?_
                                      refine ds_ro' (ro_build (evP_cons (u4 rfl up_h) (evP_cons up_h evP_nil)) k23_bz42 k23_bu42 k23_bp42 rfl) trivial rfl ?_
                                      refine ds_ro' (ro_fld_ptr k23_fl44_1 rfl (up_m rfl (u8 rfl s5_47))) trivial rfl ?_
                                      refine ds_ro' (ro_eq (ro_ld_ptr k23_ty3 rfl mo2_43 up_h (by first | exact Nat.le_of_ble_eq_true rfl | omega | (simp only [lnS] <;> omega) | (simp <;> omega))) (by first | (simp only [packA_t, packA_f, iE, bE, setAt, cellsA, Value.cells, map_vc, map_vn, Nat.reduceAdd, qS] <;> rfl) | rfl)) trivial rfl ?_
                                      refine ds_ro' (ro_call (evL_cons (up_m rfl (u8 rfl up_h)) (evL_cons (u8 rfl up_h) (evL_cons (u2 rfl up_h) (evL_cons up_h evL_nil)))) rfl (reaches3_ok hs hp (runE_at hR.1 (by omega) (by omega) (by omega))) k23_hcf23) trivial rfl ?_
                                      refine ds_ro' (ro_move up_h) trivial rfl ?_
                                      refine ds_ro' (ro_extract up_h rfl) trivial rfl ?_
                                      refine ds_ro' (ro_extract (up_m rfl up_h) rfl) trivial rfl ?_
                                      refine ds_ro' (ro_assign (up_m rfl up_h)) trivial rfl ?_
                                      refine ds_ro' (ro_assign (up_m rfl up_h)) trivial rfl ?_
                                      refine ds_nil ?_
                                      refine al_end (fun e_50 he_50 => ?_)
                                      have s3_50 := ef 3 he_50 (up_m rfl (u16 rfl s3_47))
                                      have s4_50 := ef 4 he_50 (up_m rfl (u16 rfl s4_47))
                                      have s5_50 := ef 5 he_50 (up_m rfl (u16 rfl s5_47))
                                      have s7_50 := ef 7 he_50 (up_m rfl (u16 rfl s7_47))
                                      have s9_50 := ef 9 he_50 (up_m rfl (u16 rfl s9_47))
                                      have s11_50 := ef 11 he_50 (up_m rfl (u16 rfl s11_47))
                                      have s13_50 := ef 13 he_50 (up_m rfl (u16 rfl s13_47))
                                      have s14_50 := ef 14 he_50 (up_m rfl (u16 rfl s14_47))
                                      have s15_50 := ef 15 he_50 (up_m rfl up_h)
                                      have s16_50 := ef 16 he_50 up_h
                                      clear he_50 s11_47 s13_47 s147_47 s14_47 s3_47 s4_47 s5_47 s7_47 s9_47
                                      refine then_n ?_
                                      refine aw_seq ?_
                                      refine aw_seq ?_
                                      refine aw_cut (fun e mem => (evA e (.tmp 168) = .v (.bool false)) ∧ (evA e (.tmp 3) = evA e_50 (.tmp 3)) ∧ (evA e (.tmp 4) = evA e_50 (.tmp 4)) ∧ (evA e (.tmp 5) = evA e_50 (.tmp 5)) ∧ (evA e (.tmp 7) = evA e_50 (.tmp 7)) ∧ (evA e (.tmp 9) = evA e_50 (.tmp 9)) ∧ (evA e (.tmp 11) = evA e_50 (.tmp 11)) ∧ (evA e (.tmp 13) = evA e_50 (.tmp 13)) ∧ (evA e (.tmp 14) = evA e_50 (.tmp 14)) ∧ m_43 = mem) ?_ ?_
                                      ·
                                        refine aw_text ?_
                                        refine al_ro' (ro_move s16_50) trivial rfl ?_
                                        refine al_ro' (ro_neq up_h ev_c) trivial rfl ?_
                                        refine al_ro' (ro_move up_h) trivial rfl ?_
                                        refine al_case up_h (fun hb_52 hq_52 => ?_) (fun hb_52 hq_52 => ?_)
                                        · skip
                                          first
                                          | (cases hq_52; done) | ((first | replace hq_52 := bnt hq_52 | replace hq_52 := bnf hq_52 | replace hq_52 := bt hq_52 | replace hq_52 := bf hq_52 | replace hq_52 := bt' hq_52 | replace hq_52 := bf' hq_52 | skip); exfalso; omega) | (first | (simp [hw] at hq_52; done) | (rw [hw2] at hq_52; simp at hq_52; done))
                                          | ((first | replace hq_52 := bnt hq_52 | replace hq_52 := bnf hq_52 | replace hq_52 := bt hq_52 | replace hq_52 := bf hq_52 | replace hq_52 := bt' hq_52 | replace hq_52 := bf' hq_52 | skip)
                                             refine al_skip' ⟨_, rfl, .inl hb_52⟩ rfl ?_
                                             refine al_skip' ⟨_, rfl, .inl (up_m rfl hb_52)⟩ rfl ?_
                                             refine al_ro' (ro_pickT (u2 rfl hb_52) ev_c) trivial rfl ?_
                                             refine al_end (fun e_53 he_53 => ?_)
                                             have s3_53 := ef 3 he_53 (u2 rfl (u4 rfl s3_50))
                                             have s4_53 := ef 4 he_53 (u2 rfl (u4 rfl s4_50))
                                             have s5_53 := ef 5 he_53 (u2 rfl (u4 rfl s5_50))
                                             have s7_53 := ef 7 he_53 (u2 rfl (u4 rfl s7_50))
                                             have s9_53 := ef 9 he_53 (u2 rfl (u4 rfl s9_50))
                                             have s11_53 := ef 11 he_53 (u2 rfl (u4 rfl s11_50))
                                             have s13_53 := ef 13 he_53 (u2 rfl (u4 rfl s13_50))
                                             have s14_53 := ef 14 he_53 (u2 rfl (u4 rfl s14_50))
                                             have s168_53 := ef 168 he_53 up_h
                                             clear he_53
                                             refine then_n ⟨(s168_53).trans (by (refine avb ?_; first | (simp only [hre]; simp; done) | (simp; done))), (s3_53).trans (s3_50).symm, (s4_53).trans (s4_50).symm, (s5_53).trans (s5_50).symm, (s7_53).trans (s7_50).symm, (s9_53).trans (s9_50).symm, (s11_53).trans (s11_50).symm, (s13_53).trans (s13_50).symm, (s14_53).trans (s14_50).symm, rfl⟩)
                                        · skip
                                          first
                                          | (cases hq_52; done) | ((first | replace hq_52 := bnt hq_52 | replace hq_52 := bnf hq_52 | replace hq_52 := bt hq_52 | replace hq_52 := bf hq_52 | replace hq_52 := bt' hq_52 | replace hq_52 := bf' hq_52 | skip); exfalso; omega) | (first | (simp [hw] at hq_52; done) | (rw [hw2] at hq_52; simp at hq_52; done))
                                          | ((first | replace hq_52 := bnt hq_52 | replace hq_52 := bnf hq_52 | replace hq_52 := bt hq_52 | replace hq_52 := bf hq_52 | replace hq_52 := bt' hq_52 | replace hq_52 := bf' hq_52 | skip)
                                             refine al_ro' (ro_move (up_m rfl (u2 rfl s15_50))) ⟨_, rfl, hb_52⟩ rfl ?_
                                             refine al_ro' (ro_not up_h) ⟨_, rfl, (up_m rfl hb_52)⟩ rfl ?_
                                             refine al_ro' (ro_pickF (u2 rfl hb_52) up_h) trivial rfl ?_
                                             refine al_end (fun e_54 he_54 => ?_)
                                             have s3_54 := ef 3 he_54 (u2 rfl (u4 rfl s3_50))
                                             have s4_54 := ef 4 he_54 (u2 rfl (u4 rfl s4_50))
                                             have s5_54 := ef 5 he_54 (u2 rfl (u4 rfl s5_50))
                                             have s7_54 := ef 7 he_54 (u2 rfl (u4 rfl s7_50))
                                             have s9_54 := ef 9 he_54 (u2 rfl (u4 rfl s9_50))
                                             have s11_54 := ef 11 he_54 (u2 rfl (u4 rfl s11_50))
                                             have s13_54 := ef 13 he_54 (u2 rfl (u4 rfl s13_50))
                                             have s14_54 := ef 14 he_54 (u2 rfl (u4 rfl s14_50))
                                             have s168_54 := ef 168 he_54 up_h
                                             clear he_54
                                             refine then_n ⟨(s168_54).trans (by (refine avb ?_; first | (simp only [hre]; simp; done) | (simp; done))), (s3_54).trans (s3_50).symm, (s4_54).trans (s4_50).symm, (s5_54).trans (s5_50).symm, (s7_54).trans (s7_50).symm, (s9_54).trans (s9_50).symm, (s11_54).trans (s11_50).symm, (s13_54).trans (s13_50).symm, (s14_54).trans (s14_50).symm, rfl⟩)
                                      · rintro e_51 _ ⟨s168_51, k3_51, k4_51, k5_51, k7_51, k9_51, k11_51, k13_51, k14_51, rfl⟩
                                        have s3_51 := k3_51.trans s3_50
                                        have s4_51 := k4_51.trans s4_50
                                        have s5_51 := k5_51.trans s5_50
                                        have s7_51 := k7_51.trans s7_50
                                        have s9_51 := k9_51.trans s9_50
                                        have s11_51 := k11_51.trans s11_50
                                        have s13_51 := k13_51.trans s13_50
                                        have s14_51 := k14_51.trans s14_50
                                        refine aw_case s168_51 (fun hq_55 => ?_) (fun hq_55 => ?_)
                                        · skip
                                          first
                                          | (cases hq_55; done) | ((first | replace hq_55 := bnt hq_55 | replace hq_55 := bnf hq_55 | replace hq_55 := bt hq_55 | replace hq_55 := bf hq_55 | replace hq_55 := bt' hq_55 | replace hq_55 := bf' hq_55 | skip); exfalso; omega) | (first | (simp [hw] at hq_55; done) | (rw [hw2] at hq_55; simp at hq_55; done))
                                          | ((first | replace hq_55 := bnt hq_55 | replace hq_55 := bnf hq_55 | replace hq_55 := bt hq_55 | replace hq_55 := bf hq_55 | replace hq_55 := bt' hq_55 | replace hq_55 := bf' hq_55 | skip)
                                             refine aw_seq ?_
                                             refine aw_text ?_
                                             refine al_ro' (ro_assign ev_c) trivial rfl ?_
                                             refine al_end (fun e_56 he_56 => ?_)
                                             have s6_56 := ef 6 he_56 up_h
                                             clear he_56 s11_51 s13_51 s14_51 s168_51 s3_51 s4_51 s5_51 s7_51 s9_51
                                             refine then_n ?_
                                             refine aw_ret ?_
                                             refine then_r ?_
                                             refine block_r ?_
                                             refine then_r ?_
                                             refine then_r ?_
                                             refine block_r ?_
                                             refine then_r ?_
                                             refine ret1 (.inr rfl) (by kernel_rfl) (resV_tmp s6_56) (.ro _ rfl) ?_
                                             clear s6_56 mo2_43 mo1_43 mo0_43 ml_43
                                             first | rfl | (simp; done) | (simp_all; done) | omega)
                                        · skip
                                          first
                                          | (cases hq_55; done) | ((first | replace hq_55 := bnt hq_55 | replace hq_55 := bnf hq_55 | replace hq_55 := bt hq_55 | replace hq_55 := bf hq_55 | replace hq_55 := bt' hq_55 | replace hq_55 := bf' hq_55 | skip); exfalso; omega) | (first | (simp [hw] at hq_55; done) | (rw [hw2] at hq_55; simp at hq_55; done))
                                          | ((first | replace hq_55 := bnt hq_55 | replace hq_55 := bnf hq_55 | replace hq_55 := bt hq_55 | replace hq_55 := bf hq_55 | replace hq_55 := bt' hq_55 | replace hq_55 := bf' hq_55 | skip)
                                             refine aw_skip ?_
                                             refine then_n ?_
                                             refine aw_seq ?_
                                             refine aw_seq ?_
                                             refine aw_text ?_
                                             refine al_ro' (ro_move s13_51) trivial rfl ?_
                                             refine al_ro' (ro_eql up_h ev_c) trivial rfl ?_
                                             refine al_end (fun e_57 he_57 => ?_)
                                             have s3_57 := ef 3 he_57 (u2 rfl s3_51)
                                             have s4_57 := ef 4 he_57 (u2 rfl s4_51)
                                             have s5_57 := ef 5 he_57 (u2 rfl s5_51)
                                             have s7_57 := ef 7 he_57 (u2 rfl s7_51)
                                             have s9_57 := ef 9 he_57 (u2 rfl s9_51)
                                             have s11_57 := ef 11 he_57 (u2 rfl s11_51)
                                             have s13_57 := ef 13 he_57 (u2 rfl s13_51)
                                             have s14_57 := ef 14 he_57 (u2 rfl s14_51)
                                             have s170_57 := ef 170 he_57 up_h
                                             clear he_57 s11_51 s13_51 s14_51 s168_51 s3_51 s4_51 s5_51 s7_51 s9_51
                                             refine then_n ?_
                                             refine aw_case s170_57 (fun hq_58 => ?_) (fun hq_58 => ?_)
                                             · skip
                                               first
                                               | (cases hq_58; done) | ((first | replace hq_58 := bnt hq_58 | replace hq_58 := bnf hq_58 | replace hq_58 := bt hq_58 | replace hq_58 := bf hq_58 | replace hq_58 := bt' hq_58 | replace hq_58 := bf' hq_58 | skip); exfalso; omega) | (first | (simp [hw] at hq_58; done) | (rw [hw2] at hq_58; simp at hq_58; done))
                                               | ((first | replace hq_58 := bnt hq_58 | replace hq_58 := bnf hq_58 | replace hq_58 := bt hq_58 | replace hq_58 := bf hq_58 | replace hq_58 := bt' hq_58 | replace hq_58 := bf' hq_58 | skip)
                                                  refine aw_exit ?_
                                                  refine then_x ?_
                                                  refine block_hit ?_
                                                  refine then_n ?_
                                                  refine aw_text ?_
                                                  refine al_ro' (ro_move s13_57) trivial rfl ?_
                                                  first | (refine al_ro' (ro_add' up_h ev_c ?_) trivial rfl ?_; · (unfold In64; omega)) | refine al_ro' (ro_add up_h ev_c) trivial rfl ?_
                                                  refine al_ro' (ro_assign up_h) trivial rfl ?_
                                                  refine al_end (fun e_59 he_59 => ?_)
                                                  have s3_59 := ef 3 he_59 (up_m rfl (u2 rfl s3_57))
                                                  have s4_59 := ef 4 he_59 (up_m rfl (u2 rfl s4_57))
                                                  have s5_59 := ef 5 he_59 (up_m rfl (u2 rfl s5_57))
                                                  have s7_59 := ef 7 he_59 (up_m rfl (u2 rfl s7_57))
                                                  have s9_59 := ef 9 he_59 (up_m rfl (u2 rfl s9_57))
                                                  have s11_59 := ef 11 he_59 (up_m rfl (u2 rfl s11_57))
                                                  have s13_59 := ef 13 he_59 up_h
                                                  clear he_59 s11_57 s13_57 s14_57 s170_57 s3_57 s4_57 s5_57 s7_57 s9_57
                                                  refine then_n ?_
                                                  refine ⟨_, ⟨s13_59, (s3_59.trans s3_42.symm), (s4_59.trans s4_42.symm), (s5_59.trans s5_42.symm), (s7_59.trans s7_42.symm), (s9_59.trans s9_42.symm), (s11_59.trans s11_42.symm), (mo2_43.trans mo2_3.symm), (mo1_43.trans mo1_3.symm), (mo0_43.trans mo0_3.symm), ⟨_, ml_43, by omega⟩, ?_⟩, ?_⟩
                                                  · (exact ⟨by omega, by omega⟩)
                                                  · ((try dsimp only); omega))
                                             · skip
                                               first
                                               | (cases hq_58; done) | ((first | replace hq_58 := bnt hq_58 | replace hq_58 := bnf hq_58 | replace hq_58 := bt hq_58 | replace hq_58 := bf hq_58 | replace hq_58 := bt' hq_58 | replace hq_58 := bf' hq_58 | skip); exfalso; omega) | (first | (simp [hw] at hq_58; done) | (rw [hw2] at hq_58; simp at hq_58; done))
                                               | ((first | replace hq_58 := bnt hq_58 | replace hq_58 := bnf hq_58 | replace hq_58 := bt hq_58 | replace hq_58 := bf hq_58 | replace hq_58 := bt' hq_58 | replace hq_58 := bf' hq_58 | skip)
                                                  (have hoK := ho.2.2.2.2 (i - 1).toNat (by omega); rw [show post.toNat + (i - 1).toNat = (post + i - 1).toNat by omega] at hoK; have hpv := hon (i - 1).toNat (by omega); have b1 := los_bound3 hok (post + i - 1).toNat (x := v) (by omega); have b2 := los_bound2 hok (post + i - 1).toNat (x := b) (by omega); have b3 := hok.at (post + i - 1).toNat)
                                                  refine aw_skip ?_
                                                  refine then_n ?_
                                                  refine aw_seq ?_
                                                  refine aw_text ?_
                                                  refine al_ro' (ro_fld_ptr k23_fl24_1 rfl s3_57) trivial rfl ?_
                                                  refine al_ro' (ro_eq (ro_ld_ptr k23_ty22 rfl mo0_43 up_h (by first | exact Nat.le_of_ble_eq_true rfl | omega | (simp only [lnS] <;> omega) | (simp <;> omega))) (by first | (simp only [packA_t, packA_f, iE, bE, setAt, cellsA, Value.cells, map_vc, map_vn, Nat.reduceAdd, qS] <;> rfl) | rfl)) trivial rfl ?_
                                                  refine al_ro' (ro_move (u2 rfl s14_57)) trivial rfl ?_
                                                  first | (refine al_ro' (ro_sub' up_h ev_c ?_) trivial rfl ?_; · (unfold In64; omega)) | refine al_ro' (ro_sub up_h ev_c) trivial rfl ?_
                                                  refine al_ro' (ro_eq (ro_ix k23_sl22 (u2 rfl up_h) up_h (by first | decide | omega | (simp <;> omega)) (by first | (refine idx_map ?_; first | omega | (simp only [lnS]; omega)) | (refine idx_mapI ?_; first | omega | (simp only [lnS]; omega)) | (refine idx_mapN ?_; first | omega | (simp only [lnS]; omega)) | rfl)) (by first | (simp only [packA_t, packA_f, iE, bE, setAt, cellsA, Value.cells, map_vc, map_vn, Nat.reduceAdd, qS] <;> rfl) | rfl)) trivial rfl ?_
                                                  refine al_ro' (ro_eq (ro_ld_ref k23_ty66 rfl up_h (by first | exact Nat.le_of_ble_eq_true rfl | omega | (simp only [lnS] <;> omega) | (simp <;> omega))) (by first | (simp only [packA_t, packA_f, iE, bE, setAt, cellsA, Value.cells, map_vc, map_vn, Nat.reduceAdd, qS] <;> rfl) | rfl)) trivial rfl ?_
                                                  refine al_stm (st_alloc k23_az66 rfl ml_43) trivial rfl (fun m_60 hm_60 => ?_)
                                                  have mon_43_60 := m_push hm_60 ml_43
                                                  (try simp only [packA_t, packA_f, iE, bE, setAt, cellsA, Value.cells, map_vc, map_vn, Nat.reduceAdd, qS] at mon_43_60)
                                                  have mo2_60 := m_push_o hm_60 mo2_43
                                                  have mo1_60 := m_push_o hm_60 mo1_43
                                                  have mo0_60 := m_push_o hm_60 mo0_43
                                                  have ml_60 := m_push_l hm_60 ml_43
                                                  clear hm_60 mo2_43 mo1_43 mo0_43
                                                  refine al_stm (st_store up_h (up_m rfl up_h) rfl rfl mon_43_60 k23_sz66 rfl (by first | exact Nat.le_of_ble_eq_true rfl | omega | (simp only [lnS] <;> omega) | (simp <;> omega))) trivial rfl (fun m_61 hm_61 => ?_)
                                                  have mon_43_61 := m_set hm_61 mon_43_60
                                                  (try simp only [packA_t, packA_f, iE, bE, setAt, cellsA, Value.cells, map_vc, map_vn, Nat.reduceAdd, qS] at mon_43_61)
                                                  have mo2_61 := m_set_o hm_61 mo2_60 (by omega)
                                                  have mo1_61 := m_set_o hm_61 mo1_60 (by omega)
                                                  have mo0_61 := m_set_o hm_61 mo0_60 (by omega)
                                                  have ml_61 := m_set_l hm_61 ml_60
                                                  clear hm_61 mon_43_60 mo2_60 mo1_60 mo0_60
                                                  refine al_end (fun e_62 he_62 => ?_)
                                                  have s3_62 := ef 3 he_62 (up_n (up_m rfl (u2 rfl (u4 rfl s3_57))))
                                                  have s4_62 := ef 4 he_62 (up_n (up_m rfl (u2 rfl (u4 rfl s4_57))))
                                                  have s5_62 := ef 5 he_62 (up_n (up_m rfl (u2 rfl (u4 rfl s5_57))))
                                                  have s7_62 := ef 7 he_62 (up_n (up_m rfl (u2 rfl (u4 rfl s7_57))))
                                                  have s9_62 := ef 9 he_62 (up_n (up_m rfl (u2 rfl (u4 rfl s9_57))))
                                                  have s11_62 := ef 11 he_62 (up_n (up_m rfl (u2 rfl (u4 rfl s11_57))))
                                                  have s13_62 := ef 13 he_62 (up_n (up_m rfl (u2 rfl (u4 rfl s13_57))))
                                                  have s17_62 := ef 17 he_62 (up_n up_h)
                                                  clear he_62 s11_57 s13_57 s14_57 s170_57 s3_57 s4_57 s5_57 s7_57 s9_57
                                                  refine then_n ?_
                                                  refine aw_seq ?_
                                                  refine aw_cut (fun e mem => (evA e (.tmp 220) = .v (.bool false)) ∧ (evA e (.tmp 3) = evA e_62 (.tmp 3)) ∧ (evA e (.tmp 4) = evA e_62 (.tmp 4)) ∧ (evA e (.tmp 5) = evA e_62 (.tmp 5)) ∧ (evA e (.tmp 7) = evA e_62 (.tmp 7)) ∧ (evA e (.tmp 9) = evA e_62 (.tmp 9)) ∧ (evA e (.tmp 11) = evA e_62 (.tmp 11)) ∧ (evA e (.tmp 13) = evA e_62 (.tmp 13)) ∧ m_61 = mem) ?_ ?_
                                                  ·
                                                    refine aw_draw 44 (by kernel_rfl) (by kernel_rfl) (by kernel_rfl) ?_
                                                    refine ds_ro' (ro_move s7_62) trivial rfl ?_
                                                    refine ds_ro' (ro_move (up_m rfl s13_62)) trivial rfl ?_
                                                    refine ds_ro' (ro_eq (ro_ix k23_sl30 (up_m rfl up_h) up_h (by first | decide | omega | (simp <;> omega)) (by first | (refine idx_map ?_; first | omega | (simp only [lnS]; omega)) | (refine idx_mapI ?_; first | omega | (simp only [lnS]; omega)) | (refine idx_mapN ?_; first | omega | (simp only [lnS]; omega)) | rfl)) (by first | (simp only [packA_t, packA_f, iE, bE, setAt, cellsA, Value.cells, map_vc, map_vn, Nat.reduceAdd, qS] <;> rfl) | rfl)) trivial rfl ?_
                                                    refine ds_ro' (ro_eq (ro_ld_ref k23_ty3 rfl up_h (by first | exact Nat.le_of_ble_eq_true rfl | omega | (simp only [lnS] <;> omega) | (simp <;> omega))) (by first | (simp only [packA_t, packA_f, iE, bE, setAt, cellsA, Value.cells, map_vc, map_vn, Nat.reduceAdd, qS] <;> rfl) | rfl)) trivial rfl ?_
                                                    refine ds_ro' (ro_move (u4 rfl s7_62)) trivial rfl ?_
                                                    refine ds_ro' (ro_move (up_m rfl (u4 rfl s13_62))) trivial rfl ?_
                                                    first | (refine ds_ro' (ro_sub' up_h ev_c ?_) trivial rfl ?_; · (unfold In64; omega)) | refine ds_ro' (ro_sub up_h ev_c) trivial rfl ?_
                                                    refine ds_ro' (ro_eq (ro_ix k23_sl30 (u2 rfl up_h) up_h (by first | decide | omega | (simp <;> omega)) (by first | (refine idx_map ?_; first | omega | (simp only [lnS]; omega)) | (refine idx_mapI ?_; first | omega | (simp only [lnS]; omega)) | (refine idx_mapN ?_; first | omega | (simp only [lnS]; omega)) | rfl)) (by first | (simp only [packA_t, packA_f, iE, bE, setAt, cellsA, Value.cells, map_vc, map_vn, Nat.reduceAdd, qS] <;> rfl) | rfl)) trivial rfl ?_
                                                    refine ds_ro' (ro_eq (ro_ld_ref k23_ty3 rfl up_h (by first | exact Nat.le_of_ble_eq_true rfl | omega | (simp only [lnS] <;> omega) | (simp <;> omega))) (by first | (simp only [packA_t, packA_f, iE, bE, setAt, cellsA, Value.cells, map_vc, map_vn, Nat.reduceAdd, qS] <;> rfl) | rfl)) trivial rfl ?_
                                                    refine ds_ro' (ro_fld_ptr k23_fl26_2 rfl (up_m rfl (u8 rfl s4_62))) trivial rfl ?_
                                                    refine ds_ro' (ro_eq (ro_ld_ptr k23_ty3 rfl mo1_61 up_h (by first | exact Nat.le_of_ble_eq_true rfl | omega | (simp only [lnS] <;> omega) | (simp <;> omega))) (by first | (simp only [packA_t, packA_f, iE, bE, setAt, cellsA, Value.cells, map_vc, map_vn, Nat.reduceAdd, qS] <;> rfl) | rfl)) trivial rfl ?_
                                                    refine ds_ro' (ro_fld_ptr k23_fl66_1 rfl (up_m rfl (u2 rfl (u8 rfl s17_62)))) trivial rfl ?_
                                                    refine ds_ro' (ro_eq (ro_ld_ptr k23_ty3 rfl mon_43_61 up_h (by first | exact Nat.le_of_ble_eq_true rfl | omega | (simp only [lnS] <;> omega) | (simp <;> omega))) (by first | (simp only [packA_t, packA_f, iE, bE, setAt, cellsA, Value.cells, map_vc, map_vn, Nat.reduceAdd, qS] <;> rfl) | rfl)) trivial rfl ?_
                                                    first | (refine ds_ro' (ro_mul' ev_c up_h ?_) trivial rfl ?_; · (unfold In64; omega)) | refine ds_ro' (ro_mul ev_c up_h) trivial rfl ?_
                                                    first | (refine ds_ro' (ro_sub' (up_m rfl (u2 rfl up_h)) up_h ?_) trivial rfl ?_; · (unfold In64; omega)) | refine ds_ro' (ro_sub (up_m rfl (u2 rfl up_h)) up_h) trivial rfl ?_
                                                    first | (refine ds_ro' (ro_mul' ev_c up_h ?_) trivial rfl ?_; · (unfold In64; omega)) | refine ds_ro' (ro_mul ev_c up_h) trivial rfl ?_
                                                    refine ds_ro' (ro_fld_ptr k23_fl66_0 rfl (u16 rfl s17_62)) trivial rfl ?_
                                                    refine ds_ro' (ro_eq (ro_ld_ptr k23_ty3 rfl mon_43_61 up_h (by first | exact Nat.le_of_ble_eq_true rfl | omega | (simp only [lnS] <;> omega) | (simp <;> omega))) (by first | (simp only [packA_t, packA_f, iE, bE, setAt, cellsA, Value.cells, map_vc, map_vn, Nat.reduceAdd, qS] <;> rfl) | rfl)) trivial rfl ?_
                                                    first | (refine ds_ro' (ro_mul' (u2 rfl up_h) up_h ?_) trivial rfl ?_; · (unfold In64; omega)) | refine ds_ro' (ro_mul (u2 rfl up_h) up_h) trivial rfl ?_
                                                    first | (refine ds_ro' (ro_add' (u2 rfl (u8 rfl up_h)) up_h ?_) trivial rfl ?_; · (unfold In64; omega)) | refine ds_ro' (ro_add (u2 rfl (u8 rfl up_h)) up_h) trivial rfl ?_
                                                    refine ds_ro' (ro_gtr (u16 rfl up_h) up_h) trivial rfl ?_
                                                    refine ds_ro' (ro_move up_h) trivial rfl ?_
                                                    refine ds_case up_h (fun hb_64 hq_64 => ?_) (fun hb_64 hq_64 => ?_)
                                                    · skip
                                                      first
                                                      | (cases hq_64; done) | ((first | replace hq_64 := bnt hq_64 | replace hq_64 := bnf hq_64 | replace hq_64 := bt hq_64 | replace hq_64 := bf hq_64 | replace hq_64 := bt' hq_64 | replace hq_64 := bf' hq_64 | skip); exfalso; omega) | (first | (simp [hw] at hq_64; done) | (rw [hw2] at hq_64; simp at hq_64; done))
                                                      | ((first | replace hq_64 := bnt hq_64 | replace hq_64 := bnf hq_64 | replace hq_64 := bt hq_64 | replace hq_64 := bf hq_64 | replace hq_64 := bt' hq_64 | replace hq_64 := bf' hq_64 | skip)
                                                         refine ds_skip' ⟨_, rfl, .inl hb_64⟩ rfl ?_
                                                         refine ds_skip' ⟨_, rfl, .inl (up_m rfl hb_64)⟩ rfl ?_
                                                         refine ds_skip' ⟨_, rfl, .inl (u2 rfl hb_64)⟩ rfl ?_
                                                         refine ds_skip' ⟨_, rfl, .inl (up_m rfl (u2 rfl hb_64))⟩ rfl ?_
                                                         refine ds_skip' ⟨_, rfl, .inl (u4 rfl hb_64)⟩ rfl ?_
                                                         refine ds_skip' ⟨_, rfl, .inl (up_m rfl (u4 rfl hb_64))⟩ rfl ?_
                                                         refine ds_skip' ⟨_, rfl, .inl (u2 rfl (u4 rfl hb_64))⟩ rfl ?_
                                                         refine ds_skip' ⟨_, rfl, .inl (up_m rfl (u2 rfl (u4 rfl hb_64)))⟩ rfl ?_
                                                         refine ds_skip' ⟨_, rfl, .inl (u8 rfl hb_64)⟩ rfl ?_
                                                         refine ds_skip' ⟨_, rfl, .inl (up_m rfl (u8 rfl hb_64))⟩ rfl ?_
                                                         refine ds_skip' ⟨_, rfl, .inl (u2 rfl (u8 rfl hb_64))⟩ rfl ?_
                                                         refine ds_skip' ⟨_, rfl, .inl (up_m rfl (u2 rfl (u8 rfl hb_64)))⟩ rfl ?_
                                                         refine ds_skip' ⟨_, rfl, .inl (u4 rfl (u8 rfl hb_64))⟩ rfl ?_
                                                         refine ds_skip' ⟨_, rfl, .inl (up_m rfl (u4 rfl (u8 rfl hb_64)))⟩ rfl ?_
                                                         refine ds_skip' ⟨_, rfl, .inl (u2 rfl (u4 rfl (u8 rfl hb_64)))⟩ rfl ?_
                                                         refine ds_skip' ⟨_, rfl, .inl (up_m rfl (u2 rfl (u4 rfl (u8 rfl hb_64))))⟩ rfl ?_
                                                         refine ds_skip' ⟨_, rfl, .inl (u16 rfl hb_64)⟩ rfl ?_
                                                         refine ds_skip' ⟨_, rfl, .inl (up_m rfl (u16 rfl hb_64))⟩ rfl ?_
                                                         refine ds_skip' ⟨_, rfl, .inl (u2 rfl (u16 rfl hb_64))⟩ rfl ?_
                                                         refine ds_skip' ⟨_, rfl, .inl (up_m rfl (u2 rfl (u16 rfl hb_64)))⟩ rfl ?_
                                                         refine ds_skip' ⟨_, rfl, .inl (u4 rfl (u16 rfl hb_64))⟩ rfl ?_
                                                         refine ds_ro' (ro_pickT (up_m rfl (u4 rfl (u16 rfl hb_64))) ev_c) trivial rfl ?_
                                                         refine ds_nil ?_
                                                         refine al_end (fun e_65 he_65 => ?_)
                                                         have s3_65 := ef 3 he_65 (u4 rfl (u8 rfl (u16 rfl (u16 rfl s3_62))))
                                                         have s4_65 := ef 4 he_65 (u4 rfl (u8 rfl (u16 rfl (u16 rfl s4_62))))
                                                         have s5_65 := ef 5 he_65 (u4 rfl (u8 rfl (u16 rfl (u16 rfl s5_62))))
                                                         have s7_65 := ef 7 he_65 (u4 rfl (u8 rfl (u16 rfl (u16 rfl s7_62))))
                                                         have s9_65 := ef 9 he_65 (u4 rfl (u8 rfl (u16 rfl (u16 rfl s9_62))))
                                                         have s11_65 := ef 11 he_65 (u4 rfl (u8 rfl (u16 rfl (u16 rfl s11_62))))
                                                         have s13_65 := ef 13 he_65 (u4 rfl (u8 rfl (u16 rfl (u16 rfl s13_62))))
                                                         have s220_65 := ef 220 he_65 up_h
                                                         clear he_65
                                                         refine then_n ⟨(s220_65).trans (by (refine avb ?_; simp only [decide_eq_true_eq, Bool.false_eq_true, iff_false]; omega)), (s3_65).trans (s3_62).symm, (s4_65).trans (s4_62).symm, (s5_65).trans (s5_62).symm, (s7_65).trans (s7_62).symm, (s9_65).trans (s9_62).symm, (s11_65).trans (s11_62).symm, (s13_65).trans (s13_62).symm, rfl⟩)
                                                    · skip
                                                      first
                                                      | (cases hq_64; done) | ((first | replace hq_64 := bnt hq_64 | replace hq_64 := bnf hq_64 | replace hq_64 := bt hq_64 | replace hq_64 := bf hq_64 | replace hq_64 := bt' hq_64 | replace hq_64 := bf' hq_64 | skip); exfalso; omega) | (first | (simp [hw] at hq_64; done) | (rw [hw2] at hq_64; simp at hq_64; done))
                                                      | ((first | replace hq_64 := bnt hq_64 | replace hq_64 := bnf hq_64 | replace hq_64 := bt hq_64 | replace hq_64 := bf hq_64 | replace hq_64 := bt' hq_64 | replace hq_64 := bf' hq_64 | skip)
                                                         refine ds_ro' (ro_move (u2 rfl (u4 rfl (u16 rfl s7_62)))) ⟨_, rfl, hb_64⟩ rfl ?_
                                                         refine ds_ro' (ro_move (up_m rfl (u2 rfl (u4 rfl (u16 rfl s13_62))))) ⟨_, rfl, (up_m rfl hb_64)⟩ rfl ?_
                                                         refine ds_ro' (ro_eq (ro_ix k23_sl30 (up_m rfl up_h) up_h (by first | decide | omega | (simp <;> omega)) (by first | (refine idx_map ?_; first | omega | (simp only [lnS]; omega)) | (refine idx_mapI ?_; first | omega | (simp only [lnS]; omega)) | (refine idx_mapN ?_; first | omega | (simp only [lnS]; omega)) | rfl)) (by first | (simp only [packA_t, packA_f, iE, bE, setAt, cellsA, Value.cells, map_vc, map_vn, Nat.reduceAdd, qS] <;> rfl) | rfl)) ⟨_, rfl, (u2 rfl hb_64)⟩ rfl ?_
                                                         refine ds_ro' (ro_eq (ro_ld_ref k23_ty3 rfl up_h (by first | exact Nat.le_of_ble_eq_true rfl | omega | (simp only [lnS] <;> omega) | (simp <;> omega))) (by first | (simp only [packA_t, packA_f, iE, bE, setAt, cellsA, Value.cells, map_vc, map_vn, Nat.reduceAdd, qS] <;> rfl) | rfl)) ⟨_, rfl, (up_m rfl (u2 rfl hb_64))⟩ rfl ?_
                                                         refine ds_ro' (ro_move (u2 rfl (u8 rfl (u16 rfl s7_62)))) ⟨_, rfl, (u4 rfl hb_64)⟩ rfl ?_
                                                         refine ds_ro' (ro_move (up_m rfl (u2 rfl (u8 rfl (u16 rfl s13_62))))) ⟨_, rfl, (up_m rfl (u4 rfl hb_64))⟩ rfl ?_
                                                         first | (refine ds_ro' (ro_sub' up_h ev_c ?_) ⟨_, rfl, (u2 rfl (u4 rfl hb_64))⟩ rfl ?_; · (unfold In64; omega)) | refine ds_ro' (ro_sub up_h ev_c) ⟨_, rfl, (u2 rfl (u4 rfl hb_64))⟩ rfl ?_
                                                         refine ds_ro' (ro_eq (ro_ix k23_sl30 (u2 rfl up_h) up_h (by first | decide | omega | (simp <;> omega)) (by first | (refine idx_map ?_; first | omega | (simp only [lnS]; omega)) | (refine idx_mapI ?_; first | omega | (simp only [lnS]; omega)) | (refine idx_mapN ?_; first | omega | (simp only [lnS]; omega)) | rfl)) (by first | (simp only [packA_t, packA_f, iE, bE, setAt, cellsA, Value.cells, map_vc, map_vn, Nat.reduceAdd, qS] <;> rfl) | rfl)) ⟨_, rfl, (up_m rfl (u2 rfl (u4 rfl hb_64)))⟩ rfl ?_
                                                         refine ds_ro' (ro_eq (ro_ld_ref k23_ty3 rfl up_h (by first | exact Nat.le_of_ble_eq_true rfl | omega | (simp only [lnS] <;> omega) | (simp <;> omega))) (by first | (simp only [packA_t, packA_f, iE, bE, setAt, cellsA, Value.cells, map_vc, map_vn, Nat.reduceAdd, qS] <;> rfl) | rfl)) ⟨_, rfl, (u8 rfl hb_64)⟩ rfl ?_
                                                         refine ds_ro' (ro_fld_ptr k23_fl26_0 rfl (up_m rfl (u2 rfl (u4 rfl (u8 rfl (u16 rfl s4_62)))))) ⟨_, rfl, (up_m rfl (u8 rfl hb_64))⟩ rfl ?_
                                                         refine ds_ro' (ro_eq (ro_ld_ptr k23_ty3 rfl mo1_61 up_h (by first | exact Nat.le_of_ble_eq_true rfl | omega | (simp only [lnS] <;> omega) | (simp <;> omega))) (by first | (simp only [packA_t, packA_f, iE, bE, setAt, cellsA, Value.cells, map_vc, map_vn, Nat.reduceAdd, qS] <;> rfl) | rfl)) ⟨_, rfl, (u2 rfl (u8 rfl hb_64))⟩ rfl ?_
                                                         refine ds_ro' (ro_fld_ptr k23_fl66_1 rfl (up_m rfl (u16 rfl (u16 rfl s17_62)))) ⟨_, rfl, (up_m rfl (u2 rfl (u8 rfl hb_64)))⟩ rfl ?_
                                                         refine ds_ro' (ro_eq (ro_ld_ptr k23_ty3 rfl mon_43_61 up_h (by first | exact Nat.le_of_ble_eq_true rfl | omega | (simp only [lnS] <;> omega) | (simp <;> omega))) (by first | (simp only [packA_t, packA_f, iE, bE, setAt, cellsA, Value.cells, map_vc, map_vn, Nat.reduceAdd, qS] <;> rfl) | rfl)) ⟨_, rfl, (u4 rfl (u8 rfl hb_64))⟩ rfl ?_
                                                         first | (refine ds_ro' (ro_mul' ev_c up_h ?_) ⟨_, rfl, (up_m rfl (u4 rfl (u8 rfl hb_64)))⟩ rfl ?_; · (unfold In64; omega)) | refine ds_ro' (ro_mul ev_c up_h) ⟨_, rfl, (up_m rfl (u4 rfl (u8 rfl hb_64)))⟩ rfl ?_
                                                         first | (refine ds_ro' (ro_add' (up_m rfl (u2 rfl up_h)) up_h ?_) ⟨_, rfl, (u2 rfl (u4 rfl (u8 rfl hb_64)))⟩ rfl ?_; · (unfold In64; omega)) | refine ds_ro' (ro_add (up_m rfl (u2 rfl up_h)) up_h) ⟨_, rfl, (u2 rfl (u4 rfl (u8 rfl hb_64)))⟩ rfl ?_
                                                         first | (refine ds_ro' (ro_mul' ev_c up_h ?_) ⟨_, rfl, (up_m rfl (u2 rfl (u4 rfl (u8 rfl hb_64))))⟩ rfl ?_; · (unfold In64; omega)) | refine ds_ro' (ro_mul ev_c up_h) ⟨_, rfl, (up_m rfl (u2 rfl (u4 rfl (u8 rfl hb_64))))⟩ rfl ?_
                                                         refine ds_ro' (ro_fld_ptr k23_fl66_0 rfl (u2 rfl (u4 rfl (u16 rfl (u16 rfl s17_62))))) ⟨_, rfl, (u16 rfl hb_64)⟩ rfl ?_
                                                         refine ds_ro' (ro_eq (ro_ld_ptr k23_ty3 rfl mon_43_61 up_h (by first | exact Nat.le_of_ble_eq_true rfl | omega | (simp only [lnS] <;> omega) | (simp <;> omega))) (by first | (simp only [packA_t, packA_f, iE, bE, setAt, cellsA, Value.cells, map_vc, map_vn, Nat.reduceAdd, qS] <;> rfl) | rfl)) ⟨_, rfl, (up_m rfl (u16 rfl hb_64))⟩ rfl ?_
                                                         first | (refine ds_ro' (ro_mul' (u2 rfl up_h) up_h ?_) ⟨_, rfl, (u2 rfl (u16 rfl hb_64))⟩ rfl ?_; · (unfold In64; omega)) | refine ds_ro' (ro_mul (u2 rfl up_h) up_h) ⟨_, rfl, (u2 rfl (u16 rfl hb_64))⟩ rfl ?_
                                                         first | (refine ds_ro' (ro_sub' (u2 rfl (u8 rfl up_h)) up_h ?_) ⟨_, rfl, (up_m rfl (u2 rfl (u16 rfl hb_64)))⟩ rfl ?_; · (unfold In64; omega)) | refine ds_ro' (ro_sub (u2 rfl (u8 rfl up_h)) up_h) ⟨_, rfl, (up_m rfl (u2 rfl (u16 rfl hb_64)))⟩ rfl ?_
                                                         refine ds_ro' (ro_lss (u16 rfl up_h) up_h) ⟨_, rfl, (u4 rfl (u16 rfl hb_64))⟩ rfl ?_
                                                         refine ds_ro' (ro_pickF (up_m rfl (u4 rfl (u16 rfl hb_64))) up_h) trivial rfl ?_
                                                         refine ds_nil ?_
                                                         refine al_end (fun e_66 he_66 => ?_)
                                                         have s3_66 := ef 3 he_66 (u4 rfl (u8 rfl (u16 rfl (u16 rfl s3_62))))
                                                         have s4_66 := ef 4 he_66 (u4 rfl (u8 rfl (u16 rfl (u16 rfl s4_62))))
                                                         have s5_66 := ef 5 he_66 (u4 rfl (u8 rfl (u16 rfl (u16 rfl s5_62))))
                                                         have s7_66 := ef 7 he_66 (u4 rfl (u8 rfl (u16 rfl (u16 rfl s7_62))))
                                                         have s9_66 := ef 9 he_66 (u4 rfl (u8 rfl (u16 rfl (u16 rfl s9_62))))
                                                         have s11_66 := ef 11 he_66 (u4 rfl (u8 rfl (u16 rfl (u16 rfl s11_62))))
                                                         have s13_66 := ef 13 he_66 (u4 rfl (u8 rfl (u16 rfl (u16 rfl s13_62))))
                                                         have s220_66 := ef 220 he_66 up_h
                                                         clear he_66
                                                         refine then_n ⟨(s220_66).trans (by (refine avb ?_; simp only [decide_eq_true_eq, Bool.false_eq_true, iff_false]; omega)), (s3_66).trans (s3_62).symm, (s4_66).trans (s4_62).symm, (s5_66).trans (s5_62).symm, (s7_66).trans (s7_62).symm, (s9_66).trans (s9_62).symm, (s11_66).trans (s11_62).symm, (s13_66).trans (s13_62).symm, rfl⟩)
                                                  · rintro e_63 _ ⟨s220_63, k3_63, k4_63, k5_63, k7_63, k9_63, k11_63, k13_63, rfl⟩
                                                    have s3_63 := k3_63.trans s3_62
                                                    have s4_63 := k4_63.trans s4_62
                                                    have s5_63 := k5_63.trans s5_62
                                                    have s7_63 := k7_63.trans s7_62
                                                    have s9_63 := k9_63.trans s9_62
                                                    have s11_63 := k11_63.trans s11_62
                                                    have s13_63 := k13_63.trans s13_62
                                                    refine aw_case s220_63 (fun hq_67 => ?_) (fun hq_67 => ?_)
                                                    · skip
                                                      first
                                                      | (cases hq_67; done) | ((first | replace hq_67 := bnt hq_67 | replace hq_67 := bnf hq_67 | replace hq_67 := bt hq_67 | replace hq_67 := bf hq_67 | replace hq_67 := bt' hq_67 | replace hq_67 := bf' hq_67 | skip); exfalso; omega) | (first | (simp [hw] at hq_67; done) | (rw [hw2] at hq_67; simp at hq_67; done))
                                                      | ((first | replace hq_67 := bnt hq_67 | replace hq_67 := bnf hq_67 | replace hq_67 := bt hq_67 | replace hq_67 := bf hq_67 | replace hq_67 := bt' hq_67 | replace hq_67 := bf' hq_67 | skip)
                                                         refine aw_seq ?_
                                                         refine aw_text ?_
                                                         refine al_ro' (ro_assign ev_c) trivial rfl ?_
                                                         refine al_end (fun e_68 he_68 => ?_)
                                                         have s6_68 := ef 6 he_68 up_h
                                                         clear he_68 s11_63 s13_63 s220_63 s3_63 s4_63 s5_63 s7_63 s9_63
                                                         refine then_n ?_
                                                         refine aw_ret ?_
                                                         refine block_r ?_
                                                         refine then_r ?_
                                                         refine then_r ?_
                                                         refine block_r ?_
                                                         refine then_r ?_
                                                         refine ret1 (.inr rfl) (by kernel_rfl) (resV_tmp s6_68) (.ro _ rfl) ?_
                                                         clear s6_68 mon_43_61 mo2_61 mo1_61 mo0_61 ml_61
                                                         first | rfl | (simp; done) | (simp_all; done) | omega)
                                                    · skip
                                                      first
                                                      | (cases hq_67; done) | ((first | replace hq_67 := bnt hq_67 | replace hq_67 := bnf hq_67 | replace hq_67 := bt hq_67 | replace hq_67 := bf hq_67 | replace hq_67 := bt' hq_67 | replace hq_67 := bf' hq_67 | skip); exfalso; omega) | (first | (simp [hw] at hq_67; done) | (rw [hw2] at hq_67; simp at hq_67; done))
                                                      | ((first | replace hq_67 := bnt hq_67 | replace hq_67 := bnf hq_67 | replace hq_67 := bt hq_67 | replace hq_67 := bf hq_67 | replace hq_67 := bt' hq_67 | replace hq_67 := bf' hq_67 | skip)
                                                         refine aw_skip ?_
                                                         refine block_n ?_
                                                         refine then_n ?_
                                                         refine aw_text ?_
                                                         refine al_ro' (ro_move s13_63) trivial rfl ?_
                                                         first | (refine al_ro' (ro_add' up_h ev_c ?_) trivial rfl ?_; · (unfold In64; omega)) | refine al_ro' (ro_add up_h ev_c) trivial rfl ?_
                                                         refine al_ro' (ro_assign up_h) trivial rfl ?_
                                                         refine al_end (fun e_69 he_69 => ?_)
                                                         have s3_69 := ef 3 he_69 (up_m rfl (u2 rfl s3_63))
                                                         have s4_69 := ef 4 he_69 (up_m rfl (u2 rfl s4_63))
                                                         have s5_69 := ef 5 he_69 (up_m rfl (u2 rfl s5_63))
                                                         have s7_69 := ef 7 he_69 (up_m rfl (u2 rfl s7_63))
                                                         have s9_69 := ef 9 he_69 (up_m rfl (u2 rfl s9_63))
                                                         have s11_69 := ef 11 he_69 (up_m rfl (u2 rfl s11_63))
                                                         have s13_69 := ef 13 he_69 up_h
                                                         clear he_69 s11_63 s13_63 s220_63 s3_63 s4_63 s5_63 s7_63 s9_63
                                                         refine then_n ?_
                                                         refine ⟨_, ⟨s13_69, (s3_69.trans s3_42.symm), (s4_69.trans s4_42.symm), (s5_69.trans s5_42.symm), (s7_69.trans s7_42.symm), (s9_69.trans s9_42.symm), (s11_69.trans s11_42.symm), (mo2_61.trans mo2_3.symm), (mo1_61.trans mo1_3.symm), (mo0_61.trans mo0_3.symm), ⟨_, ml_61, by omega⟩, ?_⟩, ?_⟩
                                                         · (exact ⟨by omega, by omega⟩)
                                                         · ((try dsimp only); omega))))))
                            · skip
                              first
                              | (cases hq_45; done) | ((first | replace hq_45 := bnt hq_45 | replace hq_45 := bnf hq_45 | replace hq_45 := bt hq_45 | replace hq_45 := bf hq_45 | replace hq_45 := bt' hq_45 | replace hq_45 := bf' hq_45 | skip); exfalso; omega) | (first | (simp [hw] at hq_45; done) | (rw [hw2] at hq_45; simp at hq_45; done))
                              | ((first | replace hq_45 := bnt hq_45 | replace hq_45 := bnf hq_45 | replace hq_45 := bt hq_45 | replace hq_45 := bf hq_45 | replace hq_45 := bt' hq_45 | replace hq_45 := bf' hq_45 | skip)
                                 (have hz : (runW ps b d stop post sq).1.getD (((runW ps b d stop post sq).1.length : Int) - 1).toNat default = (runW ps b d stop post sq).1.getD (stop - post).toNat default := (by rw [hix]); have hst := stands_at hok (b := b) (stop := stop) (s := (runW ps b d stop post sq).1.getD (((runW ps b d stop post sq).1.length : Int) - 1).toNat default) (by omega) (by omega) (by omega) (by rw [hz]; have := hlast.2.2.1; rwa [show post.toNat + (stop - post).toNat = stop.toNat by omega] at this); have hg := hok.at stop.toNat; have hp1 := plW_at ps (n := ps.length) (i := stop.toNat) (by omega); have hp2 := plW_at ps (n := ps.length) (i := stop.toNat + 1) (by omega); have hsu := sumL_bound hok stop.toNat)
                                 refine aw_exit ?_
                                 refine then_x ?_
                                 refine then_x ?_
                                 refine block_hit ?_
                                 refine then_n ?_
                                 refine aw_seq ?_
                                 refine aw_drawK 18 1 ml_43 (by kernel_rfl) (by kernel_rfl) (by kernel_rfl) (fun m_70 hm_70 => ?_)
                                 have mo2_70 := m_room_o hm_70 mo2_43
                                 have mo1_70 := m_room_o hm_70 mo1_43
                                 have mo0_70 := m_room_o hm_70 mo0_43
                                 have mon_43_70 : m_70[n_43]? = _ := m_room_g hm_70 ml_43 0 rfl rfl
                                 have ml_70 : _ = n_43 + 1 := m_room_l hm_70 ml_43
                                 clear hm_70 mo2_43 mo1_43 mo0_43 ml_43
                                 refine dh_ld (0) (fun M_ hM_ => (ro_eq (ro_ld_ptr k23_ty24 rfl (agr hM_ mo0_70 (by simp)) s3_44 (by first | exact Nat.le_of_ble_eq_true rfl | omega | (simp only [lnS] <;> omega) | (simp <;> omega))) (by first | (simp only [packA_t, packA_f, iE, bE, setAt, cellsA, Value.cells, map_vc, map_vn, Nat.reduceAdd, qS] <;> rfl) | rfl))) trivial trivial ?_
                                 refine dh_ro (fun M_ hM_ => (ro_call (evL_cons up_h evL_nil) rfl (rCopy_ok nm ps (by omega)) k23_hcf18)) trivial ?_
                                 refine dh_ld (1) (fun M_ hM_ => (ro_eq (ro_ld_ptr k23_ty26 rfl (agr hM_ mo1_70 (by simp)) (u2 rfl s4_44) (by first | exact Nat.le_of_ble_eq_true rfl | omega | (simp only [lnS] <;> omega) | (simp <;> omega))) (by first | (simp only [packA_t, packA_f, iE, bE, setAt, cellsA, Value.cells, map_vc, map_vn, Nat.reduceAdd, qS] <;> rfl) | rfl))) trivial trivial ?_
                                 refine dh_ro (fun M_ hM_ => (ro_fld_ptr k23_fl44_1 rfl (up_m rfl (u2 rfl s5_44)))) trivial ?_
                                 refine dh_ld (2) (fun M_ hM_ => (ro_eq (ro_ld_ptr k23_ty3 rfl (agr hM_ mo2_70 (by simp)) up_h (by first | exact Nat.le_of_ble_eq_true rfl | omega | (simp only [lnS] <;> omega) | (simp <;> omega))) (by first | (simp only [packA_t, packA_f, iE, bE, setAt, cellsA, Value.cells, map_vc, map_vn, Nat.reduceAdd, qS] <;> rfl) | rfl))) trivial trivial ?_
                                 refine dh_ro (fun M_ hM_ => (ro_move (up_m rfl (u4 rfl s7_44)))) trivial ?_
                                 refine dh_ro (fun M_ hM_ => (ro_move (u2 rfl (u4 rfl s7_44)))) trivial ?_
                                 refine dh_ro (fun M_ hM_ => (ro_eq (ro_len_row up_h rfl k23_sl30.1) (by first | (simp only [lnS] <;> rfl) | rfl))) trivial ?_
                                 first | (refine dh_ro (fun M_ hM_ => (ro_sub' up_h ev_c ?_)) trivial ?_; · (unfold In64; omega)) | refine dh_ro (fun M_ hM_ => (ro_sub up_h ev_c)) trivial ?_
                                 refine dh_ro (fun M_ hM_ => (ro_eq (ro_ix k23_sl30 (up_m rfl (u2 rfl up_h)) up_h (by first | decide | omega | (simp <;> omega)) (by first | (refine idx_map ?_; first | omega | (simp only [lnS]; omega)) | (refine idx_mapI ?_; first | omega | (simp only [lnS]; omega)) | (refine idx_mapN ?_; first | omega | (simp only [lnS]; omega)) | rfl)) (by first | (simp only [packA_t, packA_f, iE, bE, setAt, cellsA, Value.cells, map_vc, map_vn, Nat.reduceAdd, qS] <;> rfl) | rfl))) trivial ?_
                                 refine dh_ro (fun M_ hM_ => (ro_eq (ro_ld_ref k23_ty3 rfl up_h (by first | exact Nat.le_of_ble_eq_true rfl | omega | (simp only [lnS] <;> omega) | (simp <;> omega))) (by first | (simp only [packA_t, packA_f, iE, bE, setAt, cellsA, Value.cells, map_vc, map_vn, Nat.reduceAdd, qS] <;> rfl) | rfl))) trivial ?_
                                 refine dh_ro (fun M_ hM_ => (ro_build (evP_cons (u2 rfl (u4 rfl up_h)) (evP_cons up_h evP_nil)) k23_bz42 k23_bu42 k23_bp42 rfl)) trivial ?_
                                 refine dh_ro (fun M_ hM_ => (ro_call (evL_cons (u2 rfl (u8 rfl up_h)) (evL_cons (up_m rfl (u8 rfl up_h)) (evL_cons up_h evL_nil))) rfl (standsAt3_ok hs hp (stE_zero hR.1 (by omega) (by omega))) k23_hcf40)) trivial ?_
                                 refine dh_ro (fun M_ hM_ => (ro_move up_h)) trivial ?_
                                 refine dh_ro (fun M_ hM_ => (ro_extract up_h rfl)) trivial ?_
                                 refine dh_ro (fun M_ hM_ => (ro_extract (up_m rfl up_h) rfl)) trivial ?_
                                 refine dh_nw (n_43) (fun M_ hM_ => (nw_alloc k23_az68 rfl)) trivial mon_43_70 rfl trivial ⟨.inl (by simp <;> omega), ⟨.inl (by simp <;> omega), ⟨.inl (by simp <;> omega), trivial⟩⟩⟩ (fun m_71 hm_71 => ?_)
                                 have mon_43_71 := m_set hm_71 mon_43_70
                                 (try simp only [packA_t, packA_f, iE, bE, setAt, cellsA, Value.cells, map_vc, map_vn, Nat.reduceAdd, qS] at mon_43_71)
                                 have mo2_71 := m_set_o hm_71 mo2_70 (by omega)
                                 have mo1_71 := m_set_o hm_71 mo1_70 (by omega)
                                 have mo0_71 := m_set_o hm_71 mo0_70 (by omega)
                                 have ml_71 := m_set_l hm_71 ml_70
                                 clear hm_71 mo2_70 mo1_70 mo0_70 mon_43_70
                                 refine dh_set (n_43) (fun M_ hM_ => (se_store up_h (u2 rfl up_h) rfl rfl (agr hM_ mon_43_71 (by simp)) k23_sz68 rfl (by first | exact Nat.le_of_ble_eq_true rfl | omega | (simp only [lnS] <;> omega) | (simp <;> omega)))) trivial ⟨.inr (wt_one 17 16 (by kernel_rfl)), trivial⟩ ⟨.inl (by simp <;> omega), ⟨.inl (by simp <;> omega), ⟨.inl (by simp <;> omega), ⟨.inr (wt_one 17 16 (by kernel_rfl)), trivial⟩⟩⟩⟩ (fun m_72 hm_72 => ?_)
                                 have mon_43_72 := m_set hm_72 mon_43_71
                                 (try simp only [packA_t, packA_f, iE, bE, setAt, cellsA, Value.cells, map_vc, map_vn, Nat.reduceAdd, qS] at mon_43_72)
                                 have mo2_72 := m_set_o hm_72 mo2_71 (by omega)
                                 have mo1_72 := m_set_o hm_72 mo1_71 (by omega)
                                 have mo0_72 := m_set_o hm_72 mo0_71 (by omega)
                                 have ml_72 := m_set_l hm_72 ml_71
                                 clear hm_72 mon_43_71 mo2_71 mo1_71 mo0_71
                                 refine dh_nil rfl ?_
                                 refine al_ro' (ro_assign (up_n (up_m rfl up_h))) trivial rfl ?_
                                 refine al_end (fun e_73 he_73 => ?_)
                                 have s3_73 := ef 3 he_73 (up_m rfl (up_n (up_m rfl (u16 rfl s3_44))))
                                 have s4_73 := ef 4 he_73 (up_m rfl (up_n (up_m rfl (u16 rfl s4_44))))
                                 have s5_73 := ef 5 he_73 (up_m rfl (up_n (up_m rfl (u16 rfl s5_44))))
                                 have s7_73 := ef 7 he_73 (up_m rfl (up_n (up_m rfl (u16 rfl s7_44))))
                                 have s11_73 := ef 11 he_73 (up_m rfl (up_n (up_m rfl (u16 rfl s11_44))))
                                 have s18_73 := ef 18 he_73 (up_m rfl (up_n up_h))
                                 have s19_73 := ef 19 he_73 up_h
                                 clear he_73 s11_44 s130_44 s13_44 s3_44 s4_44 s5_44 s7_44 s9_44
                                 refine then_n ?_
                                 refine aw_seq ?_
                                 refine aw_seq ?_
                                 refine aw_draw 12 (by kernel_rfl) (by kernel_rfl) (by kernel_rfl) ?_
                                 refine ds_ro' (ro_fld_ptr k23_fl26_0 rfl s4_73) trivial rfl ?_
                                 refine ds_ro' (ro_eq (ro_ld_ptr k23_ty3 rfl mo1_72 up_h (by first | exact Nat.le_of_ble_eq_true rfl | omega | (simp only [lnS] <;> omega) | (simp <;> omega))) (by first | (simp only [packA_t, packA_f, iE, bE, setAt, cellsA, Value.cells, map_vc, map_vn, Nat.reduceAdd, qS] <;> rfl) | rfl)) trivial rfl ?_
                                 refine ds_ro' (ro_fld_ptr k23_fl24_1 rfl (u2 rfl s3_73)) trivial rfl ?_
                                 refine ds_ro' (ro_eq (ro_ld_ptr k23_ty22 rfl mo0_72 up_h (by first | exact Nat.le_of_ble_eq_true rfl | omega | (simp only [lnS] <;> omega) | (simp <;> omega))) (by first | (simp only [packA_t, packA_f, iE, bE, setAt, cellsA, Value.cells, map_vc, map_vn, Nat.reduceAdd, qS] <;> rfl) | rfl)) trivial rfl ?_
                                 refine ds_ro' (ro_fld_ptr k23_fl44_1 rfl (u4 rfl s5_73)) trivial rfl ?_
                                 refine ds_ro' (ro_eq (ro_ld_ptr k23_ty3 rfl mo2_72 up_h (by first | exact Nat.le_of_ble_eq_true rfl | omega | (simp only [lnS] <;> omega) | (simp <;> omega))) (by first | (simp only [packA_t, packA_f, iE, bE, setAt, cellsA, Value.cells, map_vc, map_vn, Nat.reduceAdd, qS] <;> rfl) | rfl)) trivial rfl ?_
                                 refine ds_ro' (ro_eq (ro_ix k23_sl22 (u2 rfl up_h) up_h (by first | decide | omega | (simp <;> omega)) (by first | (refine idx_map ?_; first | omega | (simp only [lnS]; omega)) | (refine idx_mapI ?_; first | omega | (simp only [lnS]; omega)) | (refine idx_mapN ?_; first | omega | (simp only [lnS]; omega)) | rfl)) (by first | (simp only [packA_t, packA_f, iE, bE, setAt, cellsA, Value.cells, map_vc, map_vn, Nat.reduceAdd, qS] <;> rfl) | rfl)) trivial rfl ?_
                                 refine ds_ro' (ro_eq (ro_fld_ref k23_fl66_1 rfl up_h) (by first | (simp only [packA_t, packA_f, iE, bE, setAt, cellsA, Value.cells, map_vc, map_vn, Nat.reduceAdd, qS] <;> rfl) | rfl)) trivial rfl ?_
                                 refine ds_ro' (ro_eq (ro_ld_ref k23_ty3 rfl up_h (by first | exact Nat.le_of_ble_eq_true rfl | omega | (simp only [lnS] <;> omega) | (simp <;> omega))) (by first | (simp only [packA_t, packA_f, iE, bE, setAt, cellsA, Value.cells, map_vc, map_vn, Nat.reduceAdd, qS] <;> rfl) | rfl)) trivial rfl ?_
                                 first | (refine ds_ro' (ro_mul' ev_c up_h ?_) trivial rfl ?_; · (unfold In64; omega)) | refine ds_ro' (ro_mul ev_c up_h) trivial rfl ?_
                                 first | (refine ds_ro' (ro_add' (u8 rfl up_h) up_h ?_) trivial rfl ?_; · (unfold In64; omega)) | refine ds_ro' (ro_add (u8 rfl up_h) up_h) trivial rfl ?_
                                 refine ds_ro' (ro_leq up_h ev_c) trivial rfl ?_
                                 refine ds_nil ?_
                                 refine al_end (fun e_74 he_74 => ?_)
                                 have s5_74 := ef 5 he_74 (u4 rfl (u8 rfl s5_73))
                                 have s7_74 := ef 7 he_74 (u4 rfl (u8 rfl s7_73))
                                 have s11_74 := ef 11 he_74 (u4 rfl (u8 rfl s11_73))
                                 have s18_74 := ef 18 he_74 (u4 rfl (u8 rfl s18_73))
                                 have s19_74 := ef 19 he_74 (u4 rfl (u8 rfl s19_73))
                                 have s248_74 := ef 248 he_74 up_h
                                 clear he_74 s11_73 s18_73 s19_73 s3_73 s4_73 s5_73 s7_73
                                 refine then_n ?_
                                 refine aw_case s248_74 (fun hq_75 => ?_) (fun hq_75 => ?_)
                                 · skip
                                   first
                                   | (cases hq_75; done) | ((first | replace hq_75 := bnt hq_75 | replace hq_75 := bnf hq_75 | replace hq_75 := bt hq_75 | replace hq_75 := bf hq_75 | replace hq_75 := bt' hq_75 | replace hq_75 := bf' hq_75 | skip); exfalso; omega) | (first | (simp [hw] at hq_75; done) | (rw [hw2] at hq_75; simp at hq_75; done))
                                   | ((first | replace hq_75 := bnt hq_75 | replace hq_75 := bnf hq_75 | replace hq_75 := bt hq_75 | replace hq_75 := bf hq_75 | replace hq_75 := bt' hq_75 | replace hq_75 := bf' hq_75 | skip)
                                      refine aw_seq ?_
                                      refine aw_text ?_
                                      refine al_ro' (ro_move s7_74) trivial rfl ?_
                                      refine al_ro' (ro_move (up_m rfl s7_74)) trivial rfl ?_
                                      refine al_ro' (ro_eq (ro_len_row up_h rfl k23_sl30.1) (by first | (simp only [lnS] <;> rfl) | rfl)) trivial rfl ?_
                                      first | (refine al_ro' (ro_sub' up_h ev_c ?_) trivial rfl ?_; · (unfold In64; omega)) | refine al_ro' (ro_sub up_h ev_c) trivial rfl ?_
                                      refine al_ro' (ro_eq (ro_ix k23_sl30 (up_m rfl (u2 rfl up_h)) up_h (by first | decide | omega | (simp <;> omega)) (by first | (refine idx_map ?_; first | omega | (simp only [lnS]; omega)) | (refine idx_mapI ?_; first | omega | (simp only [lnS]; omega)) | (refine idx_mapN ?_; first | omega | (simp only [lnS]; omega)) | rfl)) (by first | (simp only [packA_t, packA_f, iE, bE, setAt, cellsA, Value.cells, map_vc, map_vn, Nat.reduceAdd, qS] <;> rfl) | rfl)) trivial rfl ?_
                                      refine al_ro' (ro_eq (ro_ld_ref k23_ty3 rfl up_h (by first | exact Nat.le_of_ble_eq_true rfl | omega | (simp only [lnS] <;> omega) | (simp <;> omega))) (by first | (simp only [packA_t, packA_f, iE, bE, setAt, cellsA, Value.cells, map_vc, map_vn, Nat.reduceAdd, qS] <;> rfl) | rfl)) trivial rfl ?_
                                      refine al_ro' (ro_eql up_h ev_c) trivial rfl ?_
                                      refine al_ro' (ro_assign up_h) trivial rfl ?_
                                      refine al_end (fun e_76 he_76 => ?_)
                                      have s6_76 := ef 6 he_76 up_h
                                      clear he_76 s11_74 s18_74 s19_74 s248_74 s5_74 s7_74
                                      refine then_n ?_
                                      refine aw_ret ?_
                                      refine then_r ?_
                                      refine ret1 (.inr rfl) (by kernel_rfl) (resV_tmp s6_76) (.ro _ rfl) ?_
                                      clear s6_76 mon_43_72 mo2_72 mo1_72 mo0_72 ml_72
                                      first | rfl | (simp; done) | (simp_all; done) | omega)
                                 · skip
                                   first
                                   | (cases hq_75; done) | ((first | replace hq_75 := bnt hq_75 | replace hq_75 := bnf hq_75 | replace hq_75 := bt hq_75 | replace hq_75 := bf hq_75 | replace hq_75 := bt' hq_75 | replace hq_75 := bf' hq_75 | skip); exfalso; omega) | (first | (simp [hw] at hq_75; done) | (rw [hw2] at hq_75; simp at hq_75; done))
                                   | ((first | replace hq_75 := bnt hq_75 | replace hq_75 := bnf hq_75 | replace hq_75 := bt hq_75 | replace hq_75 := bf hq_75 | replace hq_75 := bt' hq_75 | replace hq_75 := bf' hq_75 | skip)
                                      (obtain ⟨z1, z2, z3, z4⟩ := hst.2 (by omega); rw [show stop.toNat + 1 = (stop + 1).toNat by omega] at hp2 z4)
                                      refine aw_skip ?_
                                      refine then_n ?_
                                      refine aw_seq ?_
                                      refine aw_draw 31 (by kernel_rfl) (by kernel_rfl) (by kernel_rfl) ?_
                                      refine ds_ro' (ro_move s19_74) trivial rfl ?_
                                      refine ds_ro' (ro_eql up_h ev_c) trivial rfl ?_
                                      refine ds_ro' (ro_move up_h) trivial rfl ?_
                                      refine ds_case up_h (fun hb_77 hq_77 => ?_) (fun hb_77 hq_77 => ?_)
                                      · skip
                                        first
                                        | (cases hq_77; done) | ((first | replace hq_77 := bnt hq_77 | replace hq_77 := bnf hq_77 | replace hq_77 := bt hq_77 | replace hq_77 := bf hq_77 | replace hq_77 := bt' hq_77 | replace hq_77 := bf' hq_77 | skip); exfalso; omega) | (first | (simp [hw] at hq_77; done) | (rw [hw2] at hq_77; simp at hq_77; done))
                                        | ((first | replace hq_77 := bnt hq_77 | replace hq_77 := bnf hq_77 | replace hq_77 := bt hq_77 | replace hq_77 := bf hq_77 | replace hq_77 := bt' hq_77 | replace hq_77 := bf' hq_77 | skip)
                                           refine ds_ro' (ro_move (up_m rfl (u2 rfl s11_74))) ⟨_, rfl, hb_77⟩ rfl ?_
                                           refine ds_ro' (ro_fld_ptr k23_fl44_1 rfl (u4 rfl s5_74)) ⟨_, rfl, (up_m rfl hb_77)⟩ rfl ?_
                                           refine ds_ro' (ro_eq (ro_ld_ptr k23_ty3 rfl mo2_72 up_h (by first | exact Nat.le_of_ble_eq_true rfl | omega | (simp only [lnS] <;> omega) | (simp <;> omega))) (by first | (simp only [packA_t, packA_f, iE, bE, setAt, cellsA, Value.cells, map_vc, map_vn, Nat.reduceAdd, qS] <;> rfl) | rfl)) ⟨_, rfl, (u2 rfl hb_77)⟩ rfl ?_
                                           refine ds_ro' (ro_eq (ro_ix k23_sl30 (u2 rfl up_h) up_h (by first | decide | omega | (simp <;> omega)) (by first | (refine idx_map ?_; first | omega | (simp only [lnS]; omega)) | (refine idx_mapI ?_; first | omega | (simp only [lnS]; omega)) | (refine idx_mapN ?_; first | omega | (simp only [lnS]; omega)) | rfl)) (by first | (simp only [packA_t, packA_f, iE, bE, setAt, cellsA, Value.cells, map_vc, map_vn, Nat.reduceAdd, qS] <;> rfl) | rfl)) ⟨_, rfl, (up_m rfl (u2 rfl hb_77))⟩ rfl ?_
                                           refine ds_ro' (ro_eq (ro_ld_ref k23_ty3 rfl up_h (by first | exact Nat.le_of_ble_eq_true rfl | omega | (simp only [lnS] <;> omega) | (simp <;> omega))) (by first | (simp only [packA_t, packA_f, iE, bE, setAt, cellsA, Value.cells, map_vc, map_vn, Nat.reduceAdd, qS] <;> rfl) | rfl)) ⟨_, rfl, (u4 rfl hb_77)⟩ rfl ?_
                                           refine ds_ro' (ro_fld_ptr k23_fl68_0 rfl (u8 rfl s18_74)) ⟨_, rfl, (up_m rfl (u4 rfl hb_77))⟩ rfl ?_
                                           refine ds_ro' (ro_eq (ro_ld_ptr k23_ty3 rfl mon_43_72 up_h (by first | exact Nat.le_of_ble_eq_true rfl | omega | (simp only [lnS] <;> omega) | (simp <;> omega))) (by first | (simp only [packA_t, packA_f, iE, bE, setAt, cellsA, Value.cells, map_vc, map_vn, Nat.reduceAdd, qS] <;> rfl) | rfl)) ⟨_, rfl, (u2 rfl (u4 rfl hb_77))⟩ rfl ?_
                                           refine ds_ro' (ro_leq (u2 rfl up_h) up_h) ⟨_, rfl, (up_m rfl (u2 rfl (u4 rfl hb_77)))⟩ rfl ?_
                                           refine ds_ro' (ro_pickT (u8 rfl hb_77) up_h) trivial rfl ?_
                                           refine ds_ro' (ro_move up_h) trivial rfl ?_
                                           refine ds_case up_h (fun hb_78 hq_78 => ?_) (fun hb_78 hq_78 => ?_)
                                           · skip
                                             first
                                             | (cases hq_78; done) | ((first | replace hq_78 := bnt hq_78 | replace hq_78 := bnf hq_78 | replace hq_78 := bt hq_78 | replace hq_78 := bf hq_78 | replace hq_78 := bt' hq_78 | replace hq_78 := bf' hq_78 | skip); exfalso; omega) | (first | (simp [hw] at hq_78; done) | (rw [hw2] at hq_78; simp at hq_78; done))
                                             | ((first | replace hq_78 := bnt hq_78 | replace hq_78 := bnf hq_78 | replace hq_78 := bt hq_78 | replace hq_78 := bf hq_78 | replace hq_78 := bt' hq_78 | replace hq_78 := bf' hq_78 | skip)
                                                refine ds_ro' (ro_fld_ptr k23_fl68_0 rfl (up_m rfl (u4 rfl (u8 rfl s18_74)))) ⟨_, rfl, hb_78⟩ rfl ?_
                                                refine ds_ro' (ro_eq (ro_ld_ptr k23_ty3 rfl mon_43_72 up_h (by first | exact Nat.le_of_ble_eq_true rfl | omega | (simp only [lnS] <;> omega) | (simp <;> omega))) (by first | (simp only [packA_t, packA_f, iE, bE, setAt, cellsA, Value.cells, map_vc, map_vn, Nat.reduceAdd, qS] <;> rfl) | rfl)) ⟨_, rfl, (up_m rfl hb_78)⟩ rfl ?_
                                                refine ds_ro' (ro_fld_ptr k23_fl68_1 rfl (up_m rfl (u2 rfl (u4 rfl (u8 rfl s18_74))))) ⟨_, rfl, (u2 rfl hb_78)⟩ rfl ?_
                                                refine ds_ro' (ro_eq (ro_ld_ptr k23_ty3 rfl mon_43_72 up_h (by first | exact Nat.le_of_ble_eq_true rfl | omega | (simp only [lnS] <;> omega) | (simp <;> omega))) (by first | (simp only [packA_t, packA_f, iE, bE, setAt, cellsA, Value.cells, map_vc, map_vn, Nat.reduceAdd, qS] <;> rfl) | rfl)) ⟨_, rfl, (up_m rfl (u2 rfl hb_78))⟩ rfl ?_
                                                refine ds_ro' (ro_leq (u2 rfl up_h) up_h) ⟨_, rfl, (u4 rfl hb_78)⟩ rfl ?_
                                                refine ds_ro' (ro_pickT (up_m rfl (u4 rfl hb_78)) up_h) trivial rfl ?_
                                                refine ds_ro' (ro_move up_h) trivial rfl ?_
                                                refine ds_case up_h (fun hb_79 hq_79 => ?_) (fun hb_79 hq_79 => ?_)
                                                · skip
                                                  first
                                                  | (cases hq_79; done) | ((first | replace hq_79 := bnt hq_79 | replace hq_79 := bnf hq_79 | replace hq_79 := bt hq_79 | replace hq_79 := bf hq_79 | replace hq_79 := bt' hq_79 | replace hq_79 := bf' hq_79 | skip); exfalso; omega) | (first | (simp [hw] at hq_79; done) | (rw [hw2] at hq_79; simp at hq_79; done))
                                                  | ((first | replace hq_79 := bnt hq_79 | replace hq_79 := bnf hq_79 | replace hq_79 := bt hq_79 | replace hq_79 := bf hq_79 | replace hq_79 := bt' hq_79 | replace hq_79 := bf' hq_79 | skip)
                                                     refine ds_ro' (ro_fld_ptr k23_fl68_1 rfl (u4 rfl (u16 rfl s18_74))) ⟨_, rfl, hb_79⟩ rfl ?_
                                                     refine ds_ro' (ro_eq (ro_ld_ptr k23_ty3 rfl mon_43_72 up_h (by first | exact Nat.le_of_ble_eq_true rfl | omega | (simp only [lnS] <;> omega) | (simp <;> omega))) (by first | (simp only [packA_t, packA_f, iE, bE, setAt, cellsA, Value.cells, map_vc, map_vn, Nat.reduceAdd, qS] <;> rfl) | rfl)) ⟨_, rfl, (up_m rfl hb_79)⟩ rfl ?_
                                                     refine ds_ro' (ro_move (u2 rfl (u4 rfl (u16 rfl s11_74)))) ⟨_, rfl, (u2 rfl hb_79)⟩ rfl ?_
                                                     refine ds_ro' (ro_fld_ptr k23_fl44_1 rfl (up_m rfl (u2 rfl (u4 rfl (u16 rfl s5_74))))) ⟨_, rfl, (up_m rfl (u2 rfl hb_79))⟩ rfl ?_
                                                     refine ds_ro' (ro_eq (ro_ld_ptr k23_ty3 rfl mo2_72 up_h (by first | exact Nat.le_of_ble_eq_true rfl | omega | (simp only [lnS] <;> omega) | (simp <;> omega))) (by first | (simp only [packA_t, packA_f, iE, bE, setAt, cellsA, Value.cells, map_vc, map_vn, Nat.reduceAdd, qS] <;> rfl) | rfl)) ⟨_, rfl, (u4 rfl hb_79)⟩ rfl ?_
                                                     first | (refine ds_ro' (ro_add' up_h ev_c ?_) ⟨_, rfl, (up_m rfl (u4 rfl hb_79))⟩ rfl ?_; · (unfold In64; omega)) | refine ds_ro' (ro_add up_h ev_c) ⟨_, rfl, (up_m rfl (u4 rfl hb_79))⟩ rfl ?_
                                                     refine ds_ro' (ro_eq (ro_ix k23_sl30 (up_m rfl (u2 rfl up_h)) up_h (by first | decide | omega | (simp <;> omega)) (by first | (refine idx_map ?_; first | omega | (simp only [lnS]; omega)) | (refine idx_mapI ?_; first | omega | (simp only [lnS]; omega)) | (refine idx_mapN ?_; first | omega | (simp only [lnS]; omega)) | rfl)) (by first | (simp only [packA_t, packA_f, iE, bE, setAt, cellsA, Value.cells, map_vc, map_vn, Nat.reduceAdd, qS] <;> rfl) | rfl)) ⟨_, rfl, (u2 rfl (u4 rfl hb_79))⟩ rfl ?_
                                                     refine ds_ro' (ro_eq (ro_ld_ref k23_ty3 rfl up_h (by first | exact Nat.le_of_ble_eq_true rfl | omega | (simp only [lnS] <;> omega) | (simp <;> omega))) (by first | (simp only [packA_t, packA_f, iE, bE, setAt, cellsA, Value.cells, map_vc, map_vn, Nat.reduceAdd, qS] <;> rfl) | rfl)) ⟨_, rfl, (up_m rfl (u2 rfl (u4 rfl hb_79)))⟩ rfl ?_
                                                     refine ds_ro' (ro_leq (u2 rfl (u4 rfl up_h)) up_h) ⟨_, rfl, (u8 rfl hb_79)⟩ rfl ?_
                                                     refine ds_ro' (ro_pickT (up_m rfl (u8 rfl hb_79)) up_h) trivial rfl ?_
                                                     refine ds_ro' (ro_assign up_h) trivial rfl ?_
                                                     refine ds_nil ?_
                                                     refine al_end (fun e_80 he_80 => ?_)
                                                     have s6_80 := ef 6 he_80 up_h
                                                     clear he_80 hb_77 hb_78 hb_79 s11_74 s18_74 s19_74 s248_74 s5_74 s7_74
                                                     refine then_n ?_
                                                     refine aw_ret ?_
                                                     refine ret1 (.inr rfl) (by kernel_rfl) (resV_tmp s6_80) (.ro _ rfl) ?_
                                                     clear s6_80 mon_43_72 mo2_72 mo1_72 mo0_72 ml_72
                                                     first | rfl | (simp; done) | (simp_all; done) | omega)
                                                · skip
                                                  first
                                                  | (cases hq_79; done) | ((first | replace hq_79 := bnt hq_79 | replace hq_79 := bnf hq_79 | replace hq_79 := bt hq_79 | replace hq_79 := bf hq_79 | replace hq_79 := bt' hq_79 | replace hq_79 := bf' hq_79 | skip); exfalso; omega) | (first | (simp [hw] at hq_79; done) | (rw [hw2] at hq_79; simp at hq_79; done))
                                                  | ((first | replace hq_79 := bnt hq_79 | replace hq_79 := bnf hq_79 | replace hq_79 := bt hq_79 | replace hq_79 := bf hq_79 | replace hq_79 := bt' hq_79 | replace hq_79 := bf' hq_79 | skip)
                                                     refine ds_skip' ⟨_, rfl, .inl hb_79⟩ rfl ?_
                                                     refine ds_skip' ⟨_, rfl, .inl (up_m rfl hb_79)⟩ rfl ?_
                                                     refine ds_skip' ⟨_, rfl, .inl (u2 rfl hb_79)⟩ rfl ?_
                                                     refine ds_skip' ⟨_, rfl, .inl (up_m rfl (u2 rfl hb_79))⟩ rfl ?_
                                                     refine ds_skip' ⟨_, rfl, .inl (u4 rfl hb_79)⟩ rfl ?_
                                                     refine ds_skip' ⟨_, rfl, .inl (up_m rfl (u4 rfl hb_79))⟩ rfl ?_
                                                     refine ds_skip' ⟨_, rfl, .inl (u2 rfl (u4 rfl hb_79))⟩ rfl ?_
                                                     refine ds_skip' ⟨_, rfl, .inl (up_m rfl (u2 rfl (u4 rfl hb_79)))⟩ rfl ?_
                                                     refine ds_skip' ⟨_, rfl, .inl (u8 rfl hb_79)⟩ rfl ?_
                                                     refine ds_ro' (ro_pickF (up_m rfl (u8 rfl hb_79)) ev_c) trivial rfl ?_
                                                     refine ds_ro' (ro_assign up_h) trivial rfl ?_
                                                     refine ds_nil ?_
                                                     refine al_end (fun e_81 he_81 => ?_)
                                                     have s6_81 := ef 6 he_81 up_h
                                                     clear he_81 hb_77 hb_78 hb_79 s11_74 s18_74 s19_74 s248_74 s5_74 s7_74
                                                     refine then_n ?_
                                                     refine aw_ret ?_
                                                     refine ret1 (.inr rfl) (by kernel_rfl) (resV_tmp s6_81) (.ro _ rfl) ?_
                                                     clear s6_81 mon_43_72 mo2_72 mo1_72 mo0_72 ml_72
                                                     first | rfl | (simp; done) | (simp_all; done) | omega))
                                           · skip
                                             first
                                             | (cases hq_78; done) | ((first | replace hq_78 := bnt hq_78 | replace hq_78 := bnf hq_78 | replace hq_78 := bt hq_78 | replace hq_78 := bf hq_78 | replace hq_78 := bt' hq_78 | replace hq_78 := bf' hq_78 | skip); exfalso; omega) | (first | (simp [hw] at hq_78; done) | (rw [hw2] at hq_78; simp at hq_78; done))
                                             | ((first | replace hq_78 := bnt hq_78 | replace hq_78 := bnf hq_78 | replace hq_78 := bt hq_78 | replace hq_78 := bf hq_78 | replace hq_78 := bt' hq_78 | replace hq_78 := bf' hq_78 | skip)
                                                refine ds_skip' ⟨_, rfl, .inl hb_78⟩ rfl ?_
                                                refine ds_skip' ⟨_, rfl, .inl (up_m rfl hb_78)⟩ rfl ?_
                                                refine ds_skip' ⟨_, rfl, .inl (u2 rfl hb_78)⟩ rfl ?_
                                                refine ds_skip' ⟨_, rfl, .inl (up_m rfl (u2 rfl hb_78))⟩ rfl ?_
                                                refine ds_skip' ⟨_, rfl, .inl (u4 rfl hb_78)⟩ rfl ?_
                                                refine ds_ro' (ro_pickF (up_m rfl (u4 rfl hb_78)) ev_c) trivial rfl ?_
                                                refine ds_ro' (ro_move up_h) trivial rfl ?_
                                                refine ds_skip' ⟨_, rfl, .inl up_h⟩ rfl ?_
                                                refine ds_skip' ⟨_, rfl, .inl (up_m rfl up_h)⟩ rfl ?_
                                                refine ds_skip' ⟨_, rfl, .inl (u2 rfl up_h)⟩ rfl ?_
                                                refine ds_skip' ⟨_, rfl, .inl (up_m rfl (u2 rfl up_h))⟩ rfl ?_
                                                refine ds_skip' ⟨_, rfl, .inl (u4 rfl up_h)⟩ rfl ?_
                                                refine ds_skip' ⟨_, rfl, .inl (up_m rfl (u4 rfl up_h))⟩ rfl ?_
                                                refine ds_skip' ⟨_, rfl, .inl (u2 rfl (u4 rfl up_h))⟩ rfl ?_
                                                refine ds_skip' ⟨_, rfl, .inl (up_m rfl (u2 rfl (u4 rfl up_h)))⟩ rfl ?_
                                                refine ds_skip' ⟨_, rfl, .inl (u8 rfl up_h)⟩ rfl ?_
                                                refine ds_ro' (ro_pickF (up_m rfl (u8 rfl up_h)) ev_c) trivial rfl ?_
                                                refine ds_ro' (ro_assign up_h) trivial rfl ?_
                                                refine ds_nil ?_
                                                refine al_end (fun e_82 he_82 => ?_)
                                                have s6_82 := ef 6 he_82 up_h
                                                clear he_82 hb_77 hb_78 s11_74 s18_74 s19_74 s248_74 s5_74 s7_74
                                                refine then_n ?_
                                                refine aw_ret ?_
                                                refine ret1 (.inr rfl) (by kernel_rfl) (resV_tmp s6_82) (.ro _ rfl) ?_
                                                clear s6_82 mon_43_72 mo2_72 mo1_72 mo0_72 ml_72
                                                first | rfl | (simp; done) | (simp_all; done) | omega))
                                      · skip
                                        first
                                        | (cases hq_77; done) | ((first | replace hq_77 := bnt hq_77 | replace hq_77 := bnf hq_77 | replace hq_77 := bt hq_77 | replace hq_77 := bf hq_77 | replace hq_77 := bt' hq_77 | replace hq_77 := bf' hq_77 | skip); exfalso; omega) | (first | (simp [hw] at hq_77; done) | (rw [hw2] at hq_77; simp at hq_77; done))
                                        | ((first | replace hq_77 := bnt hq_77 | replace hq_77 := bnf hq_77 | replace hq_77 := bt hq_77 | replace hq_77 := bf hq_77 | replace hq_77 := bt' hq_77 | replace hq_77 := bf' hq_77 | skip)
                                           refine ds_skip' ⟨_, rfl, .inl hb_77⟩ rfl ?_
                                           refine ds_skip' ⟨_, rfl, .inl (up_m rfl hb_77)⟩ rfl ?_
                                           refine ds_skip' ⟨_, rfl, .inl (u2 rfl hb_77)⟩ rfl ?_
                                           refine ds_skip' ⟨_, rfl, .inl (up_m rfl (u2 rfl hb_77))⟩ rfl ?_
                                           refine ds_skip' ⟨_, rfl, .inl (u4 rfl hb_77)⟩ rfl ?_
                                           refine ds_skip' ⟨_, rfl, .inl (up_m rfl (u4 rfl hb_77))⟩ rfl ?_
                                           refine ds_skip' ⟨_, rfl, .inl (u2 rfl (u4 rfl hb_77))⟩ rfl ?_
                                           refine ds_skip' ⟨_, rfl, .inl (up_m rfl (u2 rfl (u4 rfl hb_77)))⟩ rfl ?_
                                           refine ds_ro' (ro_pickF (u8 rfl hb_77) ev_c) trivial rfl ?_
                                           refine ds_ro' (ro_move up_h) trivial rfl ?_
                                           refine ds_skip' ⟨_, rfl, .inl up_h⟩ rfl ?_
                                           refine ds_skip' ⟨_, rfl, .inl (up_m rfl up_h)⟩ rfl ?_
                                           refine ds_skip' ⟨_, rfl, .inl (u2 rfl up_h)⟩ rfl ?_
                                           refine ds_skip' ⟨_, rfl, .inl (up_m rfl (u2 rfl up_h))⟩ rfl ?_
                                           refine ds_skip' ⟨_, rfl, .inl (u4 rfl up_h)⟩ rfl ?_
                                           refine ds_ro' (ro_pickF (up_m rfl (u4 rfl up_h)) ev_c) trivial rfl ?_
                                           refine ds_ro' (ro_move up_h) trivial rfl ?_
                                           refine ds_skip' ⟨_, rfl, .inl up_h⟩ rfl ?_
                                           refine ds_skip' ⟨_, rfl, .inl (up_m rfl up_h)⟩ rfl ?_
                                           refine ds_skip' ⟨_, rfl, .inl (u2 rfl up_h)⟩ rfl ?_
                                           refine ds_skip' ⟨_, rfl, .inl (up_m rfl (u2 rfl up_h))⟩ rfl ?_
                                           refine ds_skip' ⟨_, rfl, .inl (u4 rfl up_h)⟩ rfl ?_
                                           refine ds_skip' ⟨_, rfl, .inl (up_m rfl (u4 rfl up_h))⟩ rfl ?_
                                           refine ds_skip' ⟨_, rfl, .inl (u2 rfl (u4 rfl up_h))⟩ rfl ?_
                                           refine ds_skip' ⟨_, rfl, .inl (up_m rfl (u2 rfl (u4 rfl up_h)))⟩ rfl ?_
                                           refine ds_skip' ⟨_, rfl, .inl (u8 rfl up_h)⟩ rfl ?_
                                           refine ds_ro' (ro_pickF (up_m rfl (u8 rfl up_h)) ev_c) trivial rfl ?_
                                           refine ds_ro' (ro_assign up_h) trivial rfl ?_
                                           refine ds_nil ?_
                                           refine al_end (fun e_83 he_83 => ?_)
                                           have s6_83 := ef 6 he_83 up_h
                                           clear he_83 hb_77 s11_74 s18_74 s19_74 s248_74 s5_74 s7_74
                                           refine then_n ?_
                                           refine aw_ret ?_
                                           refine ret1 (.inr rfl) (by kernel_rfl) (resV_tmp s6_83) (.ro _ rfl) ?_
                                           clear s6_83 mon_43_72 mo2_72 mo1_72 mo0_72 ml_72
                                           first | rfl | (simp; done) | (simp_all; done) | omega)))))))
end Go.Proofs.Ytelgkjekpcfffaa
