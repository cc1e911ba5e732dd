/- The law of chapter 5 on forward and backward: the walk. No conditions on a program. -/
import Derived.Test.YtelgkjekpcfffaaK18
namespace Go.Proofs.Ytelgkjekpcfffaa
open Go Go.RowKit Go.Proofs
set_option linter.unusedSimpArgs false
set_option linter.unusedVariables false
theorem k19_be4 (a b : Bool) : ∀ w, (binOp .eql 4 (.bool a) (.bool b)).run Try.prog w = .ok (.bool (a == b)) w := fun _ => by kernel_rfl
theorem k19_fl42_0 : FldIs Try.prog 42 0 0 false 1 := by unfold FldIs; kernel_rfl
theorem k19_fl42_1 : FldIs Try.prog 42 1 1 false 1 := by unfold FldIs; kernel_rfl
theorem k19_fl44_0 : FldIs Try.prog 44 0 0 true 2 := by unfold FldIs; kernel_rfl
theorem k19_fl44_1 : FldIs Try.prog 44 1 2 false 1 := by unfold FldIs; kernel_rfl
theorem k19_hcf15 : ∀ args w, (callFunc 15 args).run Try.prog w = .ok (.enter 15 args) w := fun _ _ => by kernel_rfl
theorem k19_hcf16 : ∀ args w, (callFunc 16 args).run Try.prog w = .ok (.enter 16 args) w := fun _ _ => by kernel_rfl
theorem k19_hcf18 : ∀ args w, (callFunc 18 args).run Try.prog w = .ok (.enter 18 args) w := fun _ _ => by kernel_rfl
theorem k19_hcf19 : ∀ args w, (callFunc 19 args).run Try.prog w = .ok (.enter 19 args) w := fun _ _ => by kernel_rfl
theorem k19_hcf23 : ∀ args w, (callFunc 23 args).run Try.prog w = .ok (.enter 23 args) w := fun _ _ => by kernel_rfl
theorem k19_hcf24 : ∀ args w, (callFunc 24 args).run Try.prog w = .ok (.enter 24 args) w := fun _ _ => by kernel_rfl
theorem k19_hcf25 : ∀ args w, (callFunc 25 args).run Try.prog w = .ok (.enter 25 args) w := fun _ _ => by kernel_rfl
theorem k19_hcf26 : ∀ args w, (callFunc 26 args).run Try.prog w = .ok (.enter 26 args) w := fun _ _ => by kernel_rfl
theorem k19_hcf28 : ∀ args w, (callFunc 28 args).run Try.prog w = .ok (.enter 28 args) w := fun _ _ => by kernel_rfl
theorem k19_hcf29 : ∀ args w, (callFunc 29 args).run Try.prog w = .ok (.enter 29 args) w := fun _ _ => by kernel_rfl
theorem k19_sl30 : SlIs Try.prog 30 3 1 8 (.int .i64 0) := ⟨by kernel_rfl, by kernel_rfl, by kernel_rfl⟩
theorem k19_ty24 : TyIs Try.prog 24 true 2 := ⟨by kernel_rfl, by kernel_rfl⟩
theorem k19_ty26 : TyIs Try.prog 26 true 3 := ⟨by kernel_rfl, by kernel_rfl⟩
theorem k19_ty3 : TyIs Try.prog 3 false 1 := ⟨by kernel_rfl, by kernel_rfl⟩
theorem k19_ty42 : TyIs Try.prog 42 true 2 := ⟨by kernel_rfl, by kernel_rfl⟩

section
variable {nm : ByteArray} {ps : List Piece} (hs : nm.size ≤ 1000000000) (hp : ps.length ≤ 1000000000) {b d v post sq stop : Int} (hq : runE nm ps b d v post sq stop = 0) (hc : curE nm ps b d v stop = 0)
include hs hp
theorem curveOf2_ok (hc : curE nm ps b d v stop = 0) : FnOk Try.prog 28 [trA nm ps, syA b d v, iA stop] (fun q => q = .tuple [.row 1 ((bwL ps b 0 (stop + 1).toNat).map iE), iA 0]) :=
  (curveOf_ok nm ps hs hp b d v stop).mono fun q h => h.trans (by rw [hc, if_pos rfl])
theorem leastOf2_ok (hc : curE nm ps b d v stop = 0) : FnOk Try.prog 29 [trA nm ps, syA b d v, iA stop] (fun q => q = .tuple [.row 1 ((leL ps d stop.toNat).map iE), iA 0]) :=
  (leastOf_ok nm ps hs hp b d v stop).mono fun q h => h.trans (by rw [hc, if_pos rfl])
theorem reaches3_ok (hq : runE nm ps b d v post sq stop = 0) : FnOk Try.prog 23 [trA nm ps, syA b d v, .agg [iA post, iA sq], iA stop] (fun q => q = .tuple [bA (decide ((runW ps b d stop post sq).2 = 0)), iA 0]) :=
  (reaches_ok nm ps hs hp b d v post sq stop).mono fun q h => h.trans (by rw [hq, if_pos rfl])
theorem runTo3_ok (hq : runE nm ps b d v post sq stop = 0) : FnOk Try.prog 24 [trA nm ps, syA b d v, .agg [iA post, iA sq], iA stop] (fun q => q = .tuple [.row 1 ((runW ps b d stop post sq).1.map iE), iA (runW ps b d stop post sq).2]) :=
  (runTo_ok nm ps hs hp b d v post sq stop).mono fun q h => h.trans (by rw [hq, if_pos rfl, if_pos rfl])
end
theorem runE_zero {nm : ByteArray} {ps : List Piece} {b d v post sq stop : Int} (hB : firstE [(chk nm ps).2, sysE b d v] = 0) (hS : stateE ps post sq = 0) (hT : stopE ps stop = 0) (hle : post ≤ stop) : runE nm ps b d v post sq stop = 0 ∧ curE nm ps b d v stop = 0 := by
  constructor
  · rw [runE_d, d2R, d1R, if_pos hB, if_pos hS, if_neg (by omega)]; exact hT
  · have h : curE nm ps b d v stop = firstE [firstE [(chk nm ps).2, sysE b d v], stopE ps stop] := rfl
    rw [h, firstE_two, if_pos hB]; exact hT
theorem two_step {A : Prop} {F : Nat → Prop} {post i : Int} (h : 0 ≤ i ∧ post ≤ i) : ((A ∧ ∀ j : Nat, post ≤ j → j < i → F j) ∧ F i.toNat) ↔ (A ∧ ∀ j : Nat, post ≤ j → j < i + 1 → F j) := by
  constructor
  · rintro ⟨⟨a, b⟩, c⟩
    refine ⟨a, fun j j1 j2 => ?_⟩
    by_cases hj : (j : Int) < i
    · exact b j j1 hj
    · rw [show j = i.toNat by omega]; exact c
  · rintro ⟨a, b⟩
    exact ⟨⟨a, fun j j1 j2 => b j j1 (by omega)⟩, b _ (by omega) (by omega)⟩
theorem two_back {A : Prop} {F : Nat → Prop} {post i : Int} {bb x : Bool} (h0 : 0 ≤ i) (h1 : post ≤ i) (p : bb = true ↔ (A ∧ ∀ j : Nat, post ≤ j → j < i → F j)) (h : x = true ↔ (bb = true ∧ F i.toNat)) : x = true ↔ (A ∧ ∀ j : Nat, post ≤ j → j < i + 1 → F j) := by
  rw [h, p]; exact two_step ⟨h0, h1⟩
set_option maxRecDepth 100000 in
set_option maxHeartbeats 4000000 in
theorem brakeTwoWays_ok (nm : ByteArray) (ps : List Piece) (b d v : Int) (post sq stop : Int) : FnOk Try.prog 7 [trA nm ps, syA b d v, .agg [iA post, iA sq, iA stop]] (fun q => q = bA true) := by
  refine fnOk_of (fn := Try.f7) 186 (by kernel_rfl) rfl (by kernel_rfl) (Nat.le_of_ble_eq_true rfl) ?_
  intro e_0 m_0 hA hm_0
  have s0_0 : evA e_0 (.tmp 0) = _ := hA 0 _ rfl
  have s1_0 : evA e_0 (.tmp 1) = _ := hA 1 _ rfl
  have s2_0 : evA e_0 (.tmp 2) = _ := hA 2 _ rfl
  have ml_0 : m_0.length = 0 := by rw [hm_0]; rfl
  clear hA hm_0
  refine aw_seq ?_
  refine aw_text ?_
  refine al_stm (st_box s0_0 rfl ml_0) trivial rfl (fun m_1 hm_1 => ?_)
  have mo0_1 := m_push hm_1 ml_0
  (try simp only [packA_t, packA_f, iE, bE, setAt, cellsA, Value.cells, map_vc, map_vn, Nat.reduceAdd, qS] at mo0_1)
  have ml_1 := m_push_l hm_1 ml_0
  have ml_1 : _ = 1 := ml_1
  clear hm_1
  refine al_stm (st_box (up_m rfl s1_0) rfl ml_1) trivial rfl (fun m_2 hm_2 => ?_)
  have mo1_2 := m_push hm_2 ml_1
  (try simp only [packA_t, packA_f, iE, bE, setAt, cellsA, Value.cells, map_vc, map_vn, Nat.reduceAdd, qS] at mo1_2)
  have mo0_2 := m_push_o hm_2 mo0_1
  have ml_2 := m_push_l hm_2 ml_1
  have ml_2 : _ = 2 := ml_2
  clear hm_2 mo0_1
  refine al_stm (st_box (u2 rfl s2_0) rfl ml_2) trivial rfl (fun m_3 hm_3 => ?_)
  have mo2_3 := m_push hm_3 ml_2
  (try simp only [packA_t, packA_f, iE, bE, setAt, cellsA, Value.cells, map_vc, map_vn, Nat.reduceAdd, qS] at mo2_3)
  have mo1_3 := m_push_o hm_3 mo1_2
  have mo0_3 := m_push_o hm_3 mo0_2
  have ml_3 := m_push_l hm_3 ml_2
  have ml_3 : _ = 3 := ml_3
  clear hm_3 mo1_2 mo0_2
  refine al_ro' (ro_assign ev_c) trivial rfl ?_
  refine al_end (fun e_4 he_4 => ?_)
  have s3_4 := ef 3 he_4 (up_m rfl (u2 rfl up_h))
  have s4_4 := ef 4 he_4 (u2 rfl up_h)
  have s5_4 := ef 5 he_4 (up_m rfl up_h)
  clear he_4 s0_0 s1_0 s2_0
  refine then_n ?_
  refine aw_seq ?_
  refine aw_seq ?_
  refine aw_text ?_
  refine al_ro' (ro_call evL_nil rfl (awake_ok) k19_hcf15) trivial rfl ?_
  refine al_ro' (ro_not up_h) trivial rfl ?_
  refine al_end (fun e_5 he_5 => ?_)
  have s3_5 := ef 3 he_5 (u2 rfl s3_4)
  have s4_5 := ef 4 he_5 (u2 rfl s4_4)
  have s5_5 := ef 5 he_5 (u2 rfl s5_4)
  have s18_5 := ef 18 he_5 up_h
  clear he_5 s3_4 s4_4 s5_4
  refine then_n ?_
  refine aw_case s18_5 (fun hq_6 => ?_) (fun hq_6 => ?_)
  · skip
    first
    | (cases hq_6; done) | ((first | replace hq_6 := bnt hq_6 | replace hq_6 := bnf hq_6 | replace hq_6 := bt hq_6 | replace hq_6 := bf hq_6 | replace hq_6 := bt' hq_6 | replace hq_6 := bf' hq_6 | skip); exfalso; omega) | (rw [hbe] at hq_6; cases hq_6; done)
    | ((first | replace hq_6 := bnt hq_6 | replace hq_6 := bnf hq_6 | replace hq_6 := bt hq_6 | replace hq_6 := bf hq_6 | replace hq_6 := bt' hq_6 | replace hq_6 := bf' hq_6 | skip)
       refine aw_seq ?_
       refine aw_text ?_
       refine al_ro' (ro_assign ev_c) trivial rfl ?_
       refine al_end (fun e_7 he_7 => ?_)
       have s6_7 := ef 6 he_7 up_h
       clear he_7 s18_5 s3_5 s4_5 s5_5
       refine then_n ?_
       refine aw_ret ?_
       refine then_r ?_
       refine ret1 (.inr rfl) (by kernel_rfl) (resV_tmp s6_7) (.ro _ rfl) ?_
       clear s6_7 mo2_3 mo1_3 mo0_3 ml_3
       (first | rfl | (have hc0 : ¬ (runW ps b d stop post sq).2 = 0 := (fun h => by have := p3.2 h; simp_all); have h12 : (runW ps b d stop post sq).2 = 12 := (by omega); simp [h12]; done)))
  · skip
    first
    | (cases hq_6; done) | ((first | replace hq_6 := bnt hq_6 | replace hq_6 := bnf hq_6 | replace hq_6 := bt hq_6 | replace hq_6 := bf hq_6 | replace hq_6 := bt' hq_6 | replace hq_6 := bf' hq_6 | skip); exfalso; omega) | (rw [hbe] at hq_6; cases hq_6; done)
    | ((first | replace hq_6 := bnt hq_6 | replace hq_6 := bnf hq_6 | replace hq_6 := bt hq_6 | replace hq_6 := bf hq_6 | replace hq_6 := bt' hq_6 | replace hq_6 := bf' hq_6 | skip)
       refine aw_skip ?_
       refine then_n ?_
       refine aw_seq ?_
       refine aw_seq ?_
       refine aw_cut (fun e mem => (evA e (.tmp 49) = .v (.bool (decide (¬ (nm.size ≤ 30 ∧ ps.length ≤ 14) ∨ firstE [(chk nm ps).2, sysE b d v] ≠ 0 ∨ stateE ps post sq ≠ 0 ∨ stopE ps stop ≠ 0 ∨ stop < post)))) ∧ (evA e (.tmp 3) = evA e_5 (.tmp 3)) ∧ (evA e (.tmp 4) = evA e_5 (.tmp 4)) ∧ (evA e (.tmp 5) = evA e_5 (.tmp 5)) ∧ m_3 = mem) ?_ ?_
       ·
         refine aw_text ?_
         refine al_ro' (ro_eq (ro_ld_ptr k19_ty24 rfl mo0_3 s3_5 (by first | exact Nat.le_of_ble_eq_true rfl | omega | (simp only [lnS] <;> omega) | (simp <;> omega))) (by first | (simp only [packA_t, packA_f, iE, bE, setAt, cellsA, Value.cells, map_vc, map_vn, Nat.reduceAdd, qS] <;> rfl) | rfl)) trivial rfl ?_
         refine al_ro' (ro_call (evL_cons up_h evL_nil) rfl (short_ok nm ps) k19_hcf16) trivial rfl ?_
         refine al_ro' (ro_not up_h) trivial rfl ?_
         refine al_ro' (ro_move up_h) trivial rfl ?_
         refine al_case up_h (fun hb_9 hq_9 => ?_) (fun hb_9 hq_9 => ?_)
         · skip
           first
           | (cases hq_9; done) | ((first | replace hq_9 := bnt hq_9 | replace hq_9 := bnf hq_9 | replace hq_9 := bt hq_9 | replace hq_9 := bf hq_9 | replace hq_9 := bt' hq_9 | replace hq_9 := bf' hq_9 | skip); exfalso; omega) | (rw [hbe] at hq_9; cases hq_9; done)
           | ((first | replace hq_9 := bnt hq_9 | replace hq_9 := bnf hq_9 | replace hq_9 := bt hq_9 | replace hq_9 := bf hq_9 | replace hq_9 := bt' hq_9 | replace hq_9 := bf' hq_9 | skip)
              refine al_skip' ⟨_, rfl, .inl hb_9⟩ rfl ?_
              refine al_skip' ⟨_, rfl, .inl (up_m rfl hb_9)⟩ rfl ?_
              refine al_skip' ⟨_, rfl, .inl (u2 rfl hb_9)⟩ rfl ?_
              refine al_skip' ⟨_, rfl, .inl (up_m rfl (u2 rfl hb_9))⟩ rfl ?_
              refine al_ro' (ro_pickT (u4 rfl hb_9) ev_c) trivial rfl ?_
              refine al_ro' (ro_move up_h) trivial rfl ?_
              refine al_skip' ⟨_, rfl, .inl up_h⟩ rfl ?_
              refine al_skip' ⟨_, rfl, .inl (up_m rfl up_h)⟩ rfl ?_
              refine al_skip' ⟨_, rfl, .inl (u2 rfl up_h)⟩ rfl ?_
              refine al_skip' ⟨_, rfl, .inl (up_m rfl (u2 rfl up_h))⟩ rfl ?_
              refine al_skip' ⟨_, rfl, .inl (u4 rfl up_h)⟩ rfl ?_
              refine al_ro' (ro_pickT (up_m rfl (u4 rfl up_h)) ev_c) trivial rfl ?_
              refine al_ro' (ro_move up_h) trivial rfl ?_
              refine al_skip' ⟨_, rfl, .inl up_h⟩ rfl ?_
              refine al_skip' ⟨_, rfl, .inl (up_m rfl up_h)⟩ rfl ?_
              refine al_skip' ⟨_, rfl, .inl (u2 rfl up_h)⟩ rfl ?_
              refine al_skip' ⟨_, rfl, .inl (up_m rfl (u2 rfl up_h))⟩ rfl ?_
              refine al_skip' ⟨_, rfl, .inl (u4 rfl up_h)⟩ rfl ?_
              refine al_ro' (ro_pickT (up_m rfl (u4 rfl up_h)) ev_c) trivial rfl ?_
              refine al_ro' (ro_move up_h) trivial rfl ?_
              refine al_skip' ⟨_, rfl, .inl up_h⟩ rfl ?_
              refine al_skip' ⟨_, rfl, .inl (up_m rfl up_h)⟩ rfl ?_
              refine al_skip' ⟨_, rfl, .inl (u2 rfl up_h)⟩ rfl ?_
              refine al_skip' ⟨_, rfl, .inl (up_m rfl (u2 rfl up_h))⟩ rfl ?_
              refine al_skip' ⟨_, rfl, .inl (u4 rfl up_h)⟩ rfl ?_
              refine al_skip' ⟨_, rfl, .inl (up_m rfl (u4 rfl up_h))⟩ rfl ?_
              refine al_ro' (ro_pickT (u2 rfl (u4 rfl up_h)) ev_c) trivial rfl ?_
              refine al_end (fun e_10 he_10 => ?_)
              have s3_10 := ef 3 he_10 (up_m rfl (u2 rfl (u4 rfl (u8 rfl (u16 rfl s3_5)))))
              have s4_10 := ef 4 he_10 (up_m rfl (u2 rfl (u4 rfl (u8 rfl (u16 rfl s4_5)))))
              have s5_10 := ef 5 he_10 (up_m rfl (u2 rfl (u4 rfl (u8 rfl (u16 rfl s5_5)))))
              have s49_10 := ef 49 he_10 up_h
              clear he_10
              refine then_n ⟨(s49_10).trans (by (refine avb ?_; simp only [decide_eq_true_eq, Bool.false_eq_true, true_iff, false_iff]; omega)), (s3_10).trans (s3_5).symm, (s4_10).trans (s4_5).symm, (s5_10).trans (s5_5).symm, rfl⟩)
         · skip
           first
           | (cases hq_9; done) | ((first | replace hq_9 := bnt hq_9 | replace hq_9 := bnf hq_9 | replace hq_9 := bt hq_9 | replace hq_9 := bf hq_9 | replace hq_9 := bt' hq_9 | replace hq_9 := bf' hq_9 | skip); exfalso; omega) | (rw [hbe] at hq_9; cases hq_9; done)
           | ((first | replace hq_9 := bnt hq_9 | replace hq_9 := bnf hq_9 | replace hq_9 := bt hq_9 | replace hq_9 := bf hq_9 | replace hq_9 := bt' hq_9 | replace hq_9 := bf' hq_9 | skip)
              refine al_ro' (ro_eq (ro_ld_ptr k19_ty24 rfl mo0_3 (u4 rfl s3_5) (by first | exact Nat.le_of_ble_eq_true rfl | omega | (simp only [lnS] <;> omega) | (simp <;> omega))) (by first | (simp only [packA_t, packA_f, iE, bE, setAt, cellsA, Value.cells, map_vc, map_vn, Nat.reduceAdd, qS] <;> rfl) | rfl)) ⟨_, rfl, hb_9⟩ rfl ?_
              refine al_ro' (ro_eq (ro_ld_ptr k19_ty26 rfl mo1_3 (up_m rfl (u4 rfl s4_5)) (by first | exact Nat.le_of_ble_eq_true rfl | omega | (simp only [lnS] <;> omega) | (simp <;> omega))) (by first | (simp only [packA_t, packA_f, iE, bE, setAt, cellsA, Value.cells, map_vc, map_vn, Nat.reduceAdd, qS] <;> rfl) | rfl)) ⟨_, rfl, (up_m rfl hb_9)⟩ rfl ?_
              refine al_ro' (ro_call (evL_cons (up_m rfl up_h) (evL_cons up_h evL_nil)) rfl (rBothErr_ok nm ps (by omega) (by omega) b d v) k19_hcf19) ⟨_, rfl, (u2 rfl hb_9)⟩ rfl ?_
              refine al_ro' (ro_neq up_h ev_c) ⟨_, rfl, (up_m rfl (u2 rfl hb_9))⟩ rfl ?_
              refine al_ro' (ro_pickF (u4 rfl hb_9) up_h) trivial rfl ?_
              refine al_ro' (ro_move up_h) trivial rfl ?_
              refine al_case up_h (fun hb_11 hq_11 => ?_) (fun hb_11 hq_11 => ?_)
              · skip
                first
                | (cases hq_11; done) | ((first | replace hq_11 := bnt hq_11 | replace hq_11 := bnf hq_11 | replace hq_11 := bt hq_11 | replace hq_11 := bf hq_11 | replace hq_11 := bt' hq_11 | replace hq_11 := bf' hq_11 | skip); exfalso; omega) | (rw [hbe] at hq_11; cases hq_11; done)
                | ((first | replace hq_11 := bnt hq_11 | replace hq_11 := bnf hq_11 | replace hq_11 := bt hq_11 | replace hq_11 := bf hq_11 | replace hq_11 := bt' hq_11 | replace hq_11 := bf' hq_11 | skip)
                   refine al_skip' ⟨_, rfl, .inl hb_11⟩ rfl ?_
                   refine al_skip' ⟨_, rfl, .inl (up_m rfl hb_11)⟩ rfl ?_
                   refine al_skip' ⟨_, rfl, .inl (u2 rfl hb_11)⟩ rfl ?_
                   refine al_skip' ⟨_, rfl, .inl (up_m rfl (u2 rfl hb_11))⟩ rfl ?_
                   refine al_skip' ⟨_, rfl, .inl (u4 rfl hb_11)⟩ rfl ?_
                   refine al_ro' (ro_pickT (up_m rfl (u4 rfl hb_11)) ev_c) trivial rfl ?_
                   refine al_ro' (ro_move up_h) trivial rfl ?_
                   refine al_skip' ⟨_, rfl, .inl up_h⟩ rfl ?_
                   refine al_skip' ⟨_, rfl, .inl (up_m rfl up_h)⟩ rfl ?_
                   refine al_skip' ⟨_, rfl, .inl (u2 rfl up_h)⟩ rfl ?_
                   refine al_skip' ⟨_, rfl, .inl (up_m rfl (u2 rfl up_h))⟩ rfl ?_
                   refine al_skip' ⟨_, rfl, .inl (u4 rfl up_h)⟩ rfl ?_
                   refine al_ro' (ro_pickT (up_m rfl (u4 rfl up_h)) ev_c) trivial rfl ?_
                   refine al_ro' (ro_move up_h) trivial rfl ?_
                   refine al_skip' ⟨_, rfl, .inl up_h⟩ rfl ?_
                   refine al_skip' ⟨_, rfl, .inl (up_m rfl up_h)⟩ rfl ?_
                   refine al_skip' ⟨_, rfl, .inl (u2 rfl up_h)⟩ rfl ?_
                   refine al_skip' ⟨_, rfl, .inl (up_m rfl (u2 rfl up_h))⟩ rfl ?_
                   refine al_skip' ⟨_, rfl, .inl (u4 rfl up_h)⟩ rfl ?_
                   refine al_skip' ⟨_, rfl, .inl (up_m rfl (u4 rfl up_h))⟩ rfl ?_
                   refine al_ro' (ro_pickT (u2 rfl (u4 rfl up_h)) ev_c) trivial rfl ?_
                   refine al_end (fun e_12 he_12 => ?_)
                   have s3_12 := ef 3 he_12 (up_m rfl (u2 rfl (u4 rfl (u8 rfl (u16 rfl s3_5)))))
                   have s4_12 := ef 4 he_12 (up_m rfl (u2 rfl (u4 rfl (u8 rfl (u16 rfl s4_5)))))
                   have s5_12 := ef 5 he_12 (up_m rfl (u2 rfl (u4 rfl (u8 rfl (u16 rfl s5_5)))))
                   have s49_12 := ef 49 he_12 up_h
                   clear he_12
                   refine then_n ⟨(s49_12).trans (by (refine avb ?_; simp only [decide_eq_true_eq, Bool.false_eq_true, true_iff, false_iff]; omega)), (s3_12).trans (s3_5).symm, (s4_12).trans (s4_5).symm, (s5_12).trans (s5_5).symm, rfl⟩)
              · skip
                first
                | (cases hq_11; done) | ((first | replace hq_11 := bnt hq_11 | replace hq_11 := bnf hq_11 | replace hq_11 := bt hq_11 | replace hq_11 := bf hq_11 | replace hq_11 := bt' hq_11 | replace hq_11 := bf' hq_11 | skip); exfalso; omega) | (rw [hbe] at hq_11; cases hq_11; done)
                | ((first | replace hq_11 := bnt hq_11 | replace hq_11 := bnf hq_11 | replace hq_11 := bt hq_11 | replace hq_11 := bf hq_11 | replace hq_11 := bt' hq_11 | replace hq_11 := bf' hq_11 | skip)
                   refine al_ro' (ro_eq (ro_ld_ptr k19_ty24 rfl mo0_3 (u2 rfl (u8 rfl s3_5)) (by first | exact Nat.le_of_ble_eq_true rfl | omega | (simp only [lnS] <;> omega) | (simp <;> omega))) (by first | (simp only [packA_t, packA_f, iE, bE, setAt, cellsA, Value.cells, map_vc, map_vn, Nat.reduceAdd, qS] <;> rfl) | rfl)) ⟨_, rfl, hb_11⟩ rfl ?_
                   refine al_ro' (ro_fld_ptr k19_fl44_0 rfl (up_m rfl (u2 rfl (u8 rfl s5_5)))) ⟨_, rfl, (up_m rfl hb_11)⟩ rfl ?_
                   refine al_ro' (ro_eq (ro_ld_ptr k19_ty42 rfl mo2_3 up_h (by first | exact Nat.le_of_ble_eq_true rfl | omega | (simp only [lnS] <;> omega) | (simp <;> omega))) (by first | (simp only [packA_t, packA_f, iE, bE, setAt, cellsA, Value.cells, map_vc, map_vn, Nat.reduceAdd, qS] <;> rfl) | rfl)) ⟨_, rfl, (u2 rfl hb_11)⟩ rfl ?_
                   refine al_ro' (ro_call (evL_cons (u2 rfl up_h) (evL_cons up_h evL_nil)) rfl (rStateErr_ok nm ps post sq) k19_hcf25) ⟨_, rfl, (up_m rfl (u2 rfl hb_11))⟩ rfl ?_
                   refine al_ro' (ro_neq up_h ev_c) ⟨_, rfl, (u4 rfl hb_11)⟩ rfl ?_
                   refine al_ro' (ro_pickF (up_m rfl (u4 rfl hb_11)) up_h) trivial rfl ?_
                   refine al_ro' (ro_move up_h) trivial rfl ?_
                   refine al_case up_h (fun hb_13 hq_13 => ?_) (fun hb_13 hq_13 => ?_)
                   · skip
                     first
                     | (cases hq_13; done) | ((first | replace hq_13 := bnt hq_13 | replace hq_13 := bnf hq_13 | replace hq_13 := bt hq_13 | replace hq_13 := bf hq_13 | replace hq_13 := bt' hq_13 | replace hq_13 := bf' hq_13 | skip); exfalso; omega) | (rw [hbe] at hq_13; cases hq_13; done)
                     | ((first | replace hq_13 := bnt hq_13 | replace hq_13 := bnf hq_13 | replace hq_13 := bt hq_13 | replace hq_13 := bf hq_13 | replace hq_13 := bt' hq_13 | replace hq_13 := bf' hq_13 | skip)
                        refine al_skip' ⟨_, rfl, .inl hb_13⟩ rfl ?_
                        refine al_skip' ⟨_, rfl, .inl (up_m rfl hb_13)⟩ rfl ?_
                        refine al_skip' ⟨_, rfl, .inl (u2 rfl hb_13)⟩ rfl ?_
                        refine al_skip' ⟨_, rfl, .inl (up_m rfl (u2 rfl hb_13))⟩ rfl ?_
                        refine al_skip' ⟨_, rfl, .inl (u4 rfl hb_13)⟩ rfl ?_
                        refine al_ro' (ro_pickT (up_m rfl (u4 rfl hb_13)) ev_c) trivial rfl ?_
                        refine al_ro' (ro_move up_h) trivial rfl ?_
                        refine al_skip' ⟨_, rfl, .inl up_h⟩ rfl ?_
                        refine al_skip' ⟨_, rfl, .inl (up_m rfl up_h)⟩ rfl ?_
                        refine al_skip' ⟨_, rfl, .inl (u2 rfl up_h)⟩ rfl ?_
                        refine al_skip' ⟨_, rfl, .inl (up_m rfl (u2 rfl up_h))⟩ rfl ?_
                        refine al_skip' ⟨_, rfl, .inl (u4 rfl up_h)⟩ rfl ?_
                        refine al_skip' ⟨_, rfl, .inl (up_m rfl (u4 rfl up_h))⟩ rfl ?_
                        refine al_ro' (ro_pickT (u2 rfl (u4 rfl up_h)) ev_c) trivial rfl ?_
                        refine al_end (fun e_14 he_14 => ?_)
                        have s3_14 := ef 3 he_14 (up_m rfl (u2 rfl (u4 rfl (u8 rfl (u16 rfl s3_5)))))
                        have s4_14 := ef 4 he_14 (up_m rfl (u2 rfl (u4 rfl (u8 rfl (u16 rfl s4_5)))))
                        have s5_14 := ef 5 he_14 (up_m rfl (u2 rfl (u4 rfl (u8 rfl (u16 rfl s5_5)))))
                        have s49_14 := ef 49 he_14 up_h
                        clear he_14
                        refine then_n ⟨(s49_14).trans (by (refine avb ?_; simp only [decide_eq_true_eq, Bool.false_eq_true, true_iff, false_iff]; omega)), (s3_14).trans (s3_5).symm, (s4_14).trans (s4_5).symm, (s5_14).trans (s5_5).symm, rfl⟩)
                   · skip
                     first
                     | (cases hq_13; done) | ((first | replace hq_13 := bnt hq_13 | replace hq_13 := bnf hq_13 | replace hq_13 := bt hq_13 | replace hq_13 := bf hq_13 | replace hq_13 := bt' hq_13 | replace hq_13 := bf' hq_13 | skip); exfalso; omega) | (rw [hbe] at hq_13; cases hq_13; done)
                     | ((first | replace hq_13 := bnt hq_13 | replace hq_13 := bnf hq_13 | replace hq_13 := bt hq_13 | replace hq_13 := bf hq_13 | replace hq_13 := bt' hq_13 | replace hq_13 := bf' hq_13 | skip)
                        refine al_ro' (ro_eq (ro_ld_ptr k19_ty24 rfl mo0_3 (up_m rfl (u16 rfl s3_5)) (by first | exact Nat.le_of_ble_eq_true rfl | omega | (simp only [lnS] <;> omega) | (simp <;> omega))) (by first | (simp only [packA_t, packA_f, iE, bE, setAt, cellsA, Value.cells, map_vc, map_vn, Nat.reduceAdd, qS] <;> rfl) | rfl)) ⟨_, rfl, hb_13⟩ rfl ?_
                        refine al_ro' (ro_fld_ptr k19_fl44_1 rfl (u2 rfl (u16 rfl s5_5))) ⟨_, rfl, (up_m rfl hb_13)⟩ rfl ?_
                        refine al_ro' (ro_eq (ro_ld_ptr k19_ty3 rfl mo2_3 up_h (by first | exact Nat.le_of_ble_eq_true rfl | omega | (simp only [lnS] <;> omega) | (simp <;> omega))) (by first | (simp only [packA_t, packA_f, iE, bE, setAt, cellsA, Value.cells, map_vc, map_vn, Nat.reduceAdd, qS] <;> rfl) | rfl)) ⟨_, rfl, (u2 rfl hb_13)⟩ rfl ?_
                        refine al_ro' (ro_call (evL_cons (u2 rfl up_h) (evL_cons up_h evL_nil)) rfl (rStopErr_ok nm ps (by omega) stop) k19_hcf26) ⟨_, rfl, (up_m rfl (u2 rfl hb_13))⟩ rfl ?_
                        refine al_ro' (ro_neq up_h ev_c) ⟨_, rfl, (u4 rfl hb_13)⟩ rfl ?_
                        refine al_ro' (ro_pickF (up_m rfl (u4 rfl hb_13)) up_h) trivial rfl ?_
                        refine al_ro' (ro_move up_h) trivial rfl ?_
                        refine al_case up_h (fun hb_15 hq_15 => ?_) (fun hb_15 hq_15 => ?_)
                        · skip
                          first
                          | (cases hq_15; done) | ((first | replace hq_15 := bnt hq_15 | replace hq_15 := bnf hq_15 | replace hq_15 := bt hq_15 | replace hq_15 := bf hq_15 | replace hq_15 := bt' hq_15 | replace hq_15 := bf' hq_15 | skip); exfalso; omega) | (rw [hbe] at hq_15; cases hq_15; done)
                          | ((first | replace hq_15 := bnt hq_15 | replace hq_15 := bnf hq_15 | replace hq_15 := bt hq_15 | replace hq_15 := bf hq_15 | replace hq_15 := bt' hq_15 | replace hq_15 := bf' hq_15 | skip)
                             refine al_skip' ⟨_, rfl, .inl hb_15⟩ rfl ?_
                             refine al_skip' ⟨_, rfl, .inl (up_m rfl hb_15)⟩ rfl ?_
                             refine al_skip' ⟨_, rfl, .inl (u2 rfl hb_15)⟩ rfl ?_
                             refine al_skip' ⟨_, rfl, .inl (up_m rfl (u2 rfl hb_15))⟩ rfl ?_
                             refine al_skip' ⟨_, rfl, .inl (u4 rfl hb_15)⟩ rfl ?_
                             refine al_skip' ⟨_, rfl, .inl (up_m rfl (u4 rfl hb_15))⟩ rfl ?_
                             refine al_ro' (ro_pickT (u2 rfl (u4 rfl hb_15)) ev_c) trivial rfl ?_
                             refine al_end (fun e_16 he_16 => ?_)
                             have s3_16 := ef 3 he_16 (up_m rfl (u2 rfl (u4 rfl (u8 rfl (u16 rfl s3_5)))))
                             have s4_16 := ef 4 he_16 (up_m rfl (u2 rfl (u4 rfl (u8 rfl (u16 rfl s4_5)))))
                             have s5_16 := ef 5 he_16 (up_m rfl (u2 rfl (u4 rfl (u8 rfl (u16 rfl s5_5)))))
                             have s49_16 := ef 49 he_16 up_h
                             clear he_16
                             refine then_n ⟨(s49_16).trans (by (refine avb ?_; simp only [decide_eq_true_eq, Bool.false_eq_true, true_iff, false_iff]; omega)), (s3_16).trans (s3_5).symm, (s4_16).trans (s4_5).symm, (s5_16).trans (s5_5).symm, rfl⟩)
                        · skip
                          first
                          | (cases hq_15; done) | ((first | replace hq_15 := bnt hq_15 | replace hq_15 := bnf hq_15 | replace hq_15 := bt hq_15 | replace hq_15 := bf hq_15 | replace hq_15 := bt' hq_15 | replace hq_15 := bf' hq_15 | skip); exfalso; omega) | (rw [hbe] at hq_15; cases hq_15; done)
                          | ((first | replace hq_15 := bnt hq_15 | replace hq_15 := bnf hq_15 | replace hq_15 := bt hq_15 | replace hq_15 := bf hq_15 | replace hq_15 := bt' hq_15 | replace hq_15 := bf' hq_15 | skip)
                             refine al_ro' (ro_fld_ptr k19_fl44_0 rfl (u8 rfl (u16 rfl s5_5))) ⟨_, rfl, hb_15⟩ rfl ?_
                             refine al_ro' (ro_fld_ptr k19_fl42_0 rfl up_h) ⟨_, rfl, (up_m rfl hb_15)⟩ rfl ?_
                             refine al_ro' (ro_eq (ro_ld_ptr k19_ty3 rfl mo2_3 up_h (by first | exact Nat.le_of_ble_eq_true rfl | omega | (simp only [lnS] <;> omega) | (simp <;> omega))) (by first | (simp only [packA_t, packA_f, iE, bE, setAt, cellsA, Value.cells, map_vc, map_vn, Nat.reduceAdd, qS] <;> rfl) | rfl)) ⟨_, rfl, (u2 rfl hb_15)⟩ rfl ?_
                             refine al_ro' (ro_fld_ptr k19_fl44_1 rfl (up_m rfl (u2 rfl (u8 rfl (u16 rfl s5_5))))) ⟨_, rfl, (up_m rfl (u2 rfl hb_15))⟩ rfl ?_
                             refine al_ro' (ro_eq (ro_ld_ptr k19_ty3 rfl mo2_3 up_h (by first | exact Nat.le_of_ble_eq_true rfl | omega | (simp only [lnS] <;> omega) | (simp <;> omega))) (by first | (simp only [packA_t, packA_f, iE, bE, setAt, cellsA, Value.cells, map_vc, map_vn, Nat.reduceAdd, qS] <;> rfl) | rfl)) ⟨_, rfl, (u4 rfl hb_15)⟩ rfl ?_
                             refine al_ro' (ro_gtr (u2 rfl up_h) up_h) ⟨_, rfl, (up_m rfl (u4 rfl hb_15))⟩ rfl ?_
                             refine al_ro' (ro_pickF (u2 rfl (u4 rfl hb_15)) up_h) trivial rfl ?_
                             refine al_end (fun e_17 he_17 => ?_)
                             have s3_17 := ef 3 he_17 (up_m rfl (u2 rfl (u4 rfl (u8 rfl (u16 rfl s3_5)))))
                             have s4_17 := ef 4 he_17 (up_m rfl (u2 rfl (u4 rfl (u8 rfl (u16 rfl s4_5)))))
                             have s5_17 := ef 5 he_17 (up_m rfl (u2 rfl (u4 rfl (u8 rfl (u16 rfl s5_5)))))
                             have s49_17 := ef 49 he_17 up_h
                             clear he_17
                             refine then_n ⟨(s49_17).trans (by (refine avb ?_; simp only [decide_eq_true_eq, Bool.false_eq_true, true_iff, false_iff]; omega)), (s3_17).trans (s3_5).symm, (s4_17).trans (s4_5).symm, (s5_17).trans (s5_5).symm, rfl⟩))))
       · rintro e_8 _ ⟨s49_8, k3_8, k4_8, k5_8, rfl⟩
         have s3_8 := k3_8.trans s3_5
         have s4_8 := k4_8.trans s4_5
         have s5_8 := k5_8.trans s5_5
         refine aw_case s49_8 (fun hq_18 => ?_) (fun hq_18 => ?_)
         · skip
           first
           | (cases hq_18; done) | ((first | replace hq_18 := bnt hq_18 | replace hq_18 := bnf hq_18 | replace hq_18 := bt hq_18 | replace hq_18 := bf hq_18 | replace hq_18 := bt' hq_18 | replace hq_18 := bf' hq_18 | skip); exfalso; omega) | (rw [hbe] at hq_18; cases hq_18; done)
           | ((first | replace hq_18 := bnt hq_18 | replace hq_18 := bnf hq_18 | replace hq_18 := bt hq_18 | replace hq_18 := bf hq_18 | replace hq_18 := bt' hq_18 | replace hq_18 := bf' hq_18 | skip)
              refine aw_seq ?_
              refine aw_text ?_
              refine al_ro' (ro_assign ev_c) trivial rfl ?_
              refine al_end (fun e_19 he_19 => ?_)
              have s6_19 := ef 6 he_19 up_h
              clear he_19 s3_8 s49_8 s4_8 s5_8
              refine then_n ?_
              refine aw_ret ?_
              refine then_r ?_
              refine ret1 (.inr rfl) (by kernel_rfl) (resV_tmp s6_19) (.ro _ rfl) ?_
              clear s6_19 mo2_3 mo1_3 mo0_3 ml_3
              (first | rfl | (have hc0 : ¬ (runW ps b d stop post sq).2 = 0 := (fun h => by have := p3.2 h; simp_all); have h12 : (runW ps b d stop post sq).2 = 12 := (by omega); simp [h12]; done)))
         · skip
           first
           | (cases hq_18; done) | ((first | replace hq_18 := bnt hq_18 | replace hq_18 := bnf hq_18 | replace hq_18 := bt hq_18 | replace hq_18 := bf hq_18 | replace hq_18 := bt' hq_18 | replace hq_18 := bf' hq_18 | skip); exfalso; omega) | (rw [hbe] at hq_18; cases hq_18; done)
           | ((first | replace hq_18 := bnt hq_18 | replace hq_18 := bnf hq_18 | replace hq_18 := bt hq_18 | replace hq_18 := bf hq_18 | replace hq_18 := bt' hq_18 | replace hq_18 := bf' hq_18 | skip)
              (have hsh : nm.size ≤ 30 ∧ ps.length ≤ 14 := (by omega); have hs : nm.size ≤ 1000000000 := (by omega); have hp : ps.length ≤ 1000000000 := (by omega); have hle : post ≤ stop := (by omega); have hR := runE_zero (b := b) (d := d) (v := v) (nm := nm) (ps := ps) (post := post) (sq := sq) (stop := stop) (by omega) (by omega) (by omega) hle; have hr := runE_right hR.1; have hr3 := hr.2.2.1; have hr4 := hr.2.2.2.1; have hr5 := hr.2.2.2.2.1; have hcl := bwL_len ps b 0 (stop + 1).toNat; have hl2 := leL_len ps d stop.toNat; have hbe : true = true := rfl)
              refine aw_skip ?_
              refine then_n ?_
              refine aw_seq ?_
              refine aw_draw 11 (by kernel_rfl) (by kernel_rfl) (by kernel_rfl) ?_
              refine ds_ro' (ro_eq (ro_ld_ptr k19_ty24 rfl mo0_3 s3_8 (by first | exact Nat.le_of_ble_eq_true rfl | omega | (simp only [lnS] <;> omega) | (simp <;> omega))) (by first | (simp only [packA_t, packA_f, iE, bE, setAt, cellsA, Value.cells, map_vc, map_vn, Nat.reduceAdd, qS] <;> rfl) | rfl)) trivial rfl ?_
              refine ds_ro' (ro_call (evL_cons up_h evL_nil) rfl (rCopy_ok nm ps (by omega)) k19_hcf18) trivial rfl ?_
              refine ds_ro' (ro_eq (ro_ld_ptr k19_ty26 rfl mo1_3 (u2 rfl s4_8) (by first | exact Nat.le_of_ble_eq_true rfl | omega | (simp only [lnS] <;> omega) | (simp <;> omega))) (by first | (simp only [packA_t, packA_f, iE, bE, setAt, cellsA, Value.cells, map_vc, map_vn, Nat.reduceAdd, qS] <;> rfl) | rfl)) trivial rfl ?_
              refine ds_ro' (ro_fld_ptr k19_fl44_1 rfl (up_m rfl (u2 rfl s5_8))) trivial rfl ?_
              refine ds_ro' (ro_eq (ro_ld_ptr k19_ty3 rfl mo2_3 up_h (by first | exact Nat.le_of_ble_eq_true rfl | omega | (simp only [lnS] <;> omega) | (simp <;> omega))) (by first | (simp only [packA_t, packA_f, iE, bE, setAt, cellsA, Value.cells, map_vc, map_vn, Nat.reduceAdd, qS] <;> rfl) | rfl)) trivial rfl ?_
              refine ds_ro' (ro_call (evL_cons (up_m rfl (u2 rfl up_h)) (evL_cons (u2 rfl up_h) (evL_cons up_h evL_nil))) rfl (curveOf2_ok hs hp hR.2) k19_hcf28) trivial rfl ?_
              refine ds_ro' (ro_move up_h) trivial rfl ?_
              refine ds_ro' (ro_extract up_h rfl) trivial rfl ?_
              refine ds_ro' (ro_extract (up_m rfl up_h) rfl) trivial rfl ?_
              refine ds_ro' (ro_assign (up_m rfl up_h)) trivial rfl ?_
              refine ds_ro' (ro_assign (up_m rfl up_h)) trivial rfl ?_
              refine ds_nil ?_
              refine al_end (fun e_20 he_20 => ?_)
              have s3_20 := ef 3 he_20 (up_m rfl (u2 rfl (u8 rfl s3_8)))
              have s4_20 := ef 4 he_20 (up_m rfl (u2 rfl (u8 rfl s4_8)))
              have s5_20 := ef 5 he_20 (up_m rfl (u2 rfl (u8 rfl s5_8)))
              have s7_20 := ef 7 he_20 (up_m rfl up_h)
              have s8_20 := ef 8 he_20 up_h
              clear he_20 s3_8 s49_8 s4_8 s5_8
              refine then_n ?_
              refine aw_seq ?_
              refine aw_draw 11 (by kernel_rfl) (by kernel_rfl) (by kernel_rfl) ?_
              refine ds_ro' (ro_eq (ro_ld_ptr k19_ty24 rfl mo0_3 s3_20 (by first | exact Nat.le_of_ble_eq_true rfl | omega | (simp only [lnS] <;> omega) | (simp <;> omega))) (by first | (simp only [packA_t, packA_f, iE, bE, setAt, cellsA, Value.cells, map_vc, map_vn, Nat.reduceAdd, qS] <;> rfl) | rfl)) trivial rfl ?_
              refine ds_ro' (ro_call (evL_cons up_h evL_nil) rfl (rCopy_ok nm ps (by omega)) k19_hcf18) trivial rfl ?_
              refine ds_ro' (ro_eq (ro_ld_ptr k19_ty26 rfl mo1_3 (u2 rfl s4_20) (by first | exact Nat.le_of_ble_eq_true rfl | omega | (simp only [lnS] <;> omega) | (simp <;> omega))) (by first | (simp only [packA_t, packA_f, iE, bE, setAt, cellsA, Value.cells, map_vc, map_vn, Nat.reduceAdd, qS] <;> rfl) | rfl)) trivial rfl ?_
              refine ds_ro' (ro_fld_ptr k19_fl44_1 rfl (up_m rfl (u2 rfl s5_20))) trivial rfl ?_
              refine ds_ro' (ro_eq (ro_ld_ptr k19_ty3 rfl mo2_3 up_h (by first | exact Nat.le_of_ble_eq_true rfl | omega | (simp only [lnS] <;> omega) | (simp <;> omega))) (by first | (simp only [packA_t, packA_f, iE, bE, setAt, cellsA, Value.cells, map_vc, map_vn, Nat.reduceAdd, qS] <;> rfl) | rfl)) trivial rfl ?_
              refine ds_ro' (ro_call (evL_cons (up_m rfl (u2 rfl up_h)) (evL_cons (u2 rfl up_h) (evL_cons up_h evL_nil))) rfl (leastOf2_ok hs hp hR.2) k19_hcf29) trivial rfl ?_
              refine ds_ro' (ro_move up_h) trivial rfl ?_
              refine ds_ro' (ro_extract up_h rfl) trivial rfl ?_
              refine ds_ro' (ro_extract (up_m rfl up_h) rfl) trivial rfl ?_
              refine ds_ro' (ro_assign (up_m rfl up_h)) trivial rfl ?_
              refine ds_ro' (ro_assign (up_m rfl up_h)) trivial rfl ?_
              refine ds_nil ?_
              refine al_end (fun e_21 he_21 => ?_)
              have s3_21 := ef 3 he_21 (up_m rfl (u2 rfl (u8 rfl s3_20)))
              have s4_21 := ef 4 he_21 (up_m rfl (u2 rfl (u8 rfl s4_20)))
              have s5_21 := ef 5 he_21 (up_m rfl (u2 rfl (u8 rfl s5_20)))
              have s7_21 := ef 7 he_21 (up_m rfl (u2 rfl (u8 rfl s7_20)))
              have s8_21 := ef 8 he_21 (up_m rfl (u2 rfl (u8 rfl s8_20)))
              have s9_21 := ef 9 he_21 (up_m rfl up_h)
              have s10_21 := ef 10 he_21 up_h
              clear he_21 s3_20 s4_20 s5_20 s7_20 s8_20
              refine then_n ?_
              refine aw_seq ?_
              refine aw_draw 13 (by kernel_rfl) (by kernel_rfl) (by kernel_rfl) ?_
              refine ds_ro' (ro_eq (ro_ld_ptr k19_ty24 rfl mo0_3 s3_21 (by first | exact Nat.le_of_ble_eq_true rfl | omega | (simp only [lnS] <;> omega) | (simp <;> omega))) (by first | (simp only [packA_t, packA_f, iE, bE, setAt, cellsA, Value.cells, map_vc, map_vn, Nat.reduceAdd, qS] <;> rfl) | rfl)) trivial rfl ?_
              refine ds_ro' (ro_call (evL_cons up_h evL_nil) rfl (rCopy_ok nm ps (by omega)) k19_hcf18) trivial rfl ?_
              refine ds_ro' (ro_eq (ro_ld_ptr k19_ty26 rfl mo1_3 (u2 rfl s4_21) (by first | exact Nat.le_of_ble_eq_true rfl | omega | (simp only [lnS] <;> omega) | (simp <;> omega))) (by first | (simp only [packA_t, packA_f, iE, bE, setAt, cellsA, Value.cells, map_vc, map_vn, Nat.reduceAdd, qS] <;> rfl) | rfl)) trivial rfl ?_
              refine ds_ro' (ro_fld_ptr k19_fl44_0 rfl (up_m rfl (u2 rfl s5_21))) trivial rfl ?_
              refine ds_ro' (ro_eq (ro_ld_ptr k19_ty42 rfl mo2_3 up_h (by first | exact Nat.le_of_ble_eq_true rfl | omega | (simp only [lnS] <;> omega) | (simp <;> omega))) (by first | (simp only [packA_t, packA_f, iE, bE, setAt, cellsA, Value.cells, map_vc, map_vn, Nat.reduceAdd, qS] <;> rfl) | rfl)) trivial rfl ?_
              refine ds_ro' (ro_fld_ptr k19_fl44_1 rfl (up_m rfl (u4 rfl s5_21))) trivial rfl ?_
              refine ds_ro' (ro_eq (ro_ld_ptr k19_ty3 rfl mo2_3 up_h (by first | exact Nat.le_of_ble_eq_true rfl | omega | (simp only [lnS] <;> omega) | (simp <;> omega))) (by first | (simp only [packA_t, packA_f, iE, bE, setAt, cellsA, Value.cells, map_vc, map_vn, Nat.reduceAdd, qS] <;> rfl) | rfl)) trivial rfl ?_
              refine ds_ro' (ro_call (evL_cons (up_m rfl (u4 rfl up_h)) (evL_cons (u4 rfl up_h) (evL_cons (u2 rfl up_h) (evL_cons up_h evL_nil)))) rfl (reaches3_ok hs hp hR.1) k19_hcf23) trivial rfl ?_
              refine ds_ro' (ro_move up_h) trivial rfl ?_
              refine ds_ro' (ro_extract up_h rfl) trivial rfl ?_
              refine ds_ro' (ro_extract (up_m rfl up_h) rfl) trivial rfl ?_
              refine ds_ro' (ro_assign (up_m rfl up_h)) trivial rfl ?_
              refine ds_ro' (ro_assign (up_m rfl up_h)) trivial rfl ?_
              refine ds_nil ?_
              refine al_end (fun e_22 he_22 => ?_)
              have s3_22 := ef 3 he_22 (up_m rfl (u4 rfl (u8 rfl s3_21)))
              have s4_22 := ef 4 he_22 (up_m rfl (u4 rfl (u8 rfl s4_21)))
              have s5_22 := ef 5 he_22 (up_m rfl (u4 rfl (u8 rfl s5_21)))
              have s7_22 := ef 7 he_22 (up_m rfl (u4 rfl (u8 rfl s7_21)))
              have s8_22 := ef 8 he_22 (up_m rfl (u4 rfl (u8 rfl s8_21)))
              have s9_22 := ef 9 he_22 (up_m rfl (u4 rfl (u8 rfl s9_21)))
              have s10_22 := ef 10 he_22 (up_m rfl (u4 rfl (u8 rfl s10_21)))
              have s11_22 := ef 11 he_22 (up_m rfl up_h)
              have s12_22 := ef 12 he_22 up_h
              clear he_22 s10_21 s3_21 s4_21 s5_21 s7_21 s8_21 s9_21
              refine then_n ?_
              refine aw_seq ?_
              refine aw_draw 13 (by kernel_rfl) (by kernel_rfl) (by kernel_rfl) ?_
              refine ds_ro' (ro_eq (ro_ld_ptr k19_ty24 rfl mo0_3 s3_22 (by first | exact Nat.le_of_ble_eq_true rfl | omega | (simp only [lnS] <;> omega) | (simp <;> omega))) (by first | (simp only [packA_t, packA_f, iE, bE, setAt, cellsA, Value.cells, map_vc, map_vn, Nat.reduceAdd, qS] <;> rfl) | rfl)) trivial rfl ?_
              refine ds_ro' (ro_call (evL_cons up_h evL_nil) rfl (rCopy_ok nm ps (by omega)) k19_hcf18) trivial rfl ?_
              refine ds_ro' (ro_eq (ro_ld_ptr k19_ty26 rfl mo1_3 (u2 rfl s4_22) (by first | exact Nat.le_of_ble_eq_true rfl | omega | (simp only [lnS] <;> omega) | (simp <;> omega))) (by first | (simp only [packA_t, packA_f, iE, bE, setAt, cellsA, Value.cells, map_vc, map_vn, Nat.reduceAdd, qS] <;> rfl) | rfl)) trivial rfl ?_
              refine ds_ro' (ro_fld_ptr k19_fl44_0 rfl (up_m rfl (u2 rfl s5_22))) trivial rfl ?_
              refine ds_ro' (ro_eq (ro_ld_ptr k19_ty42 rfl mo2_3 up_h (by first | exact Nat.le_of_ble_eq_true rfl | omega | (simp only [lnS] <;> omega) | (simp <;> omega))) (by first | (simp only [packA_t, packA_f, iE, bE, setAt, cellsA, Value.cells, map_vc, map_vn, Nat.reduceAdd, qS] <;> rfl) | rfl)) trivial rfl ?_
              refine ds_ro' (ro_fld_ptr k19_fl44_1 rfl (up_m rfl (u4 rfl s5_22))) trivial rfl ?_
              refine ds_ro' (ro_eq (ro_ld_ptr k19_ty3 rfl mo2_3 up_h (by first | exact Nat.le_of_ble_eq_true rfl | omega | (simp only [lnS] <;> omega) | (simp <;> omega))) (by first | (simp only [packA_t, packA_f, iE, bE, setAt, cellsA, Value.cells, map_vc, map_vn, Nat.reduceAdd, qS] <;> rfl) | rfl)) trivial rfl ?_
              refine ds_ro' (ro_call (evL_cons (up_m rfl (u4 rfl up_h)) (evL_cons (u4 rfl up_h) (evL_cons (u2 rfl up_h) (evL_cons up_h evL_nil)))) rfl (runTo3_ok hs hp hR.1) k19_hcf24) trivial rfl ?_
              refine ds_ro' (ro_move up_h) trivial rfl ?_
              refine ds_ro' (ro_extract up_h rfl) trivial rfl ?_
              refine ds_ro' (ro_extract (up_m rfl up_h) rfl) trivial rfl ?_
              refine ds_ro' (ro_assign (up_m rfl up_h)) trivial rfl ?_
              refine ds_ro' (ro_assign (up_m rfl up_h)) trivial rfl ?_
              refine ds_nil ?_
              refine al_end (fun e_23 he_23 => ?_)
              have s5_23 := ef 5 he_23 (up_m rfl (u4 rfl (u8 rfl s5_22)))
              have s7_23 := ef 7 he_23 (up_m rfl (u4 rfl (u8 rfl s7_22)))
              have s8_23 := ef 8 he_23 (up_m rfl (u4 rfl (u8 rfl s8_22)))
              have s9_23 := ef 9 he_23 (up_m rfl (u4 rfl (u8 rfl s9_22)))
              have s10_23 := ef 10 he_23 (up_m rfl (u4 rfl (u8 rfl s10_22)))
              have s11_23 := ef 11 he_23 (up_m rfl (u4 rfl (u8 rfl s11_22)))
              have s12_23 := ef 12 he_23 (up_m rfl (u4 rfl (u8 rfl s12_22)))
              have s14_23 := ef 14 he_23 up_h
              clear he_23 s10_22 s11_22 s12_22 s3_22 s4_22 s5_22 s7_22 s8_22 s9_22
              refine then_n ?_
              refine aw_seq ?_
              refine aw_seq ?_
              refine aw_cut (fun e mem => (evA e (.tmp 115) = .v (.bool false)) ∧ (evA e (.tmp 5) = evA e_23 (.tmp 5)) ∧ (evA e (.tmp 7) = evA e_23 (.tmp 7)) ∧ (evA e (.tmp 9) = evA e_23 (.tmp 9)) ∧ (evA e (.tmp 11) = evA e_23 (.tmp 11)) ∧ (evA e (.tmp 14) = evA e_23 (.tmp 14)) ∧ m_3 = mem) ?_ ?_
              ·
                refine aw_text ?_
                refine al_ro' (ro_move s8_23) trivial rfl ?_
                refine al_ro' (ro_neq up_h ev_c) trivial rfl ?_
                refine al_ro' (ro_move up_h) trivial rfl ?_
                refine al_case up_h (fun hb_25 hq_25 => ?_) (fun hb_25 hq_25 => ?_)
                · skip
                  first
                  | (cases hq_25; done) | ((first | replace hq_25 := bnt hq_25 | replace hq_25 := bnf hq_25 | replace hq_25 := bt hq_25 | replace hq_25 := bf hq_25 | replace hq_25 := bt' hq_25 | replace hq_25 := bf' hq_25 | skip); exfalso; omega) | (rw [hbe] at hq_25; cases hq_25; done)
                  | ((first | replace hq_25 := bnt hq_25 | replace hq_25 := bnf hq_25 | replace hq_25 := bt hq_25 | replace hq_25 := bf hq_25 | replace hq_25 := bt' hq_25 | replace hq_25 := bf' hq_25 | skip)
                     refine al_skip' ⟨_, rfl, .inl hb_25⟩ rfl ?_
                     refine al_skip' ⟨_, rfl, .inl (up_m rfl hb_25)⟩ rfl ?_
                     refine al_ro' (ro_pickT (u2 rfl hb_25) ev_c) trivial rfl ?_
                     refine al_ro' (ro_move up_h) trivial rfl ?_
                     refine al_skip' ⟨_, rfl, .inl up_h⟩ rfl ?_
                     refine al_skip' ⟨_, rfl, .inl (up_m rfl up_h)⟩ rfl ?_
                     refine al_ro' (ro_pickT (u2 rfl up_h) ev_c) trivial rfl ?_
                     refine al_ro' (ro_move up_h) trivial rfl ?_
                     refine al_skip' ⟨_, rfl, .inl up_h⟩ rfl ?_
                     refine al_skip' ⟨_, rfl, .inl (up_m rfl up_h)⟩ rfl ?_
                     refine al_skip' ⟨_, rfl, .inl (u2 rfl up_h)⟩ rfl ?_
                     refine al_skip' ⟨_, rfl, .inl (up_m rfl (u2 rfl up_h))⟩ rfl ?_
                     refine al_skip' ⟨_, rfl, .inl (u4 rfl up_h)⟩ rfl ?_
                     refine al_skip' ⟨_, rfl, .inl (up_m rfl (u4 rfl up_h))⟩ rfl ?_
                     refine al_ro' (ro_pickT (u2 rfl (u4 rfl up_h)) ev_c) trivial rfl ?_
                     refine al_ro' (ro_move up_h) trivial rfl ?_
                     refine al_skip' ⟨_, rfl, .inl up_h⟩ rfl ?_
                     refine al_skip' ⟨_, rfl, .inl (up_m rfl up_h)⟩ rfl ?_
                     refine al_skip' ⟨_, rfl, .inl (u2 rfl up_h)⟩ rfl ?_
                     refine al_skip' ⟨_, rfl, .inl (up_m rfl (u2 rfl up_h))⟩ rfl ?_
                     refine al_skip' ⟨_, rfl, .inl (u4 rfl up_h)⟩ rfl ?_
                     refine al_skip' ⟨_, rfl, .inl (up_m rfl (u4 rfl up_h))⟩ rfl ?_
                     refine al_ro' (ro_pickT (u2 rfl (u4 rfl up_h)) ev_c) trivial rfl ?_
                     refine al_end (fun e_26 he_26 => ?_)
                     have s5_26 := ef 5 he_26 (u2 rfl (u8 rfl (u16 rfl s5_23)))
                     have s7_26 := ef 7 he_26 (u2 rfl (u8 rfl (u16 rfl s7_23)))
                     have s9_26 := ef 9 he_26 (u2 rfl (u8 rfl (u16 rfl s9_23)))
                     have s11_26 := ef 11 he_26 (u2 rfl (u8 rfl (u16 rfl s11_23)))
                     have s14_26 := ef 14 he_26 (u2 rfl (u8 rfl (u16 rfl s14_23)))
                     have s115_26 := ef 115 he_26 up_h
                     clear he_26
                     refine then_n ⟨(s115_26).trans (by (refine avb ?_; simp; omega)), (s5_26).trans (s5_23).symm, (s7_26).trans (s7_23).symm, (s9_26).trans (s9_23).symm, (s11_26).trans (s11_23).symm, (s14_26).trans (s14_23).symm, rfl⟩)
                · skip
                  first
                  | (cases hq_25; done) | ((first | replace hq_25 := bnt hq_25 | replace hq_25 := bnf hq_25 | replace hq_25 := bt hq_25 | replace hq_25 := bf hq_25 | replace hq_25 := bt' hq_25 | replace hq_25 := bf' hq_25 | skip); exfalso; omega) | (rw [hbe] at hq_25; cases hq_25; done)
                  | ((first | replace hq_25 := bnt hq_25 | replace hq_25 := bnf hq_25 | replace hq_25 := bt hq_25 | replace hq_25 := bf hq_25 | replace hq_25 := bt' hq_25 | replace hq_25 := bf' hq_25 | skip)
                     refine al_ro' (ro_move (up_m rfl (u2 rfl s10_23))) ⟨_, rfl, hb_25⟩ rfl ?_
                     refine al_ro' (ro_neq up_h ev_c) ⟨_, rfl, (up_m rfl hb_25)⟩ rfl ?_
                     refine al_ro' (ro_pickF (u2 rfl hb_25) up_h) trivial rfl ?_
                     refine al_ro' (ro_move up_h) trivial rfl ?_
                     refine al_case up_h (fun hb_27 hq_27 => ?_) (fun hb_27 hq_27 => ?_)
                     · skip
                       first
                       | (cases hq_27; done) | ((first | replace hq_27 := bnt hq_27 | replace hq_27 := bnf hq_27 | replace hq_27 := bt hq_27 | replace hq_27 := bf hq_27 | replace hq_27 := bt' hq_27 | replace hq_27 := bf' hq_27 | skip); exfalso; omega) | (rw [hbe] at hq_27; cases hq_27; done)
                       | ((first | replace hq_27 := bnt hq_27 | replace hq_27 := bnf hq_27 | replace hq_27 := bt hq_27 | replace hq_27 := bf hq_27 | replace hq_27 := bt' hq_27 | replace hq_27 := bf' hq_27 | skip)
                          refine al_skip' ⟨_, rfl, .inl hb_27⟩ rfl ?_
                          refine al_skip' ⟨_, rfl, .inl (up_m rfl hb_27)⟩ rfl ?_
                          refine al_ro' (ro_pickT (u2 rfl hb_27) ev_c) trivial rfl ?_
                          refine al_ro' (ro_move up_h) trivial rfl ?_
                          refine al_skip' ⟨_, rfl, .inl up_h⟩ rfl ?_
                          refine al_skip' ⟨_, rfl, .inl (up_m rfl up_h)⟩ rfl ?_
                          refine al_skip' ⟨_, rfl, .inl (u2 rfl up_h)⟩ rfl ?_
                          refine al_skip' ⟨_, rfl, .inl (up_m rfl (u2 rfl up_h))⟩ rfl ?_
                          refine al_skip' ⟨_, rfl, .inl (u4 rfl up_h)⟩ rfl ?_
                          refine al_skip' ⟨_, rfl, .inl (up_m rfl (u4 rfl up_h))⟩ rfl ?_
                          refine al_ro' (ro_pickT (u2 rfl (u4 rfl up_h)) ev_c) trivial rfl ?_
                          refine al_ro' (ro_move up_h) trivial rfl ?_
                          refine al_skip' ⟨_, rfl, .inl up_h⟩ rfl ?_
                          refine al_skip' ⟨_, rfl, .inl (up_m rfl up_h)⟩ rfl ?_
                          refine al_skip' ⟨_, rfl, .inl (u2 rfl up_h)⟩ rfl ?_
                          refine al_skip' ⟨_, rfl, .inl (up_m rfl (u2 rfl up_h))⟩ rfl ?_
                          refine al_skip' ⟨_, rfl, .inl (u4 rfl up_h)⟩ rfl ?_
                          refine al_skip' ⟨_, rfl, .inl (up_m rfl (u4 rfl up_h))⟩ rfl ?_
                          refine al_ro' (ro_pickT (u2 rfl (u4 rfl up_h)) ev_c) trivial rfl ?_
                          refine al_end (fun e_28 he_28 => ?_)
                          have s5_28 := ef 5 he_28 (u2 rfl (u8 rfl (u16 rfl s5_23)))
                          have s7_28 := ef 7 he_28 (u2 rfl (u8 rfl (u16 rfl s7_23)))
                          have s9_28 := ef 9 he_28 (u2 rfl (u8 rfl (u16 rfl s9_23)))
                          have s11_28 := ef 11 he_28 (u2 rfl (u8 rfl (u16 rfl s11_23)))
                          have s14_28 := ef 14 he_28 (u2 rfl (u8 rfl (u16 rfl s14_23)))
                          have s115_28 := ef 115 he_28 up_h
                          clear he_28
                          refine then_n ⟨(s115_28).trans (by (refine avb ?_; simp; omega)), (s5_28).trans (s5_23).symm, (s7_28).trans (s7_23).symm, (s9_28).trans (s9_23).symm, (s11_28).trans (s11_23).symm, (s14_28).trans (s14_23).symm, rfl⟩)
                     · skip
                       first
                       | (cases hq_27; done) | ((first | replace hq_27 := bnt hq_27 | replace hq_27 := bnf hq_27 | replace hq_27 := bt hq_27 | replace hq_27 := bf hq_27 | replace hq_27 := bt' hq_27 | replace hq_27 := bf' hq_27 | skip); exfalso; omega) | (rw [hbe] at hq_27; cases hq_27; done)
                       | ((first | replace hq_27 := bnt hq_27 | replace hq_27 := bnf hq_27 | replace hq_27 := bt hq_27 | replace hq_27 := bf hq_27 | replace hq_27 := bt' hq_27 | replace hq_27 := bf' hq_27 | skip)
                          refine al_ro' (ro_move (up_m rfl (u2 rfl (u4 rfl s12_23)))) ⟨_, rfl, hb_27⟩ rfl ?_
                          refine al_ro' (ro_neq up_h ev_c) ⟨_, rfl, (up_m rfl hb_27)⟩ rfl ?_
                          refine al_ro' (ro_pickF (u2 rfl hb_27) up_h) trivial rfl ?_
                          refine al_ro' (ro_move up_h) trivial rfl ?_
                          refine al_case up_h (fun hb_29 hq_29 => ?_) (fun hb_29 hq_29 => ?_)
                          · skip
                            first
                            | (cases hq_29; done) | ((first | replace hq_29 := bnt hq_29 | replace hq_29 := bnf hq_29 | replace hq_29 := bt hq_29 | replace hq_29 := bf hq_29 | replace hq_29 := bt' hq_29 | replace hq_29 := bf' hq_29 | skip); exfalso; omega) | (rw [hbe] at hq_29; cases hq_29; done)
                            | ((first | replace hq_29 := bnt hq_29 | replace hq_29 := bnf hq_29 | replace hq_29 := bt hq_29 | replace hq_29 := bf hq_29 | replace hq_29 := bt' hq_29 | replace hq_29 := bf' hq_29 | skip)
                               refine al_skip' ⟨_, rfl, .inl hb_29⟩ rfl ?_
                               refine al_skip' ⟨_, rfl, .inl (up_m rfl hb_29)⟩ rfl ?_
                               refine al_skip' ⟨_, rfl, .inl (u2 rfl hb_29)⟩ rfl ?_
                               refine al_skip' ⟨_, rfl, .inl (up_m rfl (u2 rfl hb_29))⟩ rfl ?_
                               refine al_skip' ⟨_, rfl, .inl (u4 rfl hb_29)⟩ rfl ?_
                               refine al_skip' ⟨_, rfl, .inl (up_m rfl (u4 rfl hb_29))⟩ rfl ?_
                               refine al_ro' (ro_pickT (u2 rfl (u4 rfl hb_29)) ev_c) trivial rfl ?_
                               refine al_ro' (ro_move up_h) trivial rfl ?_
                               refine al_skip' ⟨_, rfl, .inl up_h⟩ rfl ?_
                               refine al_skip' ⟨_, rfl, .inl (up_m rfl up_h)⟩ rfl ?_
                               refine al_skip' ⟨_, rfl, .inl (u2 rfl up_h)⟩ rfl ?_
                               refine al_skip' ⟨_, rfl, .inl (up_m rfl (u2 rfl up_h))⟩ rfl ?_
                               refine al_skip' ⟨_, rfl, .inl (u4 rfl up_h)⟩ rfl ?_
                               refine al_skip' ⟨_, rfl, .inl (up_m rfl (u4 rfl up_h))⟩ rfl ?_
                               refine al_ro' (ro_pickT (u2 rfl (u4 rfl up_h)) ev_c) trivial rfl ?_
                               refine al_end (fun e_30 he_30 => ?_)
                               have s5_30 := ef 5 he_30 (u2 rfl (u8 rfl (u16 rfl s5_23)))
                               have s7_30 := ef 7 he_30 (u2 rfl (u8 rfl (u16 rfl s7_23)))
                               have s9_30 := ef 9 he_30 (u2 rfl (u8 rfl (u16 rfl s9_23)))
                               have s11_30 := ef 11 he_30 (u2 rfl (u8 rfl (u16 rfl s11_23)))
                               have s14_30 := ef 14 he_30 (u2 rfl (u8 rfl (u16 rfl s14_23)))
                               have s115_30 := ef 115 he_30 up_h
                               clear he_30
                               refine then_n ⟨(s115_30).trans (by (refine avb ?_; simp; omega)), (s5_30).trans (s5_23).symm, (s7_30).trans (s7_23).symm, (s9_30).trans (s9_23).symm, (s11_30).trans (s11_23).symm, (s14_30).trans (s14_23).symm, rfl⟩)
                          · skip
                            first
                            | (cases hq_29; done) | ((first | replace hq_29 := bnt hq_29 | replace hq_29 := bnf hq_29 | replace hq_29 := bt hq_29 | replace hq_29 := bf hq_29 | replace hq_29 := bt' hq_29 | replace hq_29 := bf' hq_29 | skip); exfalso; omega) | (rw [hbe] at hq_29; cases hq_29; done)
                            | ((first | replace hq_29 := bnt hq_29 | replace hq_29 := bnf hq_29 | replace hq_29 := bt hq_29 | replace hq_29 := bf hq_29 | replace hq_29 := bt' hq_29 | replace hq_29 := bf' hq_29 | skip)
                               refine al_ro' (ro_move (up_m rfl (u2 rfl (u8 rfl s7_23)))) ⟨_, rfl, hb_29⟩ rfl ?_
                               refine al_ro' (ro_eq (ro_len_row up_h rfl k19_sl30.1) (by first | (simp only [lnS] <;> rfl) | rfl)) ⟨_, rfl, (up_m rfl hb_29)⟩ rfl ?_
                               refine al_ro' (ro_fld_ptr k19_fl44_1 rfl (up_m rfl (u4 rfl (u8 rfl s5_23)))) ⟨_, rfl, (u2 rfl hb_29)⟩ rfl ?_
                               refine al_ro' (ro_eq (ro_ld_ptr k19_ty3 rfl mo2_3 up_h (by first | exact Nat.le_of_ble_eq_true rfl | omega | (simp only [lnS] <;> omega) | (simp <;> omega))) (by first | (simp only [packA_t, packA_f, iE, bE, setAt, cellsA, Value.cells, map_vc, map_vn, Nat.reduceAdd, qS] <;> rfl) | rfl)) ⟨_, rfl, (up_m rfl (u2 rfl hb_29))⟩ rfl ?_
                               first | (refine al_ro' (ro_add' up_h ev_c ?_) ⟨_, rfl, (u4 rfl hb_29)⟩ rfl ?_; · (unfold In64; omega)) | refine al_ro' (ro_add up_h ev_c) ⟨_, rfl, (u4 rfl hb_29)⟩ rfl ?_
                               refine al_ro' (ro_neq (up_m rfl (u2 rfl up_h)) up_h) ⟨_, rfl, (up_m rfl (u4 rfl hb_29))⟩ rfl ?_
                               refine al_ro' (ro_pickF (u2 rfl (u4 rfl hb_29)) up_h) trivial rfl ?_
                               refine al_ro' (ro_move up_h) trivial rfl ?_
                               refine al_case up_h (fun hb_31 hq_31 => ?_) (fun hb_31 hq_31 => ?_)
                               · skip
                                 first
                                 | (cases hq_31; done) | ((first | replace hq_31 := bnt hq_31 | replace hq_31 := bnf hq_31 | replace hq_31 := bt hq_31 | replace hq_31 := bf hq_31 | replace hq_31 := bt' hq_31 | replace hq_31 := bf' hq_31 | skip); exfalso; omega) | (rw [hbe] at hq_31; cases hq_31; done)
                                 | ((first | replace hq_31 := bnt hq_31 | replace hq_31 := bnf hq_31 | replace hq_31 := bt hq_31 | replace hq_31 := bf hq_31 | replace hq_31 := bt' hq_31 | replace hq_31 := bf' hq_31 | skip)
                                    refine al_skip' ⟨_, rfl, .inl hb_31⟩ rfl ?_
                                    refine al_skip' ⟨_, rfl, .inl (up_m rfl hb_31)⟩ rfl ?_
                                    refine al_skip' ⟨_, rfl, .inl (u2 rfl hb_31)⟩ rfl ?_
                                    refine al_skip' ⟨_, rfl, .inl (up_m rfl (u2 rfl hb_31))⟩ rfl ?_
                                    refine al_skip' ⟨_, rfl, .inl (u4 rfl hb_31)⟩ rfl ?_
                                    refine al_skip' ⟨_, rfl, .inl (up_m rfl (u4 rfl hb_31))⟩ rfl ?_
                                    refine al_ro' (ro_pickT (u2 rfl (u4 rfl hb_31)) ev_c) trivial rfl ?_
                                    refine al_end (fun e_32 he_32 => ?_)
                                    have s5_32 := ef 5 he_32 (u2 rfl (u8 rfl (u16 rfl s5_23)))
                                    have s7_32 := ef 7 he_32 (u2 rfl (u8 rfl (u16 rfl s7_23)))
                                    have s9_32 := ef 9 he_32 (u2 rfl (u8 rfl (u16 rfl s9_23)))
                                    have s11_32 := ef 11 he_32 (u2 rfl (u8 rfl (u16 rfl s11_23)))
                                    have s14_32 := ef 14 he_32 (u2 rfl (u8 rfl (u16 rfl s14_23)))
                                    have s115_32 := ef 115 he_32 up_h
                                    clear he_32
                                    refine then_n ⟨(s115_32).trans (by (refine avb ?_; simp; omega)), (s5_32).trans (s5_23).symm, (s7_32).trans (s7_23).symm, (s9_32).trans (s9_23).symm, (s11_32).trans (s11_23).symm, (s14_32).trans (s14_23).symm, rfl⟩)
                               · skip
                                 first
                                 | (cases hq_31; done) | ((first | replace hq_31 := bnt hq_31 | replace hq_31 := bnf hq_31 | replace hq_31 := bt hq_31 | replace hq_31 := bf hq_31 | replace hq_31 := bt' hq_31 | replace hq_31 := bf' hq_31 | skip); exfalso; omega) | (rw [hbe] at hq_31; cases hq_31; done)
                                 | ((first | replace hq_31 := bnt hq_31 | replace hq_31 := bnf hq_31 | replace hq_31 := bt hq_31 | replace hq_31 := bf hq_31 | replace hq_31 := bt' hq_31 | replace hq_31 := bf' hq_31 | skip)
                                    refine al_ro' (ro_move (up_m rfl (u2 rfl (u16 rfl s9_23)))) ⟨_, rfl, hb_31⟩ rfl ?_
                                    refine al_ro' (ro_eq (ro_len_row up_h rfl k19_sl30.1) (by first | (simp only [lnS] <;> rfl) | rfl)) ⟨_, rfl, (up_m rfl hb_31)⟩ rfl ?_
                                    refine al_ro' (ro_fld_ptr k19_fl44_1 rfl (up_m rfl (u4 rfl (u16 rfl s5_23)))) ⟨_, rfl, (u2 rfl hb_31)⟩ rfl ?_
                                    refine al_ro' (ro_eq (ro_ld_ptr k19_ty3 rfl mo2_3 up_h (by first | exact Nat.le_of_ble_eq_true rfl | omega | (simp only [lnS] <;> omega) | (simp <;> omega))) (by first | (simp only [packA_t, packA_f, iE, bE, setAt, cellsA, Value.cells, map_vc, map_vn, Nat.reduceAdd, qS] <;> rfl) | rfl)) ⟨_, rfl, (up_m rfl (u2 rfl hb_31))⟩ rfl ?_
                                    first | (refine al_ro' (ro_add' up_h ev_c ?_) ⟨_, rfl, (u4 rfl hb_31)⟩ rfl ?_; · (unfold In64; omega)) | refine al_ro' (ro_add up_h ev_c) ⟨_, rfl, (u4 rfl hb_31)⟩ rfl ?_
                                    refine al_ro' (ro_neq (up_m rfl (u2 rfl up_h)) up_h) ⟨_, rfl, (up_m rfl (u4 rfl hb_31))⟩ rfl ?_
                                    refine al_ro' (ro_pickF (u2 rfl (u4 rfl hb_31)) up_h) trivial rfl ?_
                                    refine al_end (fun e_33 he_33 => ?_)
                                    have s5_33 := ef 5 he_33 (u2 rfl (u8 rfl (u16 rfl s5_23)))
                                    have s7_33 := ef 7 he_33 (u2 rfl (u8 rfl (u16 rfl s7_23)))
                                    have s9_33 := ef 9 he_33 (u2 rfl (u8 rfl (u16 rfl s9_23)))
                                    have s11_33 := ef 11 he_33 (u2 rfl (u8 rfl (u16 rfl s11_23)))
                                    have s14_33 := ef 14 he_33 (u2 rfl (u8 rfl (u16 rfl s14_23)))
                                    have s115_33 := ef 115 he_33 up_h
                                    clear he_33
                                    refine then_n ⟨(s115_33).trans (by (refine avb ?_; simp; omega)), (s5_33).trans (s5_23).symm, (s7_33).trans (s7_23).symm, (s9_33).trans (s9_23).symm, (s11_33).trans (s11_23).symm, (s14_33).trans (s14_23).symm, rfl⟩))))
              · rintro e_24 _ ⟨s115_24, k5_24, k7_24, k9_24, k11_24, k14_24, rfl⟩
                have s5_24 := k5_24.trans s5_23
                have s7_24 := k7_24.trans s7_23
                have s9_24 := k9_24.trans s9_23
                have s11_24 := k11_24.trans s11_23
                have s14_24 := k14_24.trans s14_23
                refine aw_case s115_24 (fun hq_34 => ?_) (fun hq_34 => ?_)
                · skip
                  first
                  | (cases hq_34; done) | ((first | replace hq_34 := bnt hq_34 | replace hq_34 := bnf hq_34 | replace hq_34 := bt hq_34 | replace hq_34 := bf hq_34 | replace hq_34 := bt' hq_34 | replace hq_34 := bf' hq_34 | skip); exfalso; omega) | (rw [hbe] at hq_34; cases hq_34; done)
                  | ((first | replace hq_34 := bnt hq_34 | replace hq_34 := bnf hq_34 | replace hq_34 := bt hq_34 | replace hq_34 := bf hq_34 | replace hq_34 := bt' hq_34 | replace hq_34 := bf' hq_34 | skip)
                     refine aw_seq ?_
                     refine aw_text ?_
                     refine al_ro' (ro_assign ev_c) trivial rfl ?_
                     refine al_end (fun e_35 he_35 => ?_)
                     have s6_35 := ef 6 he_35 up_h
                     clear he_35 s115_24 s11_24 s14_24 s5_24 s7_24 s9_24
                     refine then_n ?_
                     refine aw_ret ?_
                     refine then_r ?_
                     refine ret1 (.inr rfl) (by kernel_rfl) (resV_tmp s6_35) (.ro _ rfl) ?_
                     clear s6_35 mo2_3 mo1_3 mo0_3 ml_3
                     (first | rfl | (have hc0 : ¬ (runW ps b d stop post sq).2 = 0 := (fun h => by have := p3.2 h; simp_all); have h12 : (runW ps b d stop post sq).2 = 12 := (by omega); simp [h12]; done)))
                · skip
                  first
                  | (cases hq_34; done) | ((first | replace hq_34 := bnt hq_34 | replace hq_34 := bnf hq_34 | replace hq_34 := bt hq_34 | replace hq_34 := bf hq_34 | replace hq_34 := bt' hq_34 | replace hq_34 := bf' hq_34 | skip); exfalso; omega) | (rw [hbe] at hq_34; cases hq_34; done)
                  | ((first | replace hq_34 := bnt hq_34 | replace hq_34 := bnf hq_34 | replace hq_34 := bt hq_34 | replace hq_34 := bf hq_34 | replace hq_34 := bt' hq_34 | replace hq_34 := bf' hq_34 | skip)
                     refine aw_skip ?_
                     refine then_n ?_
                     refine aw_seq ?_
                     refine aw_cut (fun e mem => (evA e (.tmp 15) = .v (.bool (decide (leA ps d stop post.toNat ≤ sq ∧ sq ≤ cuA ps b stop post.toNat)))) ∧ (evA e (.tmp 5) = evA e_24 (.tmp 5)) ∧ (evA e (.tmp 7) = evA e_24 (.tmp 7)) ∧ (evA e (.tmp 9) = evA e_24 (.tmp 9)) ∧ (evA e (.tmp 11) = evA e_24 (.tmp 11)) ∧ (evA e (.tmp 14) = evA e_24 (.tmp 14)) ∧ m_3 = mem) ?_ ?_
                     ·
                       refine aw_draw 23 (by kernel_rfl) (by kernel_rfl) (by kernel_rfl) ?_
                       refine ds_ro' (ro_move s9_24) trivial rfl ?_
                       refine ds_ro' (ro_fld_ptr k19_fl44_0 rfl (up_m rfl s5_24)) trivial rfl ?_
                       refine ds_ro' (ro_fld_ptr k19_fl42_0 rfl up_h) trivial rfl ?_
                       refine ds_ro' (ro_eq (ro_ld_ptr k19_ty3 rfl mo2_3 up_h (by first | exact Nat.le_of_ble_eq_true rfl | omega | (simp only [lnS] <;> omega) | (simp <;> omega))) (by first | (simp only [packA_t, packA_f, iE, bE, setAt, cellsA, Value.cells, map_vc, map_vn, Nat.reduceAdd, qS] <;> rfl) | rfl)) trivial rfl ?_
                       refine ds_ro' (ro_eq (ro_ix k19_sl30 (up_m rfl (u2 rfl up_h)) up_h (by first | decide | omega | (simp <;> omega)) (by first | (refine idx_map ?_; first | omega | (simp only [lnS]; omega)) | (refine idx_mapI ?_; first | omega | (simp only [lnS]; omega)) | (refine idx_mapN ?_; first | omega | (simp only [lnS]; omega)) | rfl)) (by first | (simp only [packA_t, packA_f, iE, bE, setAt, cellsA, Value.cells, map_vc, map_vn, Nat.reduceAdd, qS] <;> rfl) | rfl)) trivial rfl ?_
                       refine ds_ro' (ro_eq (ro_ld_ref k19_ty3 rfl up_h (by first | exact Nat.le_of_ble_eq_true rfl | omega | (simp only [lnS] <;> omega) | (simp <;> omega))) (by first | (simp only [packA_t, packA_f, iE, bE, setAt, cellsA, Value.cells, map_vc, map_vn, Nat.reduceAdd, qS] <;> rfl) | rfl)) trivial rfl ?_
                       refine ds_ro' (ro_fld_ptr k19_fl44_0 rfl (u2 rfl (u4 rfl s5_24))) trivial rfl ?_
                       refine ds_ro' (ro_fld_ptr k19_fl42_1 rfl up_h) trivial rfl ?_
                       refine ds_ro' (ro_eq (ro_ld_ptr k19_ty3 rfl mo2_3 up_h (by first | exact Nat.le_of_ble_eq_true rfl | omega | (simp only [lnS] <;> omega) | (simp <;> omega))) (by first | (simp only [packA_t, packA_f, iE, bE, setAt, cellsA, Value.cells, map_vc, map_vn, Nat.reduceAdd, qS] <;> rfl) | rfl)) trivial rfl ?_
                       refine ds_ro' (ro_leq (up_m rfl (u2 rfl up_h)) up_h) trivial rfl ?_
                       refine ds_ro' (ro_move up_h) trivial rfl ?_
                       refine ds_case up_h (fun hb_37 hq_37 => ?_) (fun hb_37 hq_37 => ?_)
                       · skip
                         first
                         | (cases hq_37; done) | ((first | replace hq_37 := bnt hq_37 | replace hq_37 := bnf hq_37 | replace hq_37 := bt hq_37 | replace hq_37 := bf hq_37 | replace hq_37 := bt' hq_37 | replace hq_37 := bf' hq_37 | skip); exfalso; omega) | (rw [hbe] at hq_37; cases hq_37; done)
                         | ((first | replace hq_37 := bnt hq_37 | replace hq_37 := bnf hq_37 | replace hq_37 := bt hq_37 | replace hq_37 := bf hq_37 | replace hq_37 := bt' hq_37 | replace hq_37 := bf' hq_37 | skip)
                            refine ds_ro' (ro_fld_ptr k19_fl44_0 rfl (up_m rfl (u2 rfl (u8 rfl s5_24)))) ⟨_, rfl, hb_37⟩ rfl ?_
                            refine ds_ro' (ro_fld_ptr k19_fl42_1 rfl up_h) ⟨_, rfl, (up_m rfl hb_37)⟩ rfl ?_
                            refine ds_ro' (ro_eq (ro_ld_ptr k19_ty3 rfl mo2_3 up_h (by first | exact Nat.le_of_ble_eq_true rfl | omega | (simp only [lnS] <;> omega) | (simp <;> omega))) (by first | (simp only [packA_t, packA_f, iE, bE, setAt, cellsA, Value.cells, map_vc, map_vn, Nat.reduceAdd, qS] <;> rfl) | rfl)) ⟨_, rfl, (u2 rfl hb_37)⟩ rfl ?_
                            refine ds_ro' (ro_move (u2 rfl (u4 rfl (u8 rfl s7_24)))) ⟨_, rfl, (up_m rfl (u2 rfl hb_37))⟩ rfl ?_
                            refine ds_ro' (ro_fld_ptr k19_fl44_0 rfl (up_m rfl (u2 rfl (u4 rfl (u8 rfl s5_24))))) ⟨_, rfl, (u4 rfl hb_37)⟩ rfl ?_
                            refine ds_ro' (ro_fld_ptr k19_fl42_0 rfl up_h) ⟨_, rfl, (up_m rfl (u4 rfl hb_37))⟩ rfl ?_
                            refine ds_ro' (ro_eq (ro_ld_ptr k19_ty3 rfl mo2_3 up_h (by first | exact Nat.le_of_ble_eq_true rfl | omega | (simp only [lnS] <;> omega) | (simp <;> omega))) (by first | (simp only [packA_t, packA_f, iE, bE, setAt, cellsA, Value.cells, map_vc, map_vn, Nat.reduceAdd, qS] <;> rfl) | rfl)) ⟨_, rfl, (u2 rfl (u4 rfl hb_37))⟩ rfl ?_
                            refine ds_ro' (ro_eq (ro_ix k19_sl30 (up_m rfl (u2 rfl up_h)) up_h (by first | decide | omega | (simp <;> omega)) (by first | (refine idx_map ?_; first | omega | (simp only [lnS]; omega)) | (refine idx_mapI ?_; first | omega | (simp only [lnS]; omega)) | (refine idx_mapN ?_; first | omega | (simp only [lnS]; omega)) | rfl)) (by first | (simp only [packA_t, packA_f, iE, bE, setAt, cellsA, Value.cells, map_vc, map_vn, Nat.reduceAdd, qS] <;> rfl) | rfl)) ⟨_, rfl, (up_m rfl (u2 rfl (u4 rfl hb_37)))⟩ rfl ?_
                            refine ds_ro' (ro_eq (ro_ld_ref k19_ty3 rfl up_h (by first | exact Nat.le_of_ble_eq_true rfl | omega | (simp only [lnS] <;> omega) | (simp <;> omega))) (by first | (simp only [packA_t, packA_f, iE, bE, setAt, cellsA, Value.cells, map_vc, map_vn, Nat.reduceAdd, qS] <;> rfl) | rfl)) ⟨_, rfl, (u8 rfl hb_37)⟩ rfl ?_
                            refine ds_ro' (ro_leq (u2 rfl (u4 rfl up_h)) up_h) ⟨_, rfl, (up_m rfl (u8 rfl hb_37))⟩ rfl ?_
                            refine ds_ro' (ro_pickT (u2 rfl (u8 rfl hb_37)) up_h) trivial rfl ?_
                            refine ds_ro' (ro_assign up_h) trivial rfl ?_
                            refine ds_nil ?_
                            refine al_end (fun e_38 he_38 => ?_)
                            have s5_38 := ef 5 he_38 (up_m rfl (u2 rfl (u4 rfl (u16 rfl s5_24))))
                            have s7_38 := ef 7 he_38 (up_m rfl (u2 rfl (u4 rfl (u16 rfl s7_24))))
                            have s9_38 := ef 9 he_38 (up_m rfl (u2 rfl (u4 rfl (u16 rfl s9_24))))
                            have s11_38 := ef 11 he_38 (up_m rfl (u2 rfl (u4 rfl (u16 rfl s11_24))))
                            have s14_38 := ef 14 he_38 (up_m rfl (u2 rfl (u4 rfl (u16 rfl s14_24))))
                            have s15_38 := ef 15 he_38 up_h
                            clear he_38
                            refine then_n ⟨(s15_38).trans (by (refine avb ?_; unfold leA cuA; simp only [decide_eq_true_eq, Bool.false_eq_true, true_iff, false_iff]; omega)), (s5_38).trans (s5_24).symm, (s7_38).trans (s7_24).symm, (s9_38).trans (s9_24).symm, (s11_38).trans (s11_24).symm, (s14_38).trans (s14_24).symm, rfl⟩)
                       · skip
                         first
                         | (cases hq_37; done) | ((first | replace hq_37 := bnt hq_37 | replace hq_37 := bnf hq_37 | replace hq_37 := bt hq_37 | replace hq_37 := bf hq_37 | replace hq_37 := bt' hq_37 | replace hq_37 := bf' hq_37 | skip); exfalso; omega) | (rw [hbe] at hq_37; cases hq_37; done)
                         | ((first | replace hq_37 := bnt hq_37 | replace hq_37 := bnf hq_37 | replace hq_37 := bt hq_37 | replace hq_37 := bf hq_37 | replace hq_37 := bt' hq_37 | replace hq_37 := bf' hq_37 | skip)
                            refine ds_skip' ⟨_, rfl, .inl hb_37⟩ rfl ?_
                            refine ds_skip' ⟨_, rfl, .inl (up_m rfl hb_37)⟩ rfl ?_
                            refine ds_skip' ⟨_, rfl, .inl (u2 rfl hb_37)⟩ rfl ?_
                            refine ds_skip' ⟨_, rfl, .inl (up_m rfl (u2 rfl hb_37))⟩ rfl ?_
                            refine ds_skip' ⟨_, rfl, .inl (u4 rfl hb_37)⟩ rfl ?_
                            refine ds_skip' ⟨_, rfl, .inl (up_m rfl (u4 rfl hb_37))⟩ rfl ?_
                            refine ds_skip' ⟨_, rfl, .inl (u2 rfl (u4 rfl hb_37))⟩ rfl ?_
                            refine ds_skip' ⟨_, rfl, .inl (up_m rfl (u2 rfl (u4 rfl hb_37)))⟩ rfl ?_
                            refine ds_skip' ⟨_, rfl, .inl (u8 rfl hb_37)⟩ rfl ?_
                            refine ds_skip' ⟨_, rfl, .inl (up_m rfl (u8 rfl hb_37))⟩ rfl ?_
                            refine ds_ro' (ro_pickF (u2 rfl (u8 rfl hb_37)) ev_c) trivial rfl ?_
                            refine ds_ro' (ro_assign up_h) trivial rfl ?_
                            refine ds_nil ?_
                            refine al_end (fun e_39 he_39 => ?_)
                            have s5_39 := ef 5 he_39 (up_m rfl (u2 rfl (u4 rfl (u16 rfl s5_24))))
                            have s7_39 := ef 7 he_39 (up_m rfl (u2 rfl (u4 rfl (u16 rfl s7_24))))
                            have s9_39 := ef 9 he_39 (up_m rfl (u2 rfl (u4 rfl (u16 rfl s9_24))))
                            have s11_39 := ef 11 he_39 (up_m rfl (u2 rfl (u4 rfl (u16 rfl s11_24))))
                            have s14_39 := ef 14 he_39 (up_m rfl (u2 rfl (u4 rfl (u16 rfl s14_24))))
                            have s15_39 := ef 15 he_39 up_h
                            clear he_39
                            refine then_n ⟨(s15_39).trans (by (refine avb ?_; unfold leA cuA; simp only [decide_eq_true_eq, Bool.false_eq_true, true_iff, false_iff]; omega)), (s5_39).trans (s5_24).symm, (s7_39).trans (s7_24).symm, (s9_39).trans (s9_24).symm, (s11_39).trans (s11_24).symm, (s14_39).trans (s14_24).symm, rfl⟩)
                     · rintro e_36 _ ⟨s15_36, k5_36, k7_36, k9_36, k11_36, k14_36, rfl⟩
                       have s5_36 := k5_36.trans s5_24
                       have s7_36 := k7_36.trans s7_24
                       have s9_36 := k9_36.trans s9_24
                       have s11_36 := k11_36.trans s11_24
                       have s14_36 := k14_36.trans s14_24
                       refine aw_seq ?_
                       refine aw_seq ?_
                       refine aw_text ?_
                       refine al_ro' (ro_fld_ptr k19_fl44_0 rfl s5_36) trivial rfl ?_
                       refine al_ro' (ro_fld_ptr k19_fl42_0 rfl up_h) trivial rfl ?_
                       refine al_ro' (ro_eq (ro_ld_ptr k19_ty3 rfl mo2_3 up_h (by first | exact Nat.le_of_ble_eq_true rfl | omega | (simp only [lnS] <;> omega) | (simp <;> omega))) (by first | (simp only [packA_t, packA_f, iE, bE, setAt, cellsA, Value.cells, map_vc, map_vn, Nat.reduceAdd, qS] <;> rfl) | rfl)) trivial rfl ?_
                       refine al_ro' (ro_assign up_h) trivial rfl ?_
                       refine al_end (fun e_40 he_40 => ?_)
                       have s5_40 := ef 5 he_40 (u4 rfl s5_36)
                       have s7_40 := ef 7 he_40 (u4 rfl s7_36)
                       have s9_40 := ef 9 he_40 (u4 rfl s9_36)
                       have s11_40 := ef 11 he_40 (u4 rfl s11_36)
                       have s14_40 := ef 14 he_40 (u4 rfl s14_36)
                       have s15_40 := ef 15 he_40 (u4 rfl s15_36)
                       have s16_40 := ef 16 he_40 up_h
                       clear he_40 s11_36 s14_36 s15_36 s5_36 s7_36 s9_36
                       refine then_n ?_
                       refine aw_block ?_
                       refine aw_loop (S := (Int × Bool)) (fun s e mem => match s with | ⟨i, bb⟩ => (evA e (.tmp 16) = .v (.int .i64 i)) ∧ (evA e (.tmp 15) = .v (.bool bb)) ∧ (evA e (.tmp 5) = evA e_40 (.tmp 5)) ∧ (evA e (.tmp 7) = evA e_40 (.tmp 7)) ∧ (evA e (.tmp 9) = evA e_40 (.tmp 9)) ∧ (evA e (.tmp 11) = evA e_40 (.tmp 11)) ∧ (evA e (.tmp 14) = evA e_40 (.tmp 14)) ∧ (mem[2]? = m_3[2]?) ∧ (mem[1]? = m_3[1]?) ∧ (mem[0]? = m_3[0]?) ∧ (mem.length = 3) ∧ ((post ≤ i ∧ i ≤ stop + 1 ∧ (bb = true ↔ ((leA ps d stop post.toNat ≤ sq ∧ sq ≤ cuA ps b stop post.toNat) ∧ ∀ j : Nat, post ≤ j → j < i → cuA ps b stop j ≠ -1 ∧ leA ps d stop j ≤ cuA ps b stop j))))) (fun s => match s with | ⟨i, bb⟩ => (stop + 1 - i).toNat) ⟨_, _⟩ ⟨s16_40, s15_40, rfl, rfl, rfl, rfl, rfl, rfl, rfl, rfl, ml_3, ?_⟩ ?_
                       · (refine ⟨by omega, by omega, ?_⟩; rw [decide_eq_true_eq]; exact ⟨fun h => ⟨h, fun j j1 j2 => absurd j2 (by omega)⟩, fun h => h.1⟩)
                       · rintro ⟨i, bb⟩ e_41 m_41 ⟨s16_41, s15_41, k5_41, k7_41, k9_41, k11_41, k14_41, mk2_41, mk1_41, mk0_41, ml_41, hinv⟩
                         have s5_41 := k5_41.trans s5_40
                         have s7_41 := k7_41.trans s7_40
                         have s9_41 := k9_41.trans s9_40
                         have s11_41 := k11_41.trans s11_40
                         have s14_41 := k14_41.trans s14_40
                         have mo2_41 := mk2_41.trans mo2_3
                         have mo1_41 := mk1_41.trans mo1_3
                         have mo0_41 := mk0_41.trans mo0_3
                         refine aw_seq ?_
                         refine aw_seq ?_
                         refine aw_text ?_
                         refine al_ro' (ro_move s16_41) trivial rfl ?_
                         refine al_ro' (ro_fld_ptr k19_fl44_1 rfl (up_m rfl s5_41)) trivial rfl ?_
                         refine al_ro' (ro_eq (ro_ld_ptr k19_ty3 rfl mo2_41 up_h (by first | exact Nat.le_of_ble_eq_true rfl | omega | (simp only [lnS] <;> omega) | (simp <;> omega))) (by first | (simp only [packA_t, packA_f, iE, bE, setAt, cellsA, Value.cells, map_vc, map_vn, Nat.reduceAdd, qS] <;> rfl) | rfl)) trivial rfl ?_
                         refine al_ro' (ro_leq (u2 rfl up_h) up_h) trivial rfl ?_
                         refine al_end (fun e_42 he_42 => ?_)
                         have s5_42 := ef 5 he_42 (u4 rfl s5_41)
                         have s7_42 := ef 7 he_42 (u4 rfl s7_41)
                         have s9_42 := ef 9 he_42 (u4 rfl s9_41)
                         have s11_42 := ef 11 he_42 (u4 rfl s11_41)
                         have s14_42 := ef 14 he_42 (u4 rfl s14_41)
                         have s15_42 := ef 15 he_42 (u4 rfl s15_41)
                         have s16_42 := ef 16 he_42 (u4 rfl s16_41)
                         have s144_42 := ef 144 he_42 up_h
                         clear he_42 s11_41 s14_41 s15_41 s16_41 s5_41 s7_41 s9_41
                         refine then_n ?_
                         refine aw_case s144_42 (fun hq_43 => ?_) (fun hq_43 => ?_)
                         · skip
                           first
                           | (cases hq_43; done) | ((first | replace hq_43 := bnt hq_43 | replace hq_43 := bnf hq_43 | replace hq_43 := bt hq_43 | replace hq_43 := bf hq_43 | replace hq_43 := bt' hq_43 | replace hq_43 := bf' hq_43 | skip); exfalso; omega) | (rw [hbe] at hq_43; cases hq_43; done)
                           | ((first | replace hq_43 := bnt hq_43 | replace hq_43 := bnf hq_43 | replace hq_43 := bt hq_43 | replace hq_43 := bf hq_43 | replace hq_43 := bt' hq_43 | replace hq_43 := bf' hq_43 | skip)
                              (have p1 := hinv.1; have p2 := hinv.2.1)
                              refine aw_skip ?_
                              refine then_n ?_
                              refine aw_seq ?_
                              refine aw_block ?_
                              refine aw_draw 19 (by kernel_rfl) (by kernel_rfl) (by kernel_rfl) ?_
                              refine ds_ro' (ro_move s15_42) trivial rfl ?_
                              refine ds_ro' (ro_move up_h) trivial rfl ?_
                              refine ds_case up_h (fun hb_44 hq_44 => ?_) (fun hb_44 hq_44 => ?_)
                              · skip
                                first
                                | (cases hq_44; done) | ((first | replace hq_44 := bnt hq_44 | replace hq_44 := bnf hq_44 | replace hq_44 := bt hq_44 | replace hq_44 := bf hq_44 | replace hq_44 := bt' hq_44 | replace hq_44 := bf' hq_44 | skip); exfalso; omega) | (rw [hbe] at hq_44; cases hq_44; done)
                                | ((first | replace hq_44 := bnt hq_44 | replace hq_44 := bnf hq_44 | replace hq_44 := bt hq_44 | replace hq_44 := bf hq_44 | replace hq_44 := bt' hq_44 | replace hq_44 := bf' hq_44 | skip)
                                   refine ds_ro' (ro_move (u2 rfl s7_42)) ⟨_, rfl, hb_44⟩ rfl ?_
                                   refine ds_ro' (ro_move (up_m rfl (u2 rfl s16_42))) ⟨_, rfl, (up_m rfl hb_44)⟩ rfl ?_
                                   refine ds_ro' (ro_eq (ro_ix k19_sl30 (up_m rfl up_h) up_h (by first | decide | omega | (simp <;> omega)) (by first | (refine idx_map ?_; first | omega | (simp only [lnS]; omega)) | (refine idx_mapI ?_; first | omega | (simp only [lnS]; omega)) | (refine idx_mapN ?_; first | omega | (simp only [lnS]; omega)) | rfl)) (by first | (simp only [packA_t, packA_f, iE, bE, setAt, cellsA, Value.cells, map_vc, map_vn, Nat.reduceAdd, qS] <;> rfl) | rfl)) ⟨_, rfl, (u2 rfl hb_44)⟩ rfl ?_
                                   refine ds_ro' (ro_eq (ro_ld_ref k19_ty3 rfl up_h (by first | exact Nat.le_of_ble_eq_true rfl | omega | (simp only [lnS] <;> omega) | (simp <;> omega))) (by first | (simp only [packA_t, packA_f, iE, bE, setAt, cellsA, Value.cells, map_vc, map_vn, Nat.reduceAdd, qS] <;> rfl) | rfl)) ⟨_, rfl, (up_m rfl (u2 rfl hb_44))⟩ rfl ?_
                                   refine ds_ro' (ro_neq up_h ev_c) ⟨_, rfl, (u4 rfl hb_44)⟩ rfl ?_
                                   refine ds_ro' (ro_pickT (up_m rfl (u4 rfl hb_44)) up_h) trivial rfl ?_
                                   refine ds_ro' (ro_move up_h) trivial rfl ?_
                                   refine ds_case up_h (fun hb_45 hq_45 => ?_) (fun hb_45 hq_45 => ?_)
                                   · skip
                                     first
                                     | (cases hq_45; done) | ((first | replace hq_45 := bnt hq_45 | replace hq_45 := bnf hq_45 | replace hq_45 := bt hq_45 | replace hq_45 := bf hq_45 | replace hq_45 := bt' hq_45 | replace hq_45 := bf' hq_45 | skip); exfalso; omega) | (rw [hbe] at hq_45; cases hq_45; done)
                                     | ((first | replace hq_45 := bnt hq_45 | replace hq_45 := bnf hq_45 | replace hq_45 := bt hq_45 | replace hq_45 := bf hq_45 | replace hq_45 := bt' hq_45 | replace hq_45 := bf' hq_45 | skip)
                                        refine ds_ro' (ro_move (up_m rfl (u8 rfl s9_42))) ⟨_, rfl, hb_45⟩ rfl ?_
                                        refine ds_ro' (ro_move (u2 rfl (u8 rfl s16_42))) ⟨_, rfl, (up_m rfl hb_45)⟩ rfl ?_
                                        refine ds_ro' (ro_eq (ro_ix k19_sl30 (up_m rfl up_h) up_h (by first | decide | omega | (simp <;> omega)) (by first | (refine idx_map ?_; first | omega | (simp only [lnS]; omega)) | (refine idx_mapI ?_; first | omega | (simp only [lnS]; omega)) | (refine idx_mapN ?_; first | omega | (simp only [lnS]; omega)) | rfl)) (by first | (simp only [packA_t, packA_f, iE, bE, setAt, cellsA, Value.cells, map_vc, map_vn, Nat.reduceAdd, qS] <;> rfl) | rfl)) ⟨_, rfl, (u2 rfl hb_45)⟩ rfl ?_
                                        refine ds_ro' (ro_eq (ro_ld_ref k19_ty3 rfl up_h (by first | exact Nat.le_of_ble_eq_true rfl | omega | (simp only [lnS] <;> omega) | (simp <;> omega))) (by first | (simp only [packA_t, packA_f, iE, bE, setAt, cellsA, Value.cells, map_vc, map_vn, Nat.reduceAdd, qS] <;> rfl) | rfl)) ⟨_, rfl, (up_m rfl (u2 rfl hb_45))⟩ rfl ?_
                                        refine ds_ro' (ro_move (up_m rfl (u4 rfl (u8 rfl s7_42)))) ⟨_, rfl, (u4 rfl hb_45)⟩ rfl ?_
                                        refine ds_ro' (ro_move (u2 rfl (u4 rfl (u8 rfl s16_42)))) ⟨_, rfl, (up_m rfl (u4 rfl hb_45))⟩ rfl ?_
                                        refine ds_ro' (ro_eq (ro_ix k19_sl30 (up_m rfl up_h) up_h (by first | decide | omega | (simp <;> omega)) (by first | (refine idx_map ?_; first | omega | (simp only [lnS]; omega)) | (refine idx_mapI ?_; first | omega | (simp only [lnS]; omega)) | (refine idx_mapN ?_; first | omega | (simp only [lnS]; omega)) | rfl)) (by first | (simp only [packA_t, packA_f, iE, bE, setAt, cellsA, Value.cells, map_vc, map_vn, Nat.reduceAdd, qS] <;> rfl) | rfl)) ⟨_, rfl, (u2 rfl (u4 rfl hb_45))⟩ rfl ?_
                                        refine ds_ro' (ro_eq (ro_ld_ref k19_ty3 rfl up_h (by first | exact Nat.le_of_ble_eq_true rfl | omega | (simp only [lnS] <;> omega) | (simp <;> omega))) (by first | (simp only [packA_t, packA_f, iE, bE, setAt, cellsA, Value.cells, map_vc, map_vn, Nat.reduceAdd, qS] <;> rfl) | rfl)) ⟨_, rfl, (up_m rfl (u2 rfl (u4 rfl hb_45)))⟩ rfl ?_
                                        refine ds_ro' (ro_leq (u4 rfl up_h) up_h) ⟨_, rfl, (u8 rfl hb_45)⟩ rfl ?_
                                        refine ds_ro' (ro_pickT (up_m rfl (u8 rfl hb_45)) up_h) trivial rfl ?_
                                        refine ds_nil ?_
                                        refine al_ro' (ro_assign up_h) trivial rfl ?_
                                        refine al_end (fun e_46 he_46 => ?_)
                                        have s5_46 := ef 5 he_46 (u4 rfl (u16 rfl s5_42))
                                        have s7_46 := ef 7 he_46 (u4 rfl (u16 rfl s7_42))
                                        have s9_46 := ef 9 he_46 (u4 rfl (u16 rfl s9_42))
                                        have s11_46 := ef 11 he_46 (u4 rfl (u16 rfl s11_42))
                                        have s14_46 := ef 14 he_46 (u4 rfl (u16 rfl s14_42))
                                        have s15_46 := ef 15 he_46 up_h
                                        have s16_46 := ef 16 he_46 (u4 rfl (u16 rfl s16_42))
                                        clear he_46 hb_44 hb_45 s11_42 s144_42 s14_42 s15_42 s16_42 s5_42 s7_42 s9_42
                                        refine block_n ?_
                                        refine then_n ?_
                                        refine aw_text ?_
                                        refine al_ro' (ro_move s16_46) trivial rfl ?_
                                        first | (refine al_ro' (ro_add' up_h ev_c ?_) trivial rfl ?_; · (unfold In64; omega)) | refine al_ro' (ro_add up_h ev_c) trivial rfl ?_
                                        refine al_ro' (ro_assign up_h) trivial rfl ?_
                                        refine al_end (fun e_47 he_47 => ?_)
                                        have s5_47 := ef 5 he_47 (up_m rfl (u2 rfl s5_46))
                                        have s7_47 := ef 7 he_47 (up_m rfl (u2 rfl s7_46))
                                        have s9_47 := ef 9 he_47 (up_m rfl (u2 rfl s9_46))
                                        have s11_47 := ef 11 he_47 (up_m rfl (u2 rfl s11_46))
                                        have s14_47 := ef 14 he_47 (up_m rfl (u2 rfl s14_46))
                                        have s15_47 := ef 15 he_47 (up_m rfl (u2 rfl s15_46))
                                        have s16_47 := ef 16 he_47 up_h
                                        clear he_47 s11_46 s14_46 s15_46 s16_46 s5_46 s7_46 s9_46
                                        refine then_n ?_
                                        refine ⟨⟨_, _⟩, ⟨s16_47, s15_47, (s5_47.trans s5_40.symm), (s7_47.trans s7_40.symm), (s9_47.trans s9_40.symm), (s11_47.trans s11_40.symm), (s14_47.trans s14_40.symm), (mo2_41.trans mo2_3.symm), (mo1_41.trans mo1_3.symm), (mo0_41.trans mo0_3.symm), ml_41, ?_⟩, ?_⟩
                                        · (obtain ⟨p1, p2, p3⟩ := hinv; refine ⟨by omega, by omega, two_back (i := i) (by omega) (by omega) p3 ?_⟩; clear p3; first | (simp [leA, cuA, *]; done) | (simp_all [leA, cuA]; done))
                                        · ((try dsimp only); omega))
                                   · skip
                                     first
                                     | (cases hq_45; done) | ((first | replace hq_45 := bnt hq_45 | replace hq_45 := bnf hq_45 | replace hq_45 := bt hq_45 | replace hq_45 := bf hq_45 | replace hq_45 := bt' hq_45 | replace hq_45 := bf' hq_45 | skip); exfalso; omega) | (rw [hbe] at hq_45; cases hq_45; done)
                                     | ((first | replace hq_45 := bnt hq_45 | replace hq_45 := bnf hq_45 | replace hq_45 := bt hq_45 | replace hq_45 := bf hq_45 | replace hq_45 := bt' hq_45 | replace hq_45 := bf' hq_45 | skip)
                                        refine ds_skip' ⟨_, rfl, .inl hb_45⟩ rfl ?_
                                        refine ds_skip' ⟨_, rfl, .inl (up_m rfl hb_45)⟩ rfl ?_
                                        refine ds_skip' ⟨_, rfl, .inl (u2 rfl hb_45)⟩ rfl ?_
                                        refine ds_skip' ⟨_, rfl, .inl (up_m rfl (u2 rfl hb_45))⟩ rfl ?_
                                        refine ds_skip' ⟨_, rfl, .inl (u4 rfl hb_45)⟩ rfl ?_
                                        refine ds_skip' ⟨_, rfl, .inl (up_m rfl (u4 rfl hb_45))⟩ rfl ?_
                                        refine ds_skip' ⟨_, rfl, .inl (u2 rfl (u4 rfl hb_45))⟩ rfl ?_
                                        refine ds_skip' ⟨_, rfl, .inl (up_m rfl (u2 rfl (u4 rfl hb_45)))⟩ rfl ?_
                                        refine ds_skip' ⟨_, rfl, .inl (u8 rfl hb_45)⟩ rfl ?_
                                        refine ds_ro' (ro_pickF (up_m rfl (u8 rfl hb_45)) ev_c) trivial rfl ?_
                                        refine ds_nil ?_
                                        refine al_ro' (ro_assign up_h) trivial rfl ?_
                                        refine al_end (fun e_48 he_48 => ?_)
                                        have s5_48 := ef 5 he_48 (u4 rfl (u16 rfl s5_42))
                                        have s7_48 := ef 7 he_48 (u4 rfl (u16 rfl s7_42))
                                        have s9_48 := ef 9 he_48 (u4 rfl (u16 rfl s9_42))
                                        have s11_48 := ef 11 he_48 (u4 rfl (u16 rfl s11_42))
                                        have s14_48 := ef 14 he_48 (u4 rfl (u16 rfl s14_42))
                                        have s15_48 := ef 15 he_48 up_h
                                        have s16_48 := ef 16 he_48 (u4 rfl (u16 rfl s16_42))
                                        clear he_48 hb_44 hb_45 s11_42 s144_42 s14_42 s15_42 s16_42 s5_42 s7_42 s9_42
                                        refine block_n ?_
                                        refine then_n ?_
                                        refine aw_text ?_
                                        refine al_ro' (ro_move s16_48) trivial rfl ?_
                                        first | (refine al_ro' (ro_add' up_h ev_c ?_) trivial rfl ?_; · (unfold In64; omega)) | refine al_ro' (ro_add up_h ev_c) trivial rfl ?_
                                        refine al_ro' (ro_assign up_h) trivial rfl ?_
                                        refine al_end (fun e_49 he_49 => ?_)
                                        have s5_49 := ef 5 he_49 (up_m rfl (u2 rfl s5_48))
                                        have s7_49 := ef 7 he_49 (up_m rfl (u2 rfl s7_48))
                                        have s9_49 := ef 9 he_49 (up_m rfl (u2 rfl s9_48))
                                        have s11_49 := ef 11 he_49 (up_m rfl (u2 rfl s11_48))
                                        have s14_49 := ef 14 he_49 (up_m rfl (u2 rfl s14_48))
                                        have s15_49 := ef 15 he_49 (up_m rfl (u2 rfl s15_48))
                                        have s16_49 := ef 16 he_49 up_h
                                        clear he_49 s11_48 s14_48 s15_48 s16_48 s5_48 s7_48 s9_48
                                        refine then_n ?_
                                        refine ⟨⟨_, _⟩, ⟨s16_49, s15_49, (s5_49.trans s5_40.symm), (s7_49.trans s7_40.symm), (s9_49.trans s9_40.symm), (s11_49.trans s11_40.symm), (s14_49.trans s14_40.symm), (mo2_41.trans mo2_3.symm), (mo1_41.trans mo1_3.symm), (mo0_41.trans mo0_3.symm), ml_41, ?_⟩, ?_⟩
                                        · (obtain ⟨p1, p2, p3⟩ := hinv; refine ⟨by omega, by omega, two_back (i := i) (by omega) (by omega) p3 ?_⟩; clear p3; first | (simp [leA, cuA, *]; done) | (simp_all [leA, cuA]; done))
                                        · ((try dsimp only); omega)))
                              · skip
                                first
                                | (cases hq_44; done) | ((first | replace hq_44 := bnt hq_44 | replace hq_44 := bnf hq_44 | replace hq_44 := bt hq_44 | replace hq_44 := bf hq_44 | replace hq_44 := bt' hq_44 | replace hq_44 := bf' hq_44 | skip); exfalso; omega) | (rw [hbe] at hq_44; cases hq_44; done)
                                | ((first | replace hq_44 := bnt hq_44 | replace hq_44 := bnf hq_44 | replace hq_44 := bt hq_44 | replace hq_44 := bf hq_44 | replace hq_44 := bt' hq_44 | replace hq_44 := bf' hq_44 | skip)
                                   refine ds_skip' ⟨_, rfl, .inl hb_44⟩ rfl ?_
                                   refine ds_skip' ⟨_, rfl, .inl (up_m rfl hb_44)⟩ rfl ?_
                                   refine ds_skip' ⟨_, rfl, .inl (u2 rfl hb_44)⟩ rfl ?_
                                   refine ds_skip' ⟨_, rfl, .inl (up_m rfl (u2 rfl hb_44))⟩ rfl ?_
                                   refine ds_skip' ⟨_, rfl, .inl (u4 rfl hb_44)⟩ rfl ?_
                                   refine ds_ro' (ro_pickF (up_m rfl (u4 rfl hb_44)) ev_c) trivial rfl ?_
                                   refine ds_ro' (ro_move up_h) trivial rfl ?_
                                   refine ds_skip' ⟨_, rfl, .inl up_h⟩ rfl ?_
                                   refine ds_skip' ⟨_, rfl, .inl (up_m rfl up_h)⟩ rfl ?_
                                   refine ds_skip' ⟨_, rfl, .inl (u2 rfl up_h)⟩ rfl ?_
                                   refine ds_skip' ⟨_, rfl, .inl (up_m rfl (u2 rfl up_h))⟩ rfl ?_
                                   refine ds_skip' ⟨_, rfl, .inl (u4 rfl up_h)⟩ rfl ?_
                                   refine ds_skip' ⟨_, rfl, .inl (up_m rfl (u4 rfl up_h))⟩ rfl ?_
                                   refine ds_skip' ⟨_, rfl, .inl (u2 rfl (u4 rfl up_h))⟩ rfl ?_
                                   refine ds_skip' ⟨_, rfl, .inl (up_m rfl (u2 rfl (u4 rfl up_h)))⟩ rfl ?_
                                   refine ds_skip' ⟨_, rfl, .inl (u8 rfl up_h)⟩ rfl ?_
                                   refine ds_ro' (ro_pickF (up_m rfl (u8 rfl up_h)) ev_c) trivial rfl ?_
                                   refine ds_nil ?_
                                   refine al_ro' (ro_assign up_h) trivial rfl ?_
                                   refine al_end (fun e_50 he_50 => ?_)
                                   have s5_50 := ef 5 he_50 (u4 rfl (u16 rfl s5_42))
                                   have s7_50 := ef 7 he_50 (u4 rfl (u16 rfl s7_42))
                                   have s9_50 := ef 9 he_50 (u4 rfl (u16 rfl s9_42))
                                   have s11_50 := ef 11 he_50 (u4 rfl (u16 rfl s11_42))
                                   have s14_50 := ef 14 he_50 (u4 rfl (u16 rfl s14_42))
                                   have s15_50 := ef 15 he_50 up_h
                                   have s16_50 := ef 16 he_50 (u4 rfl (u16 rfl s16_42))
                                   clear he_50 hb_44 s11_42 s144_42 s14_42 s15_42 s16_42 s5_42 s7_42 s9_42
                                   refine block_n ?_
                                   refine then_n ?_
                                   refine aw_text ?_
                                   refine al_ro' (ro_move s16_50) trivial rfl ?_
                                   first | (refine al_ro' (ro_add' up_h ev_c ?_) trivial rfl ?_; · (unfold In64; omega)) | refine al_ro' (ro_add up_h ev_c) trivial rfl ?_
                                   refine al_ro' (ro_assign up_h) trivial rfl ?_
                                   refine al_end (fun e_51 he_51 => ?_)
                                   have s5_51 := ef 5 he_51 (up_m rfl (u2 rfl s5_50))
                                   have s7_51 := ef 7 he_51 (up_m rfl (u2 rfl s7_50))
                                   have s9_51 := ef 9 he_51 (up_m rfl (u2 rfl s9_50))
                                   have s11_51 := ef 11 he_51 (up_m rfl (u2 rfl s11_50))
                                   have s14_51 := ef 14 he_51 (up_m rfl (u2 rfl s14_50))
                                   have s15_51 := ef 15 he_51 (up_m rfl (u2 rfl s15_50))
                                   have s16_51 := ef 16 he_51 up_h
                                   clear he_51 s11_50 s14_50 s15_50 s16_50 s5_50 s7_50 s9_50
                                   refine then_n ?_
                                   refine ⟨⟨_, _⟩, ⟨s16_51, s15_51, (s5_51.trans s5_40.symm), (s7_51.trans s7_40.symm), (s9_51.trans s9_40.symm), (s11_51.trans s11_40.symm), (s14_51.trans s14_40.symm), (mo2_41.trans mo2_3.symm), (mo1_41.trans mo1_3.symm), (mo0_41.trans mo0_3.symm), ml_41, ?_⟩, ?_⟩
                                   · (obtain ⟨p1, p2, p3⟩ := hinv; refine ⟨by omega, by omega, two_back (i := i) (by omega) (by omega) p3 ?_⟩; clear p3; first | (simp [leA, cuA, *]; done) | (simp_all [leA, cuA]; done))
                                   · ((try dsimp only); omega)))
                         · skip
                           first
                           | (cases hq_43; done) | ((first | replace hq_43 := bnt hq_43 | replace hq_43 := bnf hq_43 | replace hq_43 := bt hq_43 | replace hq_43 := bf hq_43 | replace hq_43 := bt' hq_43 | replace hq_43 := bf' hq_43 | skip); exfalso; omega) | (rw [hbe] at hq_43; cases hq_43; done)
                           | ((first | replace hq_43 := bnt hq_43 | replace hq_43 := bnf hq_43 | replace hq_43 := bt hq_43 | replace hq_43 := bf hq_43 | replace hq_43 := bt' hq_43 | replace hq_43 := bf' hq_43 | skip)
                              (have p3 := hinv.2.2; have hii : i = stop + 1 := (by have := hinv.2.1; omega); rw [hii, ← two_ways hr3.1 hle hr4.1] at p3; have hbe : (decide ((runW ps b d stop post sq).2 = 0) == bb) = true := (by cases bb <;> simp_all); have h3 := runW_three ps b d stop post sq)
                              refine aw_exit ?_
                              refine then_x ?_
                              refine then_x ?_
                              refine block_hit ?_
                              refine then_n ?_
                              refine aw_seq ?_
                              refine aw_text ?_
                              refine al_ro' (ro_move s11_42) trivial rfl ?_
                              refine al_ro' (ro_move (up_m rfl s15_42)) trivial rfl ?_
                              refine al_ro' (ro_beql (k19_be4 _ _) (up_m rfl up_h) up_h) trivial rfl ?_
                              refine al_ro' (ro_move up_h) trivial rfl ?_
                              refine al_case up_h (fun hb_52 hq_52 => ?_) (fun hb_52 hq_52 => ?_)
                              · skip
                                first
                                | (cases hq_52; done) | ((first | replace hq_52 := bnt hq_52 | replace hq_52 := bnf hq_52 | replace hq_52 := bt hq_52 | replace hq_52 := bf hq_52 | replace hq_52 := bt' hq_52 | replace hq_52 := bf' hq_52 | skip); exfalso; omega) | (rw [hbe] at hq_52; cases hq_52; done)
                                | ((first | replace hq_52 := bnt hq_52 | replace hq_52 := bnf hq_52 | replace hq_52 := bt hq_52 | replace hq_52 := bf hq_52 | replace hq_52 := bt' hq_52 | replace hq_52 := bf' hq_52 | skip)
                                   refine al_ro' (ro_move (u4 rfl s14_42)) ⟨_, rfl, hb_52⟩ rfl ?_
                                   refine al_ro' (ro_eql up_h ev_c) ⟨_, rfl, (up_m rfl hb_52)⟩ rfl ?_
                                   refine al_ro' (ro_move (u2 rfl (u4 rfl s15_42))) ⟨_, rfl, (u2 rfl hb_52)⟩ rfl ?_
                                   refine al_ro' (ro_beql (k19_be4 _ _) (up_m rfl up_h) up_h) ⟨_, rfl, (up_m rfl (u2 rfl hb_52))⟩ rfl ?_
                                   refine al_ro' (ro_pickT (u4 rfl hb_52) up_h) trivial rfl ?_
                                   refine al_ro' (ro_move up_h) trivial rfl ?_
                                   refine al_case up_h (fun hb_53 hq_53 => ?_) (fun hb_53 hq_53 => ?_)
                                   · skip
                                     first
                                     | (cases hq_53; done) | ((first | replace hq_53 := bnt hq_53 | replace hq_53 := bnf hq_53 | replace hq_53 := bt hq_53 | replace hq_53 := bf hq_53 | replace hq_53 := bt' hq_53 | replace hq_53 := bf' hq_53 | skip); exfalso; omega) | (rw [hbe] at hq_53; cases hq_53; done)
                                     | ((first | replace hq_53 := bnt hq_53 | replace hq_53 := bnf hq_53 | replace hq_53 := bt hq_53 | replace hq_53 := bf hq_53 | replace hq_53 := bt' hq_53 | replace hq_53 := bf' hq_53 | skip)
                                        refine al_ro' (ro_move (u2 rfl (u8 rfl s15_42))) ⟨_, rfl, hb_53⟩ rfl ?_
                                        refine al_ro' (ro_move up_h) ⟨_, rfl, (up_m rfl hb_53)⟩ rfl ?_
                                        refine al_case up_h (fun hb_54 hq_54 => ?_) (fun hb_54 hq_54 => ?_)
                                        · skip
                                          first
                                          | (cases hq_54; done) | ((first | replace hq_54 := bnt hq_54 | replace hq_54 := bnf hq_54 | replace hq_54 := bt hq_54 | replace hq_54 := bf hq_54 | replace hq_54 := bt' hq_54 | replace hq_54 := bf' hq_54 | skip); exfalso; omega) | (rw [hbe] at hq_54; cases hq_54; done)
                                          | ((first | replace hq_54 := bnt hq_54 | replace hq_54 := bnf hq_54 | replace hq_54 := bt hq_54 | replace hq_54 := bf hq_54 | replace hq_54 := bt' hq_54 | replace hq_54 := bf' hq_54 | skip)
                                             refine al_skip' ⟨_, rfl, .inl hb_54⟩ rfl ?_
                                             refine al_skip' ⟨_, rfl, .inl (up_m rfl hb_54)⟩ rfl ?_
                                             refine al_ro' (ro_pickT (u2 rfl hb_54) ev_c) ⟨_, rfl, (u4 rfl hb_53)⟩ rfl ?_
                                             refine al_ro' (ro_move up_h) ⟨_, rfl, (up_m rfl (u4 rfl hb_53))⟩ rfl ?_
                                             refine al_skip' ⟨_, rfl, .inl up_h⟩ rfl ?_
                                             refine al_skip' ⟨_, rfl, .inl (up_m rfl up_h)⟩ rfl ?_
                                             refine al_ro' (ro_pickT (u2 rfl up_h) ev_c) ⟨_, rfl, (u8 rfl hb_53)⟩ rfl ?_
                                             refine al_ro' (ro_pickT (up_m rfl (u8 rfl hb_53)) up_h) trivial rfl ?_
                                             refine al_ro' (ro_assign up_h) trivial rfl ?_
                                             refine al_end (fun e_55 he_55 => ?_)
                                             have s6_55 := ef 6 he_55 up_h
                                             clear he_55 hb_52 hb_53 hb_54 s11_42 s144_42 s14_42 s15_42 s16_42 s5_42 s7_42 s9_42
                                             refine then_n ?_
                                             refine aw_ret ?_
                                             refine ret1 (.inr rfl) (by kernel_rfl) (resV_tmp s6_55) (.ro _ rfl) ?_
                                             clear s6_55 mo2_41 mo1_41 mo0_41 ml_41
                                             (first | rfl | (have hc0 : ¬ (runW ps b d stop post sq).2 = 0 := (fun h => by have := p3.2 h; simp_all); have h12 : (runW ps b d stop post sq).2 = 12 := (by omega); simp [h12]; done)))
                                        · skip
                                          first
                                          | (cases hq_54; done) | ((first | replace hq_54 := bnt hq_54 | replace hq_54 := bnf hq_54 | replace hq_54 := bt hq_54 | replace hq_54 := bf hq_54 | replace hq_54 := bt' hq_54 | replace hq_54 := bf' hq_54 | skip); exfalso; omega) | (rw [hbe] at hq_54; cases hq_54; done)
                                          | ((first | replace hq_54 := bnt hq_54 | replace hq_54 := bnf hq_54 | replace hq_54 := bt hq_54 | replace hq_54 := bf hq_54 | replace hq_54 := bt' hq_54 | replace hq_54 := bf' hq_54 | skip)
                                             refine al_ro' (ro_move (u4 rfl (u8 rfl s14_42))) ⟨_, rfl, hb_54⟩ rfl ?_
                                             refine al_ro' (ro_eql up_h ev_c) ⟨_, rfl, (up_m rfl hb_54)⟩ rfl ?_
                                             refine al_ro' (ro_pickF (u2 rfl hb_54) up_h) ⟨_, rfl, (u4 rfl hb_53)⟩ rfl ?_
                                             refine al_ro' (ro_move up_h) ⟨_, rfl, (up_m rfl (u4 rfl hb_53))⟩ rfl ?_
                                             refine al_case up_h (fun hb_56 hq_56 => ?_) (fun hb_56 hq_56 => ?_)
                                             · skip
                                               first
                                               | (cases hq_56; done) | ((first | replace hq_56 := bnt hq_56 | replace hq_56 := bnf hq_56 | replace hq_56 := bt hq_56 | replace hq_56 := bf hq_56 | replace hq_56 := bt' hq_56 | replace hq_56 := bf' hq_56 | skip); exfalso; omega) | (rw [hbe] at hq_56; cases hq_56; done)
                                               | ((first | replace hq_56 := bnt hq_56 | replace hq_56 := bnf hq_56 | replace hq_56 := bt hq_56 | replace hq_56 := bf hq_56 | replace hq_56 := bt' hq_56 | replace hq_56 := bf' hq_56 | skip)
                                                  refine al_skip' ⟨_, rfl, .inl hb_56⟩ rfl ?_
                                                  refine al_skip' ⟨_, rfl, .inl (up_m rfl hb_56)⟩ rfl ?_
                                                  refine al_ro' (ro_pickT (u2 rfl hb_56) ev_c) ⟨_, rfl, (u8 rfl hb_53)⟩ rfl ?_
                                                  refine al_ro' (ro_pickT (up_m rfl (u8 rfl hb_53)) up_h) trivial rfl ?_
                                                  refine al_ro' (ro_assign up_h) trivial rfl ?_
                                                  refine al_end (fun e_57 he_57 => ?_)
                                                  have s6_57 := ef 6 he_57 up_h
                                                  clear he_57 hb_52 hb_53 hb_54 hb_56 s11_42 s144_42 s14_42 s15_42 s16_42 s5_42 s7_42 s9_42
                                                  refine then_n ?_
                                                  refine aw_ret ?_
                                                  refine ret1 (.inr rfl) (by kernel_rfl) (resV_tmp s6_57) (.ro _ rfl) ?_
                                                  clear s6_57 mo2_41 mo1_41 mo0_41 ml_41
                                                  (first | rfl | (have hc0 : ¬ (runW ps b d stop post sq).2 = 0 := (fun h => by have := p3.2 h; simp_all); have h12 : (runW ps b d stop post sq).2 = 12 := (by omega); simp [h12]; done)))
                                             · skip
                                               first
                                               | (cases hq_56; done) | ((first | replace hq_56 := bnt hq_56 | replace hq_56 := bnf hq_56 | replace hq_56 := bt hq_56 | replace hq_56 := bf hq_56 | replace hq_56 := bt' hq_56 | replace hq_56 := bf' hq_56 | skip); exfalso; omega) | (rw [hbe] at hq_56; cases hq_56; done)
                                               | ((first | replace hq_56 := bnt hq_56 | replace hq_56 := bnf hq_56 | replace hq_56 := bt hq_56 | replace hq_56 := bf hq_56 | replace hq_56 := bt' hq_56 | replace hq_56 := bf' hq_56 | skip)
                                                  refine al_ro' (ro_move (u16 rfl s14_42)) ⟨_, rfl, hb_56⟩ rfl ?_
                                                  refine al_ro' (ro_eql up_h ev_c) ⟨_, rfl, (up_m rfl hb_56)⟩ rfl ?_
                                                  refine al_ro' (ro_pickF (u2 rfl hb_56) up_h) ⟨_, rfl, (u8 rfl hb_53)⟩ rfl ?_
                                                  refine al_ro' (ro_pickT (up_m rfl (u8 rfl hb_53)) up_h) trivial rfl ?_
                                                  refine al_ro' (ro_assign up_h) trivial rfl ?_
                                                  refine al_end (fun e_58 he_58 => ?_)
                                                  have s6_58 := ef 6 he_58 up_h
                                                  clear he_58 hb_52 hb_53 hb_54 hb_56 s11_42 s144_42 s14_42 s15_42 s16_42 s5_42 s7_42 s9_42
                                                  refine then_n ?_
                                                  refine aw_ret ?_
                                                  refine ret1 (.inr rfl) (by kernel_rfl) (resV_tmp s6_58) (.ro _ rfl) ?_
                                                  clear s6_58 mo2_41 mo1_41 mo0_41 ml_41
                                                  (first | rfl | (have hc0 : ¬ (runW ps b d stop post sq).2 = 0 := (fun h => by have := p3.2 h; simp_all); have h12 : (runW ps b d stop post sq).2 = 12 := (by omega); simp [h12]; done)))))
                                   · skip
                                     first
                                     | (cases hq_53; done) | ((first | replace hq_53 := bnt hq_53 | replace hq_53 := bnf hq_53 | replace hq_53 := bt hq_53 | replace hq_53 := bf hq_53 | replace hq_53 := bt' hq_53 | replace hq_53 := bf' hq_53 | skip); exfalso; omega) | (rw [hbe] at hq_53; cases hq_53; done)
                                     | ((first | replace hq_53 := bnt hq_53 | replace hq_53 := bnf hq_53 | replace hq_53 := bt hq_53 | replace hq_53 := bf hq_53 | replace hq_53 := bt' hq_53 | replace hq_53 := bf' hq_53 | skip)
                                        refine al_skip' ⟨_, rfl, .inl hb_53⟩ rfl ?_
                                        refine al_skip' ⟨_, rfl, .inl (up_m rfl hb_53)⟩ rfl ?_
                                        refine al_skip' ⟨_, rfl, .inr up_h⟩ rfl ?_
                                        refine al_skip' ⟨_, rfl, .inr (up_m rfl up_h)⟩ rfl ?_
                                        refine al_skip' ⟨_, rfl, .inl (u4 rfl hb_53)⟩ rfl ?_
                                        refine al_skip' ⟨_, rfl, .inl (up_m rfl (u4 rfl hb_53))⟩ rfl ?_
                                        refine al_skip' ⟨_, rfl, .inr up_h⟩ rfl ?_
                                        refine al_skip' ⟨_, rfl, .inr (up_m rfl up_h)⟩ rfl ?_
                                        refine al_skip' ⟨_, rfl, .inl (u8 rfl hb_53)⟩ rfl ?_
                                        refine al_ro' (ro_pickF (up_m rfl (u8 rfl hb_53)) ev_c) trivial rfl ?_
                                        refine al_ro' (ro_assign up_h) trivial rfl ?_
                                        refine al_end (fun e_59 he_59 => ?_)
                                        have s6_59 := ef 6 he_59 up_h
                                        clear he_59 hb_52 hb_53 s11_42 s144_42 s14_42 s15_42 s16_42 s5_42 s7_42 s9_42
                                        refine then_n ?_
                                        refine aw_ret ?_
                                        refine ret1 (.inr rfl) (by kernel_rfl) (resV_tmp s6_59) (.ro _ rfl) ?_
                                        clear s6_59 mo2_41 mo1_41 mo0_41 ml_41
                                        (first | rfl | (have hc0 : ¬ (runW ps b d stop post sq).2 = 0 := (fun h => by have := p3.2 h; simp_all); have h12 : (runW ps b d stop post sq).2 = 12 := (by omega); simp [h12]; done))))
                              · skip
                                first
                                | (cases hq_52; done) | ((first | replace hq_52 := bnt hq_52 | replace hq_52 := bnf hq_52 | replace hq_52 := bt hq_52 | replace hq_52 := bf hq_52 | replace hq_52 := bt' hq_52 | replace hq_52 := bf' hq_52 | skip); exfalso; omega) | (rw [hbe] at hq_52; cases hq_52; done)
                                | ((first | replace hq_52 := bnt hq_52 | replace hq_52 := bnf hq_52 | replace hq_52 := bt hq_52 | replace hq_52 := bf hq_52 | replace hq_52 := bt' hq_52 | replace hq_52 := bf' hq_52 | skip)
                                   refine al_skip' ⟨_, rfl, .inl hb_52⟩ rfl ?_
                                   refine al_skip' ⟨_, rfl, .inl (up_m rfl hb_52)⟩ rfl ?_
                                   refine al_skip' ⟨_, rfl, .inl (u2 rfl hb_52)⟩ rfl ?_
                                   refine al_skip' ⟨_, rfl, .inl (up_m rfl (u2 rfl hb_52))⟩ rfl ?_
                                   refine al_ro' (ro_pickF (u4 rfl hb_52) ev_c) trivial rfl ?_
                                   refine al_ro' (ro_move up_h) trivial rfl ?_
                                   refine al_skip' ⟨_, rfl, .inl up_h⟩ rfl ?_
                                   refine al_skip' ⟨_, rfl, .inl (up_m rfl up_h)⟩ rfl ?_
                                   refine al_skip' ⟨_, rfl, .inr up_h⟩ rfl ?_
                                   refine al_skip' ⟨_, rfl, .inr (up_m rfl up_h)⟩ rfl ?_
                                   refine al_skip' ⟨_, rfl, .inl (u4 rfl up_h)⟩ rfl ?_
                                   refine al_skip' ⟨_, rfl, .inl (up_m rfl (u4 rfl up_h))⟩ rfl ?_
                                   refine al_skip' ⟨_, rfl, .inr up_h⟩ rfl ?_
                                   refine al_skip' ⟨_, rfl, .inr (up_m rfl up_h)⟩ rfl ?_
                                   refine al_skip' ⟨_, rfl, .inl (u8 rfl up_h)⟩ rfl ?_
                                   refine al_ro' (ro_pickF (up_m rfl (u8 rfl up_h)) ev_c) trivial rfl ?_
                                   refine al_ro' (ro_assign up_h) trivial rfl ?_
                                   refine al_end (fun e_60 he_60 => ?_)
                                   have s6_60 := ef 6 he_60 up_h
                                   clear he_60 hb_52 s11_42 s144_42 s14_42 s15_42 s16_42 s5_42 s7_42 s9_42
                                   refine then_n ?_
                                   refine aw_ret ?_
                                   refine ret1 (.inr rfl) (by kernel_rfl) (resV_tmp s6_60) (.ro _ rfl) ?_
                                   clear s6_60 mo2_41 mo1_41 mo0_41 ml_41
                                   (first | rfl | (have hc0 : ¬ (runW ps b d stop post sq).2 = 0 := (fun h => by have := p3.2 h; simp_all); have h12 : (runW ps b d stop post sq).2 = 12 := (by omega); simp [h12]; done)))))))
end Go.Proofs.Ytelgkjekpcfffaa
