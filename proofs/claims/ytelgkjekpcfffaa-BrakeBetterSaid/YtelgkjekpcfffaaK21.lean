/- The law of chapter 5 on better brakes. No conditions on a program. -/
import Derived.Test.YtelgkjekpcfffaaK19
namespace Go.Proofs.Ytelgkjekpcfffaa
open Go Go.RowKit Go.Proofs
set_option linter.unusedSimpArgs false
set_option linter.unusedVariables false
theorem k21_az26 : (Try.prog.info? 26).bind (·.zero) = some (.agg #[.int .i64 0, .int .i64 0, .int .i64 0]) := by kernel_rfl
theorem k21_fl26_0 : FldIs Try.prog 26 0 0 false 1 := by unfold FldIs; kernel_rfl
theorem k21_fl26_1 : FldIs Try.prog 26 1 1 false 1 := by unfold FldIs; kernel_rfl
theorem k21_fl42_0 : FldIs Try.prog 42 0 0 false 1 := by unfold FldIs; kernel_rfl
theorem k21_fl44_0 : FldIs Try.prog 44 0 0 true 2 := by unfold FldIs; kernel_rfl
theorem k21_fl44_1 : FldIs Try.prog 44 1 2 false 1 := by unfold FldIs; kernel_rfl
theorem k21_hcf15 : ∀ args w, (callFunc 15 args).run Try.prog w = .ok (.enter 15 args) w := fun _ _ => by kernel_rfl
theorem k21_hcf16 : ∀ args w, (callFunc 16 args).run Try.prog w = .ok (.enter 16 args) w := fun _ _ => by kernel_rfl
theorem k21_hcf18 : ∀ args w, (callFunc 18 args).run Try.prog w = .ok (.enter 18 args) w := fun _ _ => by kernel_rfl
theorem k21_hcf19 : ∀ args w, (callFunc 19 args).run Try.prog w = .ok (.enter 19 args) w := fun _ _ => by kernel_rfl
theorem k21_hcf23 : ∀ args w, (callFunc 23 args).run Try.prog w = .ok (.enter 23 args) w := fun _ _ => by kernel_rfl
theorem k21_hcf25 : ∀ args w, (callFunc 25 args).run Try.prog w = .ok (.enter 25 args) w := fun _ _ => by kernel_rfl
theorem k21_hcf26 : ∀ args w, (callFunc 26 args).run Try.prog w = .ok (.enter 26 args) w := fun _ _ => by kernel_rfl
theorem k21_hcf28 : ∀ args w, (callFunc 28 args).run Try.prog w = .ok (.enter 28 args) w := fun _ _ => by kernel_rfl
theorem k21_hcf29 : ∀ args w, (callFunc 29 args).run Try.prog w = .ok (.enter 29 args) w := fun _ _ => by kernel_rfl
theorem k21_sl30 : SlIs Try.prog 30 3 1 8 (.int .i64 0) := ⟨by kernel_rfl, by kernel_rfl, by kernel_rfl⟩
theorem k21_sz26 : (Try.prog.info? 26).map (·.size) = some 3 := by kernel_rfl
theorem k21_sz3 : (Try.prog.info? 3).map (·.size) = some 1 := by kernel_rfl
theorem k21_ty24 : TyIs Try.prog 24 true 2 := ⟨by kernel_rfl, by kernel_rfl⟩
theorem k21_ty26 : TyIs Try.prog 26 true 3 := ⟨by kernel_rfl, by kernel_rfl⟩
theorem k21_ty3 : TyIs Try.prog 3 false 1 := ⟨by kernel_rfl, by kernel_rfl⟩
theorem k21_ty42 : TyIs Try.prog 42 true 2 := ⟨by kernel_rfl, by kernel_rfl⟩

theorem los_mono {x y : Int} {p : Piece} (h : x ≤ y) (hl : 0 ≤ p.len) : losW x p ≤ losW y p := by
  unfold losW
  exact Int.mul_le_mul_of_nonneg_right (by omega) hl
theorem bw_mono {ps : List Piece} (h : Ok ps) {b b' sq : Int} (hb : b ≤ b') (hs : -1 ≤ sq ∧ sq ≤ 20000000000) (post : Nat) : ∀ k, bwD ps b sq post k ≤ bwD ps b' sq post k
  | 0 => Int.le_refl _
  | k + 1 => by
    have ih := bw_mono h hb hs post k
    have h1 := bwD_bound h (b := b) (post := post) hs k
    have h2 := bwD_bound h (b := b') (post := post) hs (k + 1)
    have h3 := los_mono (p := ps.getD (post - k - 1) default) hb (h.at _).1.1
    by_cases hc : bwD ps b sq post k = -1
    · have : bwD ps b sq post (k + 1) = -1 := by simp only [bwD]; rw [if_pos hc]
      omega
    · simp only [bwD]
      rw [if_neg hc, if_neg (by omega)]
      omega
theorem cu_mono {ps : List Piece} (h : Ok ps) {b b' stop : Int} (hb : b ≤ b') {j : Nat} (hj : j ≤ (stop + 1).toNat) : cuA ps b stop j ≤ cuA ps b' stop j := by
  unfold cuA
  rw [bwL_at ps b 0 hj, bwL_at ps b' 0 hj]
  exact bw_mono h hb (by omega) _ _
theorem le_mono {ps : List Piece} (h : Ok ps) {d d' : Int} (hd : d ≤ d') (stop : Nat) : ∀ k, leD ps d stop k ≤ leD ps d' stop k
  | 0 => Int.le_refl _
  | k + 1 => by
    have ih := le_mono h hd stop k
    have h3 := los_mono (p := ps.getD (stop - k - 1) default) hd (h.at _).1.1
    simp only [leD]
    omega
theorem lea_mono {ps : List Piece} (h : Ok ps) {d d' stop : Int} (hd : d ≤ d') {j : Nat} (hj : j ≤ stop.toNat) : leA ps d stop j ≤ leA ps d' stop j := by
  unfold leA
  rw [leL_at ps d hj, leL_at ps d' hj]
  exact le_mono h hd _ _
theorem better_reaches {ps : List Piece} (h : Ok ps) {b b' d stop post sq : Int} (hb : b ≤ b') (h0 : 0 ≤ post) (h1 : post ≤ stop) (hsq : 0 ≤ sq) (hr : (runW ps b d stop post sq).2 = 0) : (runW ps b' d stop post sq).2 = 0 := by
  rw [two_ways h0 h1 hsq] at hr ⊢
  obtain ⟨⟨h2, h3⟩, h4⟩ := hr
  refine ⟨⟨h2, Int.le_trans h3 (cu_mono h hb (by omega))⟩, fun j j1 j2 => ?_⟩
  have h5 := h4 j j1 j2
  have h6 := cu_mono h hb (stop := stop) (j := j) (by omega)
  have h7 : -1 ≤ cuA ps b stop j := (bwL_bound h (b := b) (sq := 0) (by omega) (stop + 1).toNat j).1
  omega
theorem sysE_zero {b d v : Int} (h : sysR b d v) : sysE b d v = 0 := by
  obtain ⟨h1, h2, h3, h4⟩ := h
  have e1 : sysRight b d v = true := by simp only [sysRight, withinB, Bool.and_eq_true, decide_eq_true_eq]; omega
  have e2 : decide (d ≤ b) = true := by simpa using h4
  unfold sysE
  rw [e1, e2]; rfl
theorem curE_other {nm : ByteArray} {ps : List Piece} {b d v b' d' v' stop : Int} (h : curE nm ps b d v stop = 0) (h' : sysR b' d' v') : curE nm ps b' d' v' stop = 0 := by
  have e : ∀ b d v, curE nm ps b d v stop = firstE [firstE [(chk nm ps).2, sysE b d v], stopE ps stop] := fun _ _ _ => rfl
  rw [e] at h ⊢
  obtain ⟨h1, h2⟩ := firstE_cons h
  obtain ⟨h3, h4⟩ := firstE_cons h1
  rw [h3, sysE_zero h', show firstE [(0 : Int), 0] = 0 from rfl]
  have := (firstE_cons h2).1
  rw [this]; rfl
theorem runE_other {nm : ByteArray} {ps : List Piece} {b d v b' d' v' post sq stop : Int} (h : runE nm ps b d v post sq stop = 0) (h' : sysR b' d' v') : runE nm ps b' d' v' post sq stop = 0 := by
  have e : ∀ b d v, runE nm ps b d v post sq stop = firstE [firstE [(chk nm ps).2, sysE b d v], stateE ps post sq, stopE ps stop, unlessE (decide (post ≤ stop)) 9] := fun _ _ _ => rfl
  rw [e] at h ⊢
  obtain ⟨h1, h2⟩ := firstE_cons h
  obtain ⟨h3, h4⟩ := firstE_cons h1
  obtain ⟨h5, h6⟩ := firstE_cons h2
  obtain ⟨h7, h8⟩ := firstE_cons h6
  rw [h3, sysE_zero h', show firstE [(0 : Int), 0] = 0 from rfl, h5, h7, (firstE_cons h8).1]; rfl
set_option maxRecDepth 100000 in
set_option maxHeartbeats 4000000 in
theorem brakeBetter_ok (nm : ByteArray) (ps : List Piece) (b d v : Int) (post sq stop : Int) : FnOk Try.prog 8 [trA nm ps, syA b d v, .agg [iA post, iA sq, iA stop]] (fun q => q = bA true) := by
  refine fnOk_of (fn := Try.f8) 199 (by kernel_rfl) rfl (by kernel_rfl) (Nat.le_of_ble_eq_true rfl) ?_
  intro e_0 m_0 hA hm_0
  have s0_0 : evA e_0 (.tmp 0) = _ := hA 0 _ rfl
  have s1_0 : evA e_0 (.tmp 1) = _ := hA 1 _ rfl
  have s2_0 : evA e_0 (.tmp 2) = _ := hA 2 _ rfl
  have ml_0 : m_0.length = 0 := by rw [hm_0]; rfl
  clear hA hm_0
  (have hbr : ∀ b', b ≤ b' → trackR ps → 0 ≤ post → post ≤ stop → 0 ≤ sq → (runW ps b d stop post sq).2 = 0 → (runW ps b' d stop post sq).2 = 0 := fun b' h1 h2 h3 h4 h5 h6 => better_reaches h2.1 h1 h3 h4 h5 h6)
  refine aw_seq ?_
  refine aw_text ?_
  refine al_stm (st_box s0_0 rfl ml_0) trivial rfl (fun m_1 hm_1 => ?_)
  have mo0_1 := m_push hm_1 ml_0
  (try simp only [packA_t, packA_f, iE, bE, setAt, cellsA, Value.cells, map_vc, map_vn, Nat.reduceAdd, qS] at mo0_1)
  have ml_1 := m_push_l hm_1 ml_0
  have ml_1 : _ = 1 := ml_1
  clear hm_1
  refine al_stm (st_box (up_m rfl s1_0) rfl ml_1) trivial rfl (fun m_2 hm_2 => ?_)
  have mo1_2 := m_push hm_2 ml_1
  (try simp only [packA_t, packA_f, iE, bE, setAt, cellsA, Value.cells, map_vc, map_vn, Nat.reduceAdd, qS] at mo1_2)
  have mo0_2 := m_push_o hm_2 mo0_1
  have ml_2 := m_push_l hm_2 ml_1
  have ml_2 : _ = 2 := ml_2
  clear hm_2 mo0_1
  refine al_stm (st_box (u2 rfl s2_0) rfl ml_2) trivial rfl (fun m_3 hm_3 => ?_)
  have mo2_3 := m_push hm_3 ml_2
  (try simp only [packA_t, packA_f, iE, bE, setAt, cellsA, Value.cells, map_vc, map_vn, Nat.reduceAdd, qS] at mo2_3)
  have mo1_3 := m_push_o hm_3 mo1_2
  have mo0_3 := m_push_o hm_3 mo0_2
  have ml_3 := m_push_l hm_3 ml_2
  have ml_3 : _ = 3 := ml_3
  clear hm_3 mo1_2 mo0_2
  refine al_ro' (ro_assign ev_c) trivial rfl ?_
  refine al_end (fun e_4 he_4 => ?_)
  have s3_4 := ef 3 he_4 (up_m rfl (u2 rfl up_h))
  have s4_4 := ef 4 he_4 (u2 rfl up_h)
  have s5_4 := ef 5 he_4 (up_m rfl up_h)
  clear he_4 s0_0 s1_0 s2_0
  refine then_n ?_
  refine aw_seq ?_
  refine aw_seq ?_
  refine aw_text ?_
  refine al_ro' (ro_call evL_nil rfl (awake_ok) k21_hcf15) trivial rfl ?_
  refine al_ro' (ro_not up_h) trivial rfl ?_
  refine al_end (fun e_5 he_5 => ?_)
  have s3_5 := ef 3 he_5 (u2 rfl s3_4)
  have s4_5 := ef 4 he_5 (u2 rfl s4_4)
  have s5_5 := ef 5 he_5 (u2 rfl s5_4)
  have s24_5 := ef 24 he_5 up_h
  clear he_5 s3_4 s4_4 s5_4
  refine then_n ?_
  refine aw_case s24_5 (fun hq_6 => ?_) (fun hq_6 => ?_)
  · skip
    first
    | (cases hq_6; done) | ((first | replace hq_6 := bnt hq_6 | replace hq_6 := bnf hq_6 | replace hq_6 := bt hq_6 | replace hq_6 := bf hq_6 | replace hq_6 := bt' hq_6 | replace hq_6 := bf' hq_6 | skip); exfalso; omega) | (simp [hcl, hcl2, hl2, hl3] at hq_6; done)
    | ((first | replace hq_6 := bnt hq_6 | replace hq_6 := bnf hq_6 | replace hq_6 := bt hq_6 | replace hq_6 := bf hq_6 | replace hq_6 := bt' hq_6 | replace hq_6 := bf' hq_6 | skip)
       refine aw_seq ?_
       refine aw_text ?_
       refine al_ro' (ro_assign ev_c) trivial rfl ?_
       refine al_end (fun e_7 he_7 => ?_)
       have s6_7 := ef 6 he_7 up_h
       clear he_7 s24_5 s3_5 s4_5 s5_5
       refine then_n ?_
       refine aw_ret ?_
       refine then_r ?_
       refine ret1 (.inr rfl) (by kernel_rfl) (resV_tmp s6_7) (.ro _ rfl) ?_
       clear s6_7 mo2_3 mo1_3 mo0_3 ml_3
       (first | rfl | (exfalso; omega) | (simp; done) | (have hz := hbr (min 3000 (b + 100)) (by omega) hr.1 hr3.1 hle hr4.1; clear hbr; simp_all; done)))
  · skip
    first
    | (cases hq_6; done) | ((first | replace hq_6 := bnt hq_6 | replace hq_6 := bnf hq_6 | replace hq_6 := bt hq_6 | replace hq_6 := bf hq_6 | replace hq_6 := bt' hq_6 | replace hq_6 := bf' hq_6 | skip); exfalso; omega) | (simp [hcl, hcl2, hl2, hl3] at hq_6; done)
    | ((first | replace hq_6 := bnt hq_6 | replace hq_6 := bnf hq_6 | replace hq_6 := bt hq_6 | replace hq_6 := bf hq_6 | replace hq_6 := bt' hq_6 | replace hq_6 := bf' hq_6 | skip)
       refine aw_skip ?_
       refine then_n ?_
       refine aw_seq ?_
       refine aw_seq ?_
       refine aw_cut (fun e mem => (evA e (.tmp 55) = .v (.bool (decide (¬ (nm.size ≤ 30 ∧ ps.length ≤ 14) ∨ firstE [(chk nm ps).2, sysE b d v] ≠ 0 ∨ stateE ps post sq ≠ 0 ∨ stopE ps stop ≠ 0 ∨ stop < post)))) ∧ (evA e (.tmp 3) = evA e_5 (.tmp 3)) ∧ (evA e (.tmp 4) = evA e_5 (.tmp 4)) ∧ (evA e (.tmp 5) = evA e_5 (.tmp 5)) ∧ m_3 = mem) ?_ ?_
       ·
         refine aw_text ?_
         refine al_ro' (ro_eq (ro_ld_ptr k21_ty24 rfl mo0_3 s3_5 (by first | exact Nat.le_of_ble_eq_true rfl | omega | (simp only [lnS] <;> omega) | (simp <;> omega))) (by first | (simp only [packA_t, packA_f, iE, bE, setAt, cellsA, Value.cells, map_vc, map_vn, Nat.reduceAdd, qS] <;> rfl) | rfl)) trivial rfl ?_
         refine al_ro' (ro_call (evL_cons up_h evL_nil) rfl (short_ok nm ps) k21_hcf16) trivial rfl ?_
         refine al_ro' (ro_not up_h) trivial rfl ?_
         refine al_ro' (ro_move up_h) trivial rfl ?_
         refine al_case up_h (fun hb_9 hq_9 => ?_) (fun hb_9 hq_9 => ?_)
         · skip
           first
           | (cases hq_9; done) | ((first | replace hq_9 := bnt hq_9 | replace hq_9 := bnf hq_9 | replace hq_9 := bt hq_9 | replace hq_9 := bf hq_9 | replace hq_9 := bt' hq_9 | replace hq_9 := bf' hq_9 | skip); exfalso; omega) | (simp [hcl, hcl2, hl2, hl3] at hq_9; done)
           | ((first | replace hq_9 := bnt hq_9 | replace hq_9 := bnf hq_9 | replace hq_9 := bt hq_9 | replace hq_9 := bf hq_9 | replace hq_9 := bt' hq_9 | replace hq_9 := bf' hq_9 | skip)
              refine al_skip' ⟨_, rfl, .inl hb_9⟩ rfl ?_
              refine al_skip' ⟨_, rfl, .inl (up_m rfl hb_9)⟩ rfl ?_
              refine al_skip' ⟨_, rfl, .inl (u2 rfl hb_9)⟩ rfl ?_
              refine al_skip' ⟨_, rfl, .inl (up_m rfl (u2 rfl hb_9))⟩ rfl ?_
              refine al_ro' (ro_pickT (u4 rfl hb_9) ev_c) trivial rfl ?_
              refine al_ro' (ro_move up_h) trivial rfl ?_
              refine al_skip' ⟨_, rfl, .inl up_h⟩ rfl ?_
              refine al_skip' ⟨_, rfl, .inl (up_m rfl up_h)⟩ rfl ?_
              refine al_skip' ⟨_, rfl, .inl (u2 rfl up_h)⟩ rfl ?_
              refine al_skip' ⟨_, rfl, .inl (up_m rfl (u2 rfl up_h))⟩ rfl ?_
              refine al_skip' ⟨_, rfl, .inl (u4 rfl up_h)⟩ rfl ?_
              refine al_ro' (ro_pickT (up_m rfl (u4 rfl up_h)) ev_c) trivial rfl ?_
              refine al_ro' (ro_move up_h) trivial rfl ?_
              refine al_skip' ⟨_, rfl, .inl up_h⟩ rfl ?_
              refine al_skip' ⟨_, rfl, .inl (up_m rfl up_h)⟩ rfl ?_
              refine al_skip' ⟨_, rfl, .inl (u2 rfl up_h)⟩ rfl ?_
              refine al_skip' ⟨_, rfl, .inl (up_m rfl (u2 rfl up_h))⟩ rfl ?_
              refine al_skip' ⟨_, rfl, .inl (u4 rfl up_h)⟩ rfl ?_
              refine al_ro' (ro_pickT (up_m rfl (u4 rfl up_h)) ev_c) trivial rfl ?_
              refine al_ro' (ro_move up_h) trivial rfl ?_
              refine al_skip' ⟨_, rfl, .inl up_h⟩ rfl ?_
              refine al_skip' ⟨_, rfl, .inl (up_m rfl up_h)⟩ rfl ?_
              refine al_skip' ⟨_, rfl, .inl (u2 rfl up_h)⟩ rfl ?_
              refine al_skip' ⟨_, rfl, .inl (up_m rfl (u2 rfl up_h))⟩ rfl ?_
              refine al_skip' ⟨_, rfl, .inl (u4 rfl up_h)⟩ rfl ?_
              refine al_skip' ⟨_, rfl, .inl (up_m rfl (u4 rfl up_h))⟩ rfl ?_
              refine al_ro' (ro_pickT (u2 rfl (u4 rfl up_h)) ev_c) trivial rfl ?_
              refine al_end (fun e_10 he_10 => ?_)
              have s3_10 := ef 3 he_10 (up_m rfl (u2 rfl (u4 rfl (u8 rfl (u16 rfl s3_5)))))
              have s4_10 := ef 4 he_10 (up_m rfl (u2 rfl (u4 rfl (u8 rfl (u16 rfl s4_5)))))
              have s5_10 := ef 5 he_10 (up_m rfl (u2 rfl (u4 rfl (u8 rfl (u16 rfl s5_5)))))
              have s55_10 := ef 55 he_10 up_h
              clear he_10
              refine then_n ⟨(s55_10).trans (by (refine avb ?_; simp only [decide_eq_true_eq, Bool.false_eq_true, true_iff, false_iff]; omega)), (s3_10).trans (s3_5).symm, (s4_10).trans (s4_5).symm, (s5_10).trans (s5_5).symm, rfl⟩)
         · skip
           first
           | (cases hq_9; done) | ((first | replace hq_9 := bnt hq_9 | replace hq_9 := bnf hq_9 | replace hq_9 := bt hq_9 | replace hq_9 := bf hq_9 | replace hq_9 := bt' hq_9 | replace hq_9 := bf' hq_9 | skip); exfalso; omega) | (simp [hcl, hcl2, hl2, hl3] at hq_9; done)
           | ((first | replace hq_9 := bnt hq_9 | replace hq_9 := bnf hq_9 | replace hq_9 := bt hq_9 | replace hq_9 := bf hq_9 | replace hq_9 := bt' hq_9 | replace hq_9 := bf' hq_9 | skip)
              refine al_ro' (ro_eq (ro_ld_ptr k21_ty24 rfl mo0_3 (u4 rfl s3_5) (by first | exact Nat.le_of_ble_eq_true rfl | omega | (simp only [lnS] <;> omega) | (simp <;> omega))) (by first | (simp only [packA_t, packA_f, iE, bE, setAt, cellsA, Value.cells, map_vc, map_vn, Nat.reduceAdd, qS] <;> rfl) | rfl)) ⟨_, rfl, hb_9⟩ rfl ?_
              refine al_ro' (ro_eq (ro_ld_ptr k21_ty26 rfl mo1_3 (up_m rfl (u4 rfl s4_5)) (by first | exact Nat.le_of_ble_eq_true rfl | omega | (simp only [lnS] <;> omega) | (simp <;> omega))) (by first | (simp only [packA_t, packA_f, iE, bE, setAt, cellsA, Value.cells, map_vc, map_vn, Nat.reduceAdd, qS] <;> rfl) | rfl)) ⟨_, rfl, (up_m rfl hb_9)⟩ rfl ?_
              refine al_ro' (ro_call (evL_cons (up_m rfl up_h) (evL_cons up_h evL_nil)) rfl (rBothErr_ok nm ps (by omega) (by omega) b d v) k21_hcf19) ⟨_, rfl, (u2 rfl hb_9)⟩ rfl ?_
              refine al_ro' (ro_neq up_h ev_c) ⟨_, rfl, (up_m rfl (u2 rfl hb_9))⟩ rfl ?_
              refine al_ro' (ro_pickF (u4 rfl hb_9) up_h) trivial rfl ?_
              refine al_ro' (ro_move up_h) trivial rfl ?_
              refine al_case up_h (fun hb_11 hq_11 => ?_) (fun hb_11 hq_11 => ?_)
              · skip
                first
                | (cases hq_11; done) | ((first | replace hq_11 := bnt hq_11 | replace hq_11 := bnf hq_11 | replace hq_11 := bt hq_11 | replace hq_11 := bf hq_11 | replace hq_11 := bt' hq_11 | replace hq_11 := bf' hq_11 | skip); exfalso; omega) | (simp [hcl, hcl2, hl2, hl3] at hq_11; done)
                | ((first | replace hq_11 := bnt hq_11 | replace hq_11 := bnf hq_11 | replace hq_11 := bt hq_11 | replace hq_11 := bf hq_11 | replace hq_11 := bt' hq_11 | replace hq_11 := bf' hq_11 | skip)
                   refine al_skip' ⟨_, rfl, .inl hb_11⟩ rfl ?_
                   refine al_skip' ⟨_, rfl, .inl (up_m rfl hb_11)⟩ rfl ?_
                   refine al_skip' ⟨_, rfl, .inl (u2 rfl hb_11)⟩ rfl ?_
                   refine al_skip' ⟨_, rfl, .inl (up_m rfl (u2 rfl hb_11))⟩ rfl ?_
                   refine al_skip' ⟨_, rfl, .inl (u4 rfl hb_11)⟩ rfl ?_
                   refine al_ro' (ro_pickT (up_m rfl (u4 rfl hb_11)) ev_c) trivial rfl ?_
                   refine al_ro' (ro_move up_h) trivial rfl ?_
                   refine al_skip' ⟨_, rfl, .inl up_h⟩ rfl ?_
                   refine al_skip' ⟨_, rfl, .inl (up_m rfl up_h)⟩ rfl ?_
                   refine al_skip' ⟨_, rfl, .inl (u2 rfl up_h)⟩ rfl ?_
                   refine al_skip' ⟨_, rfl, .inl (up_m rfl (u2 rfl up_h))⟩ rfl ?_
                   refine al_skip' ⟨_, rfl, .inl (u4 rfl up_h)⟩ rfl ?_
                   refine al_ro' (ro_pickT (up_m rfl (u4 rfl up_h)) ev_c) trivial rfl ?_
                   refine al_ro' (ro_move up_h) trivial rfl ?_
                   refine al_skip' ⟨_, rfl, .inl up_h⟩ rfl ?_
                   refine al_skip' ⟨_, rfl, .inl (up_m rfl up_h)⟩ rfl ?_
                   refine al_skip' ⟨_, rfl, .inl (u2 rfl up_h)⟩ rfl ?_
                   refine al_skip' ⟨_, rfl, .inl (up_m rfl (u2 rfl up_h))⟩ rfl ?_
                   refine al_skip' ⟨_, rfl, .inl (u4 rfl up_h)⟩ rfl ?_
                   refine al_skip' ⟨_, rfl, .inl (up_m rfl (u4 rfl up_h))⟩ rfl ?_
                   refine al_ro' (ro_pickT (u2 rfl (u4 rfl up_h)) ev_c) trivial rfl ?_
                   refine al_end (fun e_12 he_12 => ?_)
                   have s3_12 := ef 3 he_12 (up_m rfl (u2 rfl (u4 rfl (u8 rfl (u16 rfl s3_5)))))
                   have s4_12 := ef 4 he_12 (up_m rfl (u2 rfl (u4 rfl (u8 rfl (u16 rfl s4_5)))))
                   have s5_12 := ef 5 he_12 (up_m rfl (u2 rfl (u4 rfl (u8 rfl (u16 rfl s5_5)))))
                   have s55_12 := ef 55 he_12 up_h
                   clear he_12
                   refine then_n ⟨(s55_12).trans (by (refine avb ?_; simp only [decide_eq_true_eq, Bool.false_eq_true, true_iff, false_iff]; omega)), (s3_12).trans (s3_5).symm, (s4_12).trans (s4_5).symm, (s5_12).trans (s5_5).symm, rfl⟩)
              · skip
                first
                | (cases hq_11; done) | ((first | replace hq_11 := bnt hq_11 | replace hq_11 := bnf hq_11 | replace hq_11 := bt hq_11 | replace hq_11 := bf hq_11 | replace hq_11 := bt' hq_11 | replace hq_11 := bf' hq_11 | skip); exfalso; omega) | (simp [hcl, hcl2, hl2, hl3] at hq_11; done)
                | ((first | replace hq_11 := bnt hq_11 | replace hq_11 := bnf hq_11 | replace hq_11 := bt hq_11 | replace hq_11 := bf hq_11 | replace hq_11 := bt' hq_11 | replace hq_11 := bf' hq_11 | skip)
                   refine al_ro' (ro_eq (ro_ld_ptr k21_ty24 rfl mo0_3 (u2 rfl (u8 rfl s3_5)) (by first | exact Nat.le_of_ble_eq_true rfl | omega | (simp only [lnS] <;> omega) | (simp <;> omega))) (by first | (simp only [packA_t, packA_f, iE, bE, setAt, cellsA, Value.cells, map_vc, map_vn, Nat.reduceAdd, qS] <;> rfl) | rfl)) ⟨_, rfl, hb_11⟩ rfl ?_
                   refine al_ro' (ro_fld_ptr k21_fl44_0 rfl (up_m rfl (u2 rfl (u8 rfl s5_5)))) ⟨_, rfl, (up_m rfl hb_11)⟩ rfl ?_
                   refine al_ro' (ro_eq (ro_ld_ptr k21_ty42 rfl mo2_3 up_h (by first | exact Nat.le_of_ble_eq_true rfl | omega | (simp only [lnS] <;> omega) | (simp <;> omega))) (by first | (simp only [packA_t, packA_f, iE, bE, setAt, cellsA, Value.cells, map_vc, map_vn, Nat.reduceAdd, qS] <;> rfl) | rfl)) ⟨_, rfl, (u2 rfl hb_11)⟩ rfl ?_
                   refine al_ro' (ro_call (evL_cons (u2 rfl up_h) (evL_cons up_h evL_nil)) rfl (rStateErr_ok nm ps post sq) k21_hcf25) ⟨_, rfl, (up_m rfl (u2 rfl hb_11))⟩ rfl ?_
                   refine al_ro' (ro_neq up_h ev_c) ⟨_, rfl, (u4 rfl hb_11)⟩ rfl ?_
                   refine al_ro' (ro_pickF (up_m rfl (u4 rfl hb_11)) up_h) trivial rfl ?_
                   refine al_ro' (ro_move up_h) trivial rfl ?_
                   refine al_case up_h (fun hb_13 hq_13 => ?_) (fun hb_13 hq_13 => ?_)
                   · skip
                     first
                     | (cases hq_13; done) | ((first | replace hq_13 := bnt hq_13 | replace hq_13 := bnf hq_13 | replace hq_13 := bt hq_13 | replace hq_13 := bf hq_13 | replace hq_13 := bt' hq_13 | replace hq_13 := bf' hq_13 | skip); exfalso; omega) | (simp [hcl, hcl2, hl2, hl3] at hq_13; done)
                     | ((first | replace hq_13 := bnt hq_13 | replace hq_13 := bnf hq_13 | replace hq_13 := bt hq_13 | replace hq_13 := bf hq_13 | replace hq_13 := bt' hq_13 | replace hq_13 := bf' hq_13 | skip)
                        refine al_skip' ⟨_, rfl, .inl hb_13⟩ rfl ?_
                        refine al_skip' ⟨_, rfl, .inl (up_m rfl hb_13)⟩ rfl ?_
                        refine al_skip' ⟨_, rfl, .inl (u2 rfl hb_13)⟩ rfl ?_
                        refine al_skip' ⟨_, rfl, .inl (up_m rfl (u2 rfl hb_13))⟩ rfl ?_
                        refine al_skip' ⟨_, rfl, .inl (u4 rfl hb_13)⟩ rfl ?_
                        refine al_ro' (ro_pickT (up_m rfl (u4 rfl hb_13)) ev_c) trivial rfl ?_
                        refine al_ro' (ro_move up_h) trivial rfl ?_
                        refine al_skip' ⟨_, rfl, .inl up_h⟩ rfl ?_
                        refine al_skip' ⟨_, rfl, .inl (up_m rfl up_h)⟩ rfl ?_
                        refine al_skip' ⟨_, rfl, .inl (u2 rfl up_h)⟩ rfl ?_
                        refine al_skip' ⟨_, rfl, .inl (up_m rfl (u2 rfl up_h))⟩ rfl ?_
                        refine al_skip' ⟨_, rfl, .inl (u4 rfl up_h)⟩ rfl ?_
                        refine al_skip' ⟨_, rfl, .inl (up_m rfl (u4 rfl up_h))⟩ rfl ?_
                        refine al_ro' (ro_pickT (u2 rfl (u4 rfl up_h)) ev_c) trivial rfl ?_
                        refine al_end (fun e_14 he_14 => ?_)
                        have s3_14 := ef 3 he_14 (up_m rfl (u2 rfl (u4 rfl (u8 rfl (u16 rfl s3_5)))))
                        have s4_14 := ef 4 he_14 (up_m rfl (u2 rfl (u4 rfl (u8 rfl (u16 rfl s4_5)))))
                        have s5_14 := ef 5 he_14 (up_m rfl (u2 rfl (u4 rfl (u8 rfl (u16 rfl s5_5)))))
                        have s55_14 := ef 55 he_14 up_h
                        clear he_14
                        refine then_n ⟨(s55_14).trans (by (refine avb ?_; simp only [decide_eq_true_eq, Bool.false_eq_true, true_iff, false_iff]; omega)), (s3_14).trans (s3_5).symm, (s4_14).trans (s4_5).symm, (s5_14).trans (s5_5).symm, rfl⟩)
                   · skip
                     first
                     | (cases hq_13; done) | ((first | replace hq_13 := bnt hq_13 | replace hq_13 := bnf hq_13 | replace hq_13 := bt hq_13 | replace hq_13 := bf hq_13 | replace hq_13 := bt' hq_13 | replace hq_13 := bf' hq_13 | skip); exfalso; omega) | (simp [hcl, hcl2, hl2, hl3] at hq_13; done)
                     | ((first | replace hq_13 := bnt hq_13 | replace hq_13 := bnf hq_13 | replace hq_13 := bt hq_13 | replace hq_13 := bf hq_13 | replace hq_13 := bt' hq_13 | replace hq_13 := bf' hq_13 | skip)
                        refine al_ro' (ro_eq (ro_ld_ptr k21_ty24 rfl mo0_3 (up_m rfl (u16 rfl s3_5)) (by first | exact Nat.le_of_ble_eq_true rfl | omega | (simp only [lnS] <;> omega) | (simp <;> omega))) (by first | (simp only [packA_t, packA_f, iE, bE, setAt, cellsA, Value.cells, map_vc, map_vn, Nat.reduceAdd, qS] <;> rfl) | rfl)) ⟨_, rfl, hb_13⟩ rfl ?_
                        refine al_ro' (ro_fld_ptr k21_fl44_1 rfl (u2 rfl (u16 rfl s5_5))) ⟨_, rfl, (up_m rfl hb_13)⟩ rfl ?_
                        refine al_ro' (ro_eq (ro_ld_ptr k21_ty3 rfl mo2_3 up_h (by first | exact Nat.le_of_ble_eq_true rfl | omega | (simp only [lnS] <;> omega) | (simp <;> omega))) (by first | (simp only [packA_t, packA_f, iE, bE, setAt, cellsA, Value.cells, map_vc, map_vn, Nat.reduceAdd, qS] <;> rfl) | rfl)) ⟨_, rfl, (u2 rfl hb_13)⟩ rfl ?_
                        refine al_ro' (ro_call (evL_cons (u2 rfl up_h) (evL_cons up_h evL_nil)) rfl (rStopErr_ok nm ps (by omega) stop) k21_hcf26) ⟨_, rfl, (up_m rfl (u2 rfl hb_13))⟩ rfl ?_
                        refine al_ro' (ro_neq up_h ev_c) ⟨_, rfl, (u4 rfl hb_13)⟩ rfl ?_
                        refine al_ro' (ro_pickF (up_m rfl (u4 rfl hb_13)) up_h) trivial rfl ?_
                        refine al_ro' (ro_move up_h) trivial rfl ?_
                        refine al_case up_h (fun hb_15 hq_15 => ?_) (fun hb_15 hq_15 => ?_)
                        · skip
                          first
                          | (cases hq_15; done) | ((first | replace hq_15 := bnt hq_15 | replace hq_15 := bnf hq_15 | replace hq_15 := bt hq_15 | replace hq_15 := bf hq_15 | replace hq_15 := bt' hq_15 | replace hq_15 := bf' hq_15 | skip); exfalso; omega) | (simp [hcl, hcl2, hl2, hl3] at hq_15; done)
                          | ((first | replace hq_15 := bnt hq_15 | replace hq_15 := bnf hq_15 | replace hq_15 := bt hq_15 | replace hq_15 := bf hq_15 | replace hq_15 := bt' hq_15 | replace hq_15 := bf' hq_15 | skip)
                             refine al_skip' ⟨_, rfl, .inl hb_15⟩ rfl ?_
                             refine al_skip' ⟨_, rfl, .inl (up_m rfl hb_15)⟩ rfl ?_
                             refine al_skip' ⟨_, rfl, .inl (u2 rfl hb_15)⟩ rfl ?_
                             refine al_skip' ⟨_, rfl, .inl (up_m rfl (u2 rfl hb_15))⟩ rfl ?_
                             refine al_skip' ⟨_, rfl, .inl (u4 rfl hb_15)⟩ rfl ?_
                             refine al_skip' ⟨_, rfl, .inl (up_m rfl (u4 rfl hb_15))⟩ rfl ?_
                             refine al_ro' (ro_pickT (u2 rfl (u4 rfl hb_15)) ev_c) trivial rfl ?_
                             refine al_end (fun e_16 he_16 => ?_)
                             have s3_16 := ef 3 he_16 (up_m rfl (u2 rfl (u4 rfl (u8 rfl (u16 rfl s3_5)))))
                             have s4_16 := ef 4 he_16 (up_m rfl (u2 rfl (u4 rfl (u8 rfl (u16 rfl s4_5)))))
                             have s5_16 := ef 5 he_16 (up_m rfl (u2 rfl (u4 rfl (u8 rfl (u16 rfl s5_5)))))
                             have s55_16 := ef 55 he_16 up_h
                             clear he_16
                             refine then_n ⟨(s55_16).trans (by (refine avb ?_; simp only [decide_eq_true_eq, Bool.false_eq_true, true_iff, false_iff]; omega)), (s3_16).trans (s3_5).symm, (s4_16).trans (s4_5).symm, (s5_16).trans (s5_5).symm, rfl⟩)
                        · skip
                          first
                          | (cases hq_15; done) | ((first | replace hq_15 := bnt hq_15 | replace hq_15 := bnf hq_15 | replace hq_15 := bt hq_15 | replace hq_15 := bf hq_15 | replace hq_15 := bt' hq_15 | replace hq_15 := bf' hq_15 | skip); exfalso; omega) | (simp [hcl, hcl2, hl2, hl3] at hq_15; done)
                          | ((first | replace hq_15 := bnt hq_15 | replace hq_15 := bnf hq_15 | replace hq_15 := bt hq_15 | replace hq_15 := bf hq_15 | replace hq_15 := bt' hq_15 | replace hq_15 := bf' hq_15 | skip)
                             refine al_ro' (ro_fld_ptr k21_fl44_0 rfl (u8 rfl (u16 rfl s5_5))) ⟨_, rfl, hb_15⟩ rfl ?_
                             refine al_ro' (ro_fld_ptr k21_fl42_0 rfl up_h) ⟨_, rfl, (up_m rfl hb_15)⟩ rfl ?_
                             refine al_ro' (ro_eq (ro_ld_ptr k21_ty3 rfl mo2_3 up_h (by first | exact Nat.le_of_ble_eq_true rfl | omega | (simp only [lnS] <;> omega) | (simp <;> omega))) (by first | (simp only [packA_t, packA_f, iE, bE, setAt, cellsA, Value.cells, map_vc, map_vn, Nat.reduceAdd, qS] <;> rfl) | rfl)) ⟨_, rfl, (u2 rfl hb_15)⟩ rfl ?_
                             refine al_ro' (ro_fld_ptr k21_fl44_1 rfl (up_m rfl (u2 rfl (u8 rfl (u16 rfl s5_5))))) ⟨_, rfl, (up_m rfl (u2 rfl hb_15))⟩ rfl ?_
                             refine al_ro' (ro_eq (ro_ld_ptr k21_ty3 rfl mo2_3 up_h (by first | exact Nat.le_of_ble_eq_true rfl | omega | (simp only [lnS] <;> omega) | (simp <;> omega))) (by first | (simp only [packA_t, packA_f, iE, bE, setAt, cellsA, Value.cells, map_vc, map_vn, Nat.reduceAdd, qS] <;> rfl) | rfl)) ⟨_, rfl, (u4 rfl hb_15)⟩ rfl ?_
                             refine al_ro' (ro_gtr (u2 rfl up_h) up_h) ⟨_, rfl, (up_m rfl (u4 rfl hb_15))⟩ rfl ?_
                             refine al_ro' (ro_pickF (u2 rfl (u4 rfl hb_15)) up_h) trivial rfl ?_
                             refine al_end (fun e_17 he_17 => ?_)
                             have s3_17 := ef 3 he_17 (up_m rfl (u2 rfl (u4 rfl (u8 rfl (u16 rfl s3_5)))))
                             have s4_17 := ef 4 he_17 (up_m rfl (u2 rfl (u4 rfl (u8 rfl (u16 rfl s4_5)))))
                             have s5_17 := ef 5 he_17 (up_m rfl (u2 rfl (u4 rfl (u8 rfl (u16 rfl s5_5)))))
                             have s55_17 := ef 55 he_17 up_h
                             clear he_17
                             refine then_n ⟨(s55_17).trans (by (refine avb ?_; simp only [decide_eq_true_eq, Bool.false_eq_true, true_iff, false_iff]; omega)), (s3_17).trans (s3_5).symm, (s4_17).trans (s4_5).symm, (s5_17).trans (s5_5).symm, rfl⟩))))
       · rintro e_8 _ ⟨s55_8, k3_8, k4_8, k5_8, rfl⟩
         have s3_8 := k3_8.trans s3_5
         have s4_8 := k4_8.trans s4_5
         have s5_8 := k5_8.trans s5_5
         refine aw_case s55_8 (fun hq_18 => ?_) (fun hq_18 => ?_)
         · skip
           first
           | (cases hq_18; done) | ((first | replace hq_18 := bnt hq_18 | replace hq_18 := bnf hq_18 | replace hq_18 := bt hq_18 | replace hq_18 := bf hq_18 | replace hq_18 := bt' hq_18 | replace hq_18 := bf' hq_18 | skip); exfalso; omega) | (simp [hcl, hcl2, hl2, hl3] at hq_18; done)
           | ((first | replace hq_18 := bnt hq_18 | replace hq_18 := bnf hq_18 | replace hq_18 := bt hq_18 | replace hq_18 := bf hq_18 | replace hq_18 := bt' hq_18 | replace hq_18 := bf' hq_18 | skip)
              refine aw_seq ?_
              refine aw_text ?_
              refine al_ro' (ro_assign ev_c) trivial rfl ?_
              refine al_end (fun e_19 he_19 => ?_)
              have s6_19 := ef 6 he_19 up_h
              clear he_19 s3_8 s4_8 s55_8 s5_8
              refine then_n ?_
              refine aw_ret ?_
              refine then_r ?_
              refine ret1 (.inr rfl) (by kernel_rfl) (resV_tmp s6_19) (.ro _ rfl) ?_
              clear s6_19 mo2_3 mo1_3 mo0_3 ml_3
              (first | rfl | (exfalso; omega) | (simp; done) | (have hz := hbr (min 3000 (b + 100)) (by omega) hr.1 hr3.1 hle hr4.1; clear hbr; simp_all; done)))
         · skip
           first
           | (cases hq_18; done) | ((first | replace hq_18 := bnt hq_18 | replace hq_18 := bnf hq_18 | replace hq_18 := bt hq_18 | replace hq_18 := bf hq_18 | replace hq_18 := bt' hq_18 | replace hq_18 := bf' hq_18 | skip); exfalso; omega) | (simp [hcl, hcl2, hl2, hl3] at hq_18; done)
           | ((first | replace hq_18 := bnt hq_18 | replace hq_18 := bnf hq_18 | replace hq_18 := bt hq_18 | replace hq_18 := bf hq_18 | replace hq_18 := bt' hq_18 | replace hq_18 := bf' hq_18 | skip)
              (have hsh : nm.size ≤ 30 ∧ ps.length ≤ 14 := (by omega); have hs : nm.size ≤ 1000000000 := (by omega); have hp : ps.length ≤ 1000000000 := (by omega); have hle : post ≤ stop := (by omega); have hR := runE_zero (b := b) (d := d) (v := v) (nm := nm) (ps := ps) (post := post) (sq := sq) (stop := stop) (by omega) (by omega) (by omega) hle; have hr := runE_right hR.1; have hr3 := hr.2.2.1; have hr4 := hr.2.2.2.1; have hr5 := hr.2.2.2.2.1; have hsys := hr.2.1; obtain ⟨y1, y2, y3, y4⟩ := hsys; have hB1 : sysR (min 3000 (b + 100)) d v := ⟨by omega, by omega, by omega, by omega⟩; have hB2 : sysR b (min (min 500 b) (d + 10)) v := ⟨by omega, by omega, by omega, by omega⟩; have hcl := bwL_len ps b 0 (stop + 1).toNat; have hcl2 := bwL_len ps (min 3000 (b + 100)) 0 (stop + 1).toNat; have hl2 := leL_len ps d stop.toNat; have hl3 := leL_len ps (min (min 500 b) (d + 10)) stop.toNat; have hbe : true = true := rfl)
              refine aw_skip ?_
              refine then_n ?_
              refine aw_seq ?_
              refine aw_drawK 5 2 ml_3 (by kernel_rfl) (by kernel_rfl) (by kernel_rfl) (fun m_20 hm_20 => ?_)
              have mo2_20 := m_room_o hm_20 mo2_3
              have mo1_20 := m_room_o hm_20 mo1_3
              have mo0_20 := m_room_o hm_20 mo0_3
              have mo3_20 : m_20[3]? = _ := m_room_g hm_20 ml_3 0 rfl rfl
              have mo4_20 : m_20[4]? = _ := m_room_g hm_20 ml_3 1 rfl rfl
              have ml_20 : _ = 5 := m_room_l hm_20 ml_3
              clear hm_20 mo2_3 mo1_3 mo0_3 ml_3
              refine dh_ld (1) (fun M_ hM_ => (ro_eq (ro_ld_ptr k21_ty26 rfl (agr hM_ mo1_20 (by simp)) s4_8 (by first | exact Nat.le_of_ble_eq_true rfl | omega | (simp only [lnS] <;> omega) | (simp <;> omega))) (by first | (simp only [packA_t, packA_f, iE, bE, setAt, cellsA, Value.cells, map_vc, map_vn, Nat.reduceAdd, qS] <;> rfl) | rfl))) trivial trivial ?_
              refine dh_ld (1) (fun M_ hM_ => (ro_eq (ro_ld_ptr k21_ty26 rfl (agr hM_ mo1_20 (by simp)) (up_m rfl s4_8) (by first | exact Nat.le_of_ble_eq_true rfl | omega | (simp only [lnS] <;> omega) | (simp <;> omega))) (by first | (simp only [packA_t, packA_f, iE, bE, setAt, cellsA, Value.cells, map_vc, map_vn, Nat.reduceAdd, qS] <;> rfl) | rfl))) trivial trivial ?_
              refine dh_nw (3) (fun M_ hM_ => (nw_alloc k21_az26 rfl)) trivial mo3_20 rfl trivial ⟨.inl (by simp <;> omega), ⟨.inl (by simp <;> omega), trivial⟩⟩ (fun m_21 hm_21 => ?_)
              have mo3_21 := m_set hm_21 mo3_20
              (try simp only [packA_t, packA_f, iE, bE, setAt, cellsA, Value.cells, map_vc, map_vn, Nat.reduceAdd, qS] at mo3_21)
              have mo2_21 := m_set_o hm_21 mo2_20 (by decide)
              have mo1_21 := m_set_o hm_21 mo1_20 (by decide)
              have mo0_21 := m_set_o hm_21 mo0_20 (by decide)
              have mo4_21 := m_set_o hm_21 mo4_20 (by decide)
              have ml_21 := m_set_l hm_21 ml_20
              clear hm_21 mo2_20 mo1_20 mo0_20 mo3_20 mo4_20
              refine dh_nw (4) (fun M_ hM_ => (nw_alloc k21_az26 rfl)) trivial mo4_21 rfl ⟨.inl (by simp <;> omega), trivial⟩ ⟨.inl (by simp <;> omega), ⟨.inl (by simp <;> omega), ⟨.inl (by simp <;> omega), trivial⟩⟩⟩ (fun m_22 hm_22 => ?_)
              have mo4_22 := m_set hm_22 mo4_21
              (try simp only [packA_t, packA_f, iE, bE, setAt, cellsA, Value.cells, map_vc, map_vn, Nat.reduceAdd, qS] at mo4_22)
              have mo3_22 := m_set_o hm_22 mo3_21 (by decide)
              have mo2_22 := m_set_o hm_22 mo2_21 (by decide)
              have mo1_22 := m_set_o hm_22 mo1_21 (by decide)
              have mo0_22 := m_set_o hm_22 mo0_21 (by decide)
              have ml_22 := m_set_l hm_22 ml_21
              clear hm_22 mo3_21 mo2_21 mo1_21 mo0_21 mo4_21
              refine dh_set (3) (fun M_ hM_ => (se_store (up_m rfl up_h) (up_m rfl (u2 rfl up_h)) rfl rfl (agr hM_ mo3_22 (by simp)) k21_sz26 rfl (by first | exact Nat.le_of_ble_eq_true rfl | omega | (simp only [lnS] <;> omega) | (simp <;> omega)))) trivial ⟨.inr (wt_one 4 2 (by kernel_rfl)), ⟨.inl (by simp <;> omega), trivial⟩⟩ ⟨.inl (by simp <;> omega), ⟨.inl (by simp <;> omega), ⟨.inr (wt_one 4 2 (by kernel_rfl)), ⟨.inl (by simp <;> omega), trivial⟩⟩⟩⟩ (fun m_23 hm_23 => ?_)
              have mo3_23 := m_set hm_23 mo3_22
              (try simp only [packA_t, packA_f, iE, bE, setAt, cellsA, Value.cells, map_vc, map_vn, Nat.reduceAdd, qS] at mo3_23)
              have mo4_23 := m_set_o hm_23 mo4_22 (by decide)
              have mo2_23 := m_set_o hm_23 mo2_22 (by decide)
              have mo1_23 := m_set_o hm_23 mo1_22 (by decide)
              have mo0_23 := m_set_o hm_23 mo0_22 (by decide)
              have ml_23 := m_set_l hm_23 ml_22
              clear hm_23 mo4_22 mo3_22 mo2_22 mo1_22 mo0_22
              refine dh_nil rfl ?_
              refine al_stm (st_store (up_n up_h) (up_n (u2 rfl up_h)) rfl rfl mo4_23 k21_sz26 rfl (by first | exact Nat.le_of_ble_eq_true rfl | omega | (simp only [lnS] <;> omega) | (simp <;> omega))) trivial rfl (fun m_24 hm_24 => ?_)
              have mo4_24 := m_set hm_24 mo4_23
              (try simp only [packA_t, packA_f, iE, bE, setAt, cellsA, Value.cells, map_vc, map_vn, Nat.reduceAdd, qS] at mo4_24)
              have mo3_24 := m_set_o hm_24 mo3_23 (by decide)
              have mo2_24 := m_set_o hm_24 mo2_23 (by decide)
              have mo1_24 := m_set_o hm_24 mo1_23 (by decide)
              have mo0_24 := m_set_o hm_24 mo0_23 (by decide)
              have ml_24 := m_set_l hm_24 ml_23
              clear hm_24 mo3_23 mo4_23 mo2_23 mo1_23 mo0_23
              refine al_end (fun e_25 he_25 => ?_)
              have s3_25 := ef 3 he_25 (up_n (up_n (u4 rfl s3_8)))
              have s4_25 := ef 4 he_25 (up_n (up_n (u4 rfl s4_8)))
              have s5_25 := ef 5 he_25 (up_n (up_n (u4 rfl s5_8)))
              have s7_25 := ef 7 he_25 (up_n (up_n (up_m rfl up_h)))
              have s8_25 := ef 8 he_25 (up_n (up_n up_h))
              clear he_25 s3_8 s4_8 s55_8 s5_8
              refine then_n ?_
              refine aw_seq ?_
              refine aw_drawK 12 0 ml_24 (by kernel_rfl) (by kernel_rfl) (by kernel_rfl) (fun m_26 hm_26 => ?_)
              have mo4_26 := m_room_o hm_26 mo4_24
              have mo3_26 := m_room_o hm_26 mo3_24
              have mo2_26 := m_room_o hm_26 mo2_24
              have mo1_26 := m_room_o hm_26 mo1_24
              have mo0_26 := m_room_o hm_26 mo0_24
              have ml_26 : _ = 5 := m_room_l hm_26 ml_24
              clear hm_26 mo4_24 mo3_24 mo2_24 mo1_24 mo0_24 ml_24
              refine dh_ro (fun M_ hM_ => (ro_fld_ptr k21_fl26_0 rfl s4_25)) trivial ?_
              refine dh_ld (1) (fun M_ hM_ => (ro_eq (ro_ld_ptr k21_ty3 rfl (agr hM_ mo1_26 (by simp)) up_h (by first | exact Nat.le_of_ble_eq_true rfl | omega | (simp only [lnS] <;> omega) | (simp <;> omega))) (by first | (simp only [packA_t, packA_f, iE, bE, setAt, cellsA, Value.cells, map_vc, map_vn, Nat.reduceAdd, qS] <;> rfl) | rfl))) trivial trivial ?_
              first | (refine dh_ro (fun M_ hM_ => (ro_add' up_h ev_c ?_)) trivial ?_; · (unfold In64; omega)) | refine dh_ro (fun M_ hM_ => (ro_add up_h ev_c)) trivial ?_
              refine dh_ro (fun M_ hM_ => (ro_min ev_c up_h)) trivial ?_
              refine dh_ro (fun M_ hM_ => (ro_fld_ptr k21_fl26_0 rfl (u4 rfl s4_25))) trivial ?_
              refine dh_ld (1) (fun M_ hM_ => (ro_eq (ro_ld_ptr k21_ty3 rfl (agr hM_ mo1_26 (by simp)) up_h (by first | exact Nat.le_of_ble_eq_true rfl | omega | (simp only [lnS] <;> omega) | (simp <;> omega))) (by first | (simp only [packA_t, packA_f, iE, bE, setAt, cellsA, Value.cells, map_vc, map_vn, Nat.reduceAdd, qS] <;> rfl) | rfl))) trivial trivial ?_
              refine dh_ro (fun M_ hM_ => (ro_fld_ptr k21_fl26_1 rfl (u2 rfl (u4 rfl s4_25)))) trivial ?_
              refine dh_ld (1) (fun M_ hM_ => (ro_eq (ro_ld_ptr k21_ty3 rfl (agr hM_ mo1_26 (by simp)) up_h (by first | exact Nat.le_of_ble_eq_true rfl | omega | (simp only [lnS] <;> omega) | (simp <;> omega))) (by first | (simp only [packA_t, packA_f, iE, bE, setAt, cellsA, Value.cells, map_vc, map_vn, Nat.reduceAdd, qS] <;> rfl) | rfl))) trivial trivial ?_
              first | (refine dh_ro (fun M_ hM_ => (ro_add' up_h ev_c ?_)) trivial ?_; · (unfold In64; omega)) | refine dh_ro (fun M_ hM_ => (ro_add up_h ev_c)) trivial ?_
              refine dh_ro (fun M_ hM_ => (ro_min3 ev_c (up_m rfl (u2 rfl up_h)) up_h)) trivial ?_
              refine dh_ro (fun M_ hM_ => (ro_fld_ptr k21_fl26_0 rfl (u2 rfl (u8 rfl s7_25)))) trivial ?_
              refine dh_set (3) (fun M_ hM_ => (se_store up_h (up_m rfl (u2 rfl (u4 rfl up_h))) rfl rfl (agr hM_ mo3_26 (by simp)) k21_sz3 rfl (by first | exact Nat.le_of_ble_eq_true rfl | omega | (simp only [lnS] <;> omega) | (simp <;> omega)))) trivial trivial ⟨.inl (by simp <;> omega), ⟨.inl (by simp <;> omega), ⟨.inl (by simp <;> omega), trivial⟩⟩⟩ (fun m_27 hm_27 => ?_)
              have mo3_27 := m_set hm_27 mo3_26
              (try simp only [packA_t, packA_f, iE, bE, setAt, cellsA, Value.cells, map_vc, map_vn, Nat.reduceAdd, qS] at mo3_27)
              have mo4_27 := m_set_o hm_27 mo4_26 (by decide)
              have mo2_27 := m_set_o hm_27 mo2_26 (by decide)
              have mo1_27 := m_set_o hm_27 mo1_26 (by decide)
              have mo0_27 := m_set_o hm_27 mo0_26 (by decide)
              have ml_27 := m_set_l hm_27 ml_26
              clear hm_27 mo4_26 mo3_26 mo2_26 mo1_26 mo0_26
              refine dh_nil rfl ?_
              refine al_ro' (ro_fld_ptr k21_fl26_1 rfl (up_n (up_m rfl (u2 rfl (u8 rfl s8_25))))) trivial rfl ?_
              refine al_stm (st_store up_h (up_m rfl (up_n (up_m rfl up_h))) rfl rfl mo4_27 k21_sz3 rfl (by first | exact Nat.le_of_ble_eq_true rfl | omega | (simp only [lnS] <;> omega) | (simp <;> omega))) trivial rfl (fun m_28 hm_28 => ?_)
              have mo4_28 := m_set hm_28 mo4_27
              (try simp only [packA_t, packA_f, iE, bE, setAt, cellsA, Value.cells, map_vc, map_vn, Nat.reduceAdd, qS] at mo4_28)
              have mo3_28 := m_set_o hm_28 mo3_27 (by decide)
              have mo2_28 := m_set_o hm_28 mo2_27 (by decide)
              have mo1_28 := m_set_o hm_28 mo1_27 (by decide)
              have mo0_28 := m_set_o hm_28 mo0_27 (by decide)
              have ml_28 := m_set_l hm_28 ml_27
              clear hm_28 mo3_27 mo4_27 mo2_27 mo1_27 mo0_27
              refine al_end (fun e_29 he_29 => ?_)
              have s3_29 := ef 3 he_29 (up_n (up_m rfl (up_n (up_m rfl (u2 rfl (u8 rfl s3_25))))))
              have s4_29 := ef 4 he_29 (up_n (up_m rfl (up_n (up_m rfl (u2 rfl (u8 rfl s4_25))))))
              have s5_29 := ef 5 he_29 (up_n (up_m rfl (up_n (up_m rfl (u2 rfl (u8 rfl s5_25))))))
              have s7_29 := ef 7 he_29 (up_n (up_m rfl (up_n (up_m rfl (u2 rfl (u8 rfl s7_25))))))
              have s8_29 := ef 8 he_29 (up_n (up_m rfl (up_n (up_m rfl (u2 rfl (u8 rfl s8_25))))))
              clear he_29 s3_25 s4_25 s5_25 s7_25 s8_25
              refine then_n ?_
              refine aw_seq ?_
              refine aw_draw 11 (by kernel_rfl) (by kernel_rfl) (by kernel_rfl) ?_
              refine ds_ro' (ro_eq (ro_ld_ptr k21_ty24 rfl mo0_28 s3_29 (by first | exact Nat.le_of_ble_eq_true rfl | omega | (simp only [lnS] <;> omega) | (simp <;> omega))) (by first | (simp only [packA_t, packA_f, iE, bE, setAt, cellsA, Value.cells, map_vc, map_vn, Nat.reduceAdd, qS] <;> rfl) | rfl)) trivial rfl ?_
              refine ds_ro' (ro_call (evL_cons up_h evL_nil) rfl (rCopy_ok nm ps (by omega)) k21_hcf18) trivial rfl ?_
              refine ds_ro' (ro_eq (ro_ld_ptr k21_ty26 rfl mo1_28 (u2 rfl s4_29) (by first | exact Nat.le_of_ble_eq_true rfl | omega | (simp only [lnS] <;> omega) | (simp <;> omega))) (by first | (simp only [packA_t, packA_f, iE, bE, setAt, cellsA, Value.cells, map_vc, map_vn, Nat.reduceAdd, qS] <;> rfl) | rfl)) trivial rfl ?_
              refine ds_ro' (ro_fld_ptr k21_fl44_1 rfl (up_m rfl (u2 rfl s5_29))) trivial rfl ?_
              refine ds_ro' (ro_eq (ro_ld_ptr k21_ty3 rfl mo2_28 up_h (by first | exact Nat.le_of_ble_eq_true rfl | omega | (simp only [lnS] <;> omega) | (simp <;> omega))) (by first | (simp only [packA_t, packA_f, iE, bE, setAt, cellsA, Value.cells, map_vc, map_vn, Nat.reduceAdd, qS] <;> rfl) | rfl)) trivial rfl ?_
              refine ds_ro' (ro_call (evL_cons (up_m rfl (u2 rfl up_h)) (evL_cons (u2 rfl up_h) (evL_cons up_h evL_nil))) rfl (curveOf2_ok hs hp hR.2) k21_hcf28) trivial rfl ?_
              refine ds_ro' (ro_move up_h) trivial rfl ?_
              refine ds_ro' (ro_extract up_h rfl) trivial rfl ?_
              refine ds_ro' (ro_extract (up_m rfl up_h) rfl) trivial rfl ?_
              refine ds_ro' (ro_assign (up_m rfl up_h)) trivial rfl ?_
              refine ds_ro' (ro_assign (up_m rfl up_h)) trivial rfl ?_
              refine ds_nil ?_
              refine al_end (fun e_30 he_30 => ?_)
              have s3_30 := ef 3 he_30 (up_m rfl (u2 rfl (u8 rfl s3_29)))
              have s4_30 := ef 4 he_30 (up_m rfl (u2 rfl (u8 rfl s4_29)))
              have s5_30 := ef 5 he_30 (up_m rfl (u2 rfl (u8 rfl s5_29)))
              have s7_30 := ef 7 he_30 (up_m rfl (u2 rfl (u8 rfl s7_29)))
              have s8_30 := ef 8 he_30 (up_m rfl (u2 rfl (u8 rfl s8_29)))
              have s9_30 := ef 9 he_30 (up_m rfl up_h)
              have s10_30 := ef 10 he_30 up_h
              clear he_30 s3_29 s4_29 s5_29 s7_29 s8_29
              refine then_n ?_
              refine aw_seq ?_
              refine aw_draw 11 (by kernel_rfl) (by kernel_rfl) (by kernel_rfl) ?_
              refine ds_ro' (ro_eq (ro_ld_ptr k21_ty24 rfl mo0_28 s3_30 (by first | exact Nat.le_of_ble_eq_true rfl | omega | (simp only [lnS] <;> omega) | (simp <;> omega))) (by first | (simp only [packA_t, packA_f, iE, bE, setAt, cellsA, Value.cells, map_vc, map_vn, Nat.reduceAdd, qS] <;> rfl) | rfl)) trivial rfl ?_
              refine ds_ro' (ro_call (evL_cons up_h evL_nil) rfl (rCopy_ok nm ps (by omega)) k21_hcf18) trivial rfl ?_
              refine ds_ro' (ro_eq (ro_ld_ptr k21_ty26 rfl mo3_28 (u2 rfl s7_30) (by first | exact Nat.le_of_ble_eq_true rfl | omega | (simp only [lnS] <;> omega) | (simp <;> omega))) (by first | (simp only [packA_t, packA_f, iE, bE, setAt, cellsA, Value.cells, map_vc, map_vn, Nat.reduceAdd, qS] <;> rfl) | rfl)) trivial rfl ?_
              refine ds_ro' (ro_fld_ptr k21_fl44_1 rfl (up_m rfl (u2 rfl s5_30))) trivial rfl ?_
              refine ds_ro' (ro_eq (ro_ld_ptr k21_ty3 rfl mo2_28 up_h (by first | exact Nat.le_of_ble_eq_true rfl | omega | (simp only [lnS] <;> omega) | (simp <;> omega))) (by first | (simp only [packA_t, packA_f, iE, bE, setAt, cellsA, Value.cells, map_vc, map_vn, Nat.reduceAdd, qS] <;> rfl) | rfl)) trivial rfl ?_
              refine ds_ro' (ro_call (evL_cons (up_m rfl (u2 rfl up_h)) (evL_cons (u2 rfl up_h) (evL_cons up_h evL_nil))) rfl (curveOf2_ok hs hp (curE_other hR.2 hB1)) k21_hcf28) trivial rfl ?_
              refine ds_ro' (ro_move up_h) trivial rfl ?_
              refine ds_ro' (ro_extract up_h rfl) trivial rfl ?_
              refine ds_ro' (ro_extract (up_m rfl up_h) rfl) trivial rfl ?_
              refine ds_ro' (ro_assign (up_m rfl up_h)) trivial rfl ?_
              refine ds_ro' (ro_assign (up_m rfl up_h)) trivial rfl ?_
              refine ds_nil ?_
              refine al_end (fun e_31 he_31 => ?_)
              have s3_31 := ef 3 he_31 (up_m rfl (u2 rfl (u8 rfl s3_30)))
              have s4_31 := ef 4 he_31 (up_m rfl (u2 rfl (u8 rfl s4_30)))
              have s5_31 := ef 5 he_31 (up_m rfl (u2 rfl (u8 rfl s5_30)))
              have s7_31 := ef 7 he_31 (up_m rfl (u2 rfl (u8 rfl s7_30)))
              have s8_31 := ef 8 he_31 (up_m rfl (u2 rfl (u8 rfl s8_30)))
              have s9_31 := ef 9 he_31 (up_m rfl (u2 rfl (u8 rfl s9_30)))
              have s10_31 := ef 10 he_31 (up_m rfl (u2 rfl (u8 rfl s10_30)))
              have s11_31 := ef 11 he_31 (up_m rfl up_h)
              have s12_31 := ef 12 he_31 up_h
              clear he_31 s10_30 s3_30 s4_30 s5_30 s7_30 s8_30 s9_30
              refine then_n ?_
              refine aw_seq ?_
              refine aw_draw 11 (by kernel_rfl) (by kernel_rfl) (by kernel_rfl) ?_
              refine ds_ro' (ro_eq (ro_ld_ptr k21_ty24 rfl mo0_28 s3_31 (by first | exact Nat.le_of_ble_eq_true rfl | omega | (simp only [lnS] <;> omega) | (simp <;> omega))) (by first | (simp only [packA_t, packA_f, iE, bE, setAt, cellsA, Value.cells, map_vc, map_vn, Nat.reduceAdd, qS] <;> rfl) | rfl)) trivial rfl ?_
              refine ds_ro' (ro_call (evL_cons up_h evL_nil) rfl (rCopy_ok nm ps (by omega)) k21_hcf18) trivial rfl ?_
              refine ds_ro' (ro_eq (ro_ld_ptr k21_ty26 rfl mo1_28 (u2 rfl s4_31) (by first | exact Nat.le_of_ble_eq_true rfl | omega | (simp only [lnS] <;> omega) | (simp <;> omega))) (by first | (simp only [packA_t, packA_f, iE, bE, setAt, cellsA, Value.cells, map_vc, map_vn, Nat.reduceAdd, qS] <;> rfl) | rfl)) trivial rfl ?_
              refine ds_ro' (ro_fld_ptr k21_fl44_1 rfl (up_m rfl (u2 rfl s5_31))) trivial rfl ?_
              refine ds_ro' (ro_eq (ro_ld_ptr k21_ty3 rfl mo2_28 up_h (by first | exact Nat.le_of_ble_eq_true rfl | omega | (simp only [lnS] <;> omega) | (simp <;> omega))) (by first | (simp only [packA_t, packA_f, iE, bE, setAt, cellsA, Value.cells, map_vc, map_vn, Nat.reduceAdd, qS] <;> rfl) | rfl)) trivial rfl ?_
              refine ds_ro' (ro_call (evL_cons (up_m rfl (u2 rfl up_h)) (evL_cons (u2 rfl up_h) (evL_cons up_h evL_nil))) rfl (leastOf2_ok hs hp hR.2) k21_hcf29) trivial rfl ?_
              refine ds_ro' (ro_move up_h) trivial rfl ?_
              refine ds_ro' (ro_extract up_h rfl) trivial rfl ?_
              refine ds_ro' (ro_extract (up_m rfl up_h) rfl) trivial rfl ?_
              refine ds_ro' (ro_assign (up_m rfl up_h)) trivial rfl ?_
              refine ds_ro' (ro_assign (up_m rfl up_h)) trivial rfl ?_
              refine ds_nil ?_
              refine al_end (fun e_32 he_32 => ?_)
              have s3_32 := ef 3 he_32 (up_m rfl (u2 rfl (u8 rfl s3_31)))
              have s4_32 := ef 4 he_32 (up_m rfl (u2 rfl (u8 rfl s4_31)))
              have s5_32 := ef 5 he_32 (up_m rfl (u2 rfl (u8 rfl s5_31)))
              have s7_32 := ef 7 he_32 (up_m rfl (u2 rfl (u8 rfl s7_31)))
              have s8_32 := ef 8 he_32 (up_m rfl (u2 rfl (u8 rfl s8_31)))
              have s9_32 := ef 9 he_32 (up_m rfl (u2 rfl (u8 rfl s9_31)))
              have s10_32 := ef 10 he_32 (up_m rfl (u2 rfl (u8 rfl s10_31)))
              have s11_32 := ef 11 he_32 (up_m rfl (u2 rfl (u8 rfl s11_31)))
              have s12_32 := ef 12 he_32 (up_m rfl (u2 rfl (u8 rfl s12_31)))
              have s13_32 := ef 13 he_32 (up_m rfl up_h)
              have s14_32 := ef 14 he_32 up_h
              clear he_32 s10_31 s11_31 s12_31 s3_31 s4_31 s5_31 s7_31 s8_31 s9_31
              refine then_n ?_
              refine aw_seq ?_
              refine aw_draw 11 (by kernel_rfl) (by kernel_rfl) (by kernel_rfl) ?_
              refine ds_ro' (ro_eq (ro_ld_ptr k21_ty24 rfl mo0_28 s3_32 (by first | exact Nat.le_of_ble_eq_true rfl | omega | (simp only [lnS] <;> omega) | (simp <;> omega))) (by first | (simp only [packA_t, packA_f, iE, bE, setAt, cellsA, Value.cells, map_vc, map_vn, Nat.reduceAdd, qS] <;> rfl) | rfl)) trivial rfl ?_
              refine ds_ro' (ro_call (evL_cons up_h evL_nil) rfl (rCopy_ok nm ps (by omega)) k21_hcf18) trivial rfl ?_
              refine ds_ro' (ro_eq (ro_ld_ptr k21_ty26 rfl mo4_28 (u2 rfl s8_32) (by first | exact Nat.le_of_ble_eq_true rfl | omega | (simp only [lnS] <;> omega) | (simp <;> omega))) (by first | (simp only [packA_t, packA_f, iE, bE, setAt, cellsA, Value.cells, map_vc, map_vn, Nat.reduceAdd, qS] <;> rfl) | rfl)) trivial rfl ?_
              refine ds_ro' (ro_fld_ptr k21_fl44_1 rfl (up_m rfl (u2 rfl s5_32))) trivial rfl ?_
              refine ds_ro' (ro_eq (ro_ld_ptr k21_ty3 rfl mo2_28 up_h (by first | exact Nat.le_of_ble_eq_true rfl | omega | (simp only [lnS] <;> omega) | (simp <;> omega))) (by first | (simp only [packA_t, packA_f, iE, bE, setAt, cellsA, Value.cells, map_vc, map_vn, Nat.reduceAdd, qS] <;> rfl) | rfl)) trivial rfl ?_
              refine ds_ro' (ro_call (evL_cons (up_m rfl (u2 rfl up_h)) (evL_cons (u2 rfl up_h) (evL_cons up_h evL_nil))) rfl (leastOf2_ok hs hp (curE_other hR.2 hB2)) k21_hcf29) trivial rfl ?_
              refine ds_ro' (ro_move up_h) trivial rfl ?_
              refine ds_ro' (ro_extract up_h rfl) trivial rfl ?_
              refine ds_ro' (ro_extract (up_m rfl up_h) rfl) trivial rfl ?_
              refine ds_ro' (ro_assign (up_m rfl up_h)) trivial rfl ?_
              refine ds_ro' (ro_assign (up_m rfl up_h)) trivial rfl ?_
              refine ds_nil ?_
              refine al_end (fun e_33 he_33 => ?_)
              have s3_33 := ef 3 he_33 (up_m rfl (u2 rfl (u8 rfl s3_32)))
              have s4_33 := ef 4 he_33 (up_m rfl (u2 rfl (u8 rfl s4_32)))
              have s5_33 := ef 5 he_33 (up_m rfl (u2 rfl (u8 rfl s5_32)))
              have s7_33 := ef 7 he_33 (up_m rfl (u2 rfl (u8 rfl s7_32)))
              have s9_33 := ef 9 he_33 (up_m rfl (u2 rfl (u8 rfl s9_32)))
              have s10_33 := ef 10 he_33 (up_m rfl (u2 rfl (u8 rfl s10_32)))
              have s11_33 := ef 11 he_33 (up_m rfl (u2 rfl (u8 rfl s11_32)))
              have s12_33 := ef 12 he_33 (up_m rfl (u2 rfl (u8 rfl s12_32)))
              have s13_33 := ef 13 he_33 (up_m rfl (u2 rfl (u8 rfl s13_32)))
              have s14_33 := ef 14 he_33 (up_m rfl (u2 rfl (u8 rfl s14_32)))
              have s15_33 := ef 15 he_33 (up_m rfl up_h)
              have s16_33 := ef 16 he_33 up_h
              clear he_33 s10_32 s11_32 s12_32 s13_32 s14_32 s3_32 s4_32 s5_32 s7_32 s8_32 s9_32
              refine then_n ?_
              refine aw_seq ?_
              refine aw_seq ?_
              refine aw_cut (fun e mem => (evA e (.tmp 133) = .v (.bool false)) ∧ (evA e (.tmp 3) = evA e_33 (.tmp 3)) ∧ (evA e (.tmp 4) = evA e_33 (.tmp 4)) ∧ (evA e (.tmp 5) = evA e_33 (.tmp 5)) ∧ (evA e (.tmp 7) = evA e_33 (.tmp 7)) ∧ (evA e (.tmp 9) = evA e_33 (.tmp 9)) ∧ (evA e (.tmp 11) = evA e_33 (.tmp 11)) ∧ (evA e (.tmp 13) = evA e_33 (.tmp 13)) ∧ (evA e (.tmp 15) = evA e_33 (.tmp 15)) ∧ m_28 = mem) ?_ ?_
              ·
                refine aw_text ?_
                refine al_ro' (ro_move s10_33) trivial rfl ?_
                refine al_ro' (ro_neq up_h ev_c) trivial rfl ?_
                refine al_ro' (ro_move up_h) trivial rfl ?_
                refine al_case up_h (fun hb_35 hq_35 => ?_) (fun hb_35 hq_35 => ?_)
                · skip
                  first
                  | (cases hq_35; done) | ((first | replace hq_35 := bnt hq_35 | replace hq_35 := bnf hq_35 | replace hq_35 := bt hq_35 | replace hq_35 := bf hq_35 | replace hq_35 := bt' hq_35 | replace hq_35 := bf' hq_35 | skip); exfalso; omega) | (simp [hcl, hcl2, hl2, hl3] at hq_35; done)
                  | ((first | replace hq_35 := bnt hq_35 | replace hq_35 := bnf hq_35 | replace hq_35 := bt hq_35 | replace hq_35 := bf hq_35 | replace hq_35 := bt' hq_35 | replace hq_35 := bf' hq_35 | skip)
                     refine al_skip' ⟨_, rfl, .inl hb_35⟩ rfl ?_
                     refine al_skip' ⟨_, rfl, .inl (up_m rfl hb_35)⟩ rfl ?_
                     refine al_ro' (ro_pickT (u2 rfl hb_35) ev_c) trivial rfl ?_
                     refine al_ro' (ro_move up_h) trivial rfl ?_
                     refine al_skip' ⟨_, rfl, .inl up_h⟩ rfl ?_
                     refine al_skip' ⟨_, rfl, .inl (up_m rfl up_h)⟩ rfl ?_
                     refine al_ro' (ro_pickT (u2 rfl up_h) ev_c) trivial rfl ?_
                     refine al_ro' (ro_move up_h) trivial rfl ?_
                     refine al_skip' ⟨_, rfl, .inl up_h⟩ rfl ?_
                     refine al_skip' ⟨_, rfl, .inl (up_m rfl up_h)⟩ rfl ?_
                     refine al_ro' (ro_pickT (u2 rfl up_h) ev_c) trivial rfl ?_
                     refine al_ro' (ro_move up_h) trivial rfl ?_
                     refine al_skip' ⟨_, rfl, .inl up_h⟩ rfl ?_
                     refine al_skip' ⟨_, rfl, .inl (up_m rfl up_h)⟩ rfl ?_
                     refine al_skip' ⟨_, rfl, .inl (u2 rfl up_h)⟩ rfl ?_
                     refine al_skip' ⟨_, rfl, .inl (up_m rfl (u2 rfl up_h))⟩ rfl ?_
                     refine al_skip' ⟨_, rfl, .inl (u4 rfl up_h)⟩ rfl ?_
                     refine al_ro' (ro_pickT (up_m rfl (u4 rfl up_h)) ev_c) trivial rfl ?_
                     refine al_ro' (ro_move up_h) trivial rfl ?_
                     refine al_skip' ⟨_, rfl, .inl up_h⟩ rfl ?_
                     refine al_skip' ⟨_, rfl, .inl (up_m rfl up_h)⟩ rfl ?_
                     refine al_skip' ⟨_, rfl, .inl (u2 rfl up_h)⟩ rfl ?_
                     refine al_skip' ⟨_, rfl, .inl (up_m rfl (u2 rfl up_h))⟩ rfl ?_
                     refine al_skip' ⟨_, rfl, .inl (u4 rfl up_h)⟩ rfl ?_
                     refine al_ro' (ro_pickT (up_m rfl (u4 rfl up_h)) ev_c) trivial rfl ?_
                     refine al_end (fun e_36 he_36 => ?_)
                     have s3_36 := ef 3 he_36 (u4 rfl (u8 rfl (u16 rfl s3_33)))
                     have s4_36 := ef 4 he_36 (u4 rfl (u8 rfl (u16 rfl s4_33)))
                     have s5_36 := ef 5 he_36 (u4 rfl (u8 rfl (u16 rfl s5_33)))
                     have s7_36 := ef 7 he_36 (u4 rfl (u8 rfl (u16 rfl s7_33)))
                     have s9_36 := ef 9 he_36 (u4 rfl (u8 rfl (u16 rfl s9_33)))
                     have s11_36 := ef 11 he_36 (u4 rfl (u8 rfl (u16 rfl s11_33)))
                     have s13_36 := ef 13 he_36 (u4 rfl (u8 rfl (u16 rfl s13_33)))
                     have s15_36 := ef 15 he_36 (u4 rfl (u8 rfl (u16 rfl s15_33)))
                     have s133_36 := ef 133 he_36 up_h
                     clear he_36
                     refine then_n ⟨(s133_36).trans (by (refine avb ?_; first | (simp only [hl2, hl3, hcl, hcl2]; simp; done) | (simp; omega) | (exfalso; omega))), (s3_36).trans (s3_33).symm, (s4_36).trans (s4_33).symm, (s5_36).trans (s5_33).symm, (s7_36).trans (s7_33).symm, (s9_36).trans (s9_33).symm, (s11_36).trans (s11_33).symm, (s13_36).trans (s13_33).symm, (s15_36).trans (s15_33).symm, rfl⟩)
                · skip
                  first
                  | (cases hq_35; done) | ((first | replace hq_35 := bnt hq_35 | replace hq_35 := bnf hq_35 | replace hq_35 := bt hq_35 | replace hq_35 := bf hq_35 | replace hq_35 := bt' hq_35 | replace hq_35 := bf' hq_35 | skip); exfalso; omega) | (simp [hcl, hcl2, hl2, hl3] at hq_35; done)
                  | ((first | replace hq_35 := bnt hq_35 | replace hq_35 := bnf hq_35 | replace hq_35 := bt hq_35 | replace hq_35 := bf hq_35 | replace hq_35 := bt' hq_35 | replace hq_35 := bf' hq_35 | skip)
                     refine al_ro' (ro_move (up_m rfl (u2 rfl s12_33))) ⟨_, rfl, hb_35⟩ rfl ?_
                     refine al_ro' (ro_neq up_h ev_c) ⟨_, rfl, (up_m rfl hb_35)⟩ rfl ?_
                     refine al_ro' (ro_pickF (u2 rfl hb_35) up_h) trivial rfl ?_
                     refine al_ro' (ro_move up_h) trivial rfl ?_
                     refine al_case up_h (fun hb_37 hq_37 => ?_) (fun hb_37 hq_37 => ?_)
                     · skip
                       first
                       | (cases hq_37; done) | ((first | replace hq_37 := bnt hq_37 | replace hq_37 := bnf hq_37 | replace hq_37 := bt hq_37 | replace hq_37 := bf hq_37 | replace hq_37 := bt' hq_37 | replace hq_37 := bf' hq_37 | skip); exfalso; omega) | (simp [hcl, hcl2, hl2, hl3] at hq_37; done)
                       | ((first | replace hq_37 := bnt hq_37 | replace hq_37 := bnf hq_37 | replace hq_37 := bt hq_37 | replace hq_37 := bf hq_37 | replace hq_37 := bt' hq_37 | replace hq_37 := bf' hq_37 | skip)
                          refine al_skip' ⟨_, rfl, .inl hb_37⟩ rfl ?_
                          refine al_skip' ⟨_, rfl, .inl (up_m rfl hb_37)⟩ rfl ?_
                          refine al_ro' (ro_pickT (u2 rfl hb_37) ev_c) trivial rfl ?_
                          refine al_ro' (ro_move up_h) trivial rfl ?_
                          refine al_skip' ⟨_, rfl, .inl up_h⟩ rfl ?_
                          refine al_skip' ⟨_, rfl, .inl (up_m rfl up_h)⟩ rfl ?_
                          refine al_ro' (ro_pickT (u2 rfl up_h) ev_c) trivial rfl ?_
                          refine al_ro' (ro_move up_h) trivial rfl ?_
                          refine al_skip' ⟨_, rfl, .inl up_h⟩ rfl ?_
                          refine al_skip' ⟨_, rfl, .inl (up_m rfl up_h)⟩ rfl ?_
                          refine al_skip' ⟨_, rfl, .inl (u2 rfl up_h)⟩ rfl ?_
                          refine al_skip' ⟨_, rfl, .inl (up_m rfl (u2 rfl up_h))⟩ rfl ?_
                          refine al_skip' ⟨_, rfl, .inl (u4 rfl up_h)⟩ rfl ?_
                          refine al_ro' (ro_pickT (up_m rfl (u4 rfl up_h)) ev_c) trivial rfl ?_
                          refine al_ro' (ro_move up_h) trivial rfl ?_
                          refine al_skip' ⟨_, rfl, .inl up_h⟩ rfl ?_
                          refine al_skip' ⟨_, rfl, .inl (up_m rfl up_h)⟩ rfl ?_
                          refine al_skip' ⟨_, rfl, .inl (u2 rfl up_h)⟩ rfl ?_
                          refine al_skip' ⟨_, rfl, .inl (up_m rfl (u2 rfl up_h))⟩ rfl ?_
                          refine al_skip' ⟨_, rfl, .inl (u4 rfl up_h)⟩ rfl ?_
                          refine al_ro' (ro_pickT (up_m rfl (u4 rfl up_h)) ev_c) trivial rfl ?_
                          refine al_end (fun e_38 he_38 => ?_)
                          have s3_38 := ef 3 he_38 (u4 rfl (u8 rfl (u16 rfl s3_33)))
                          have s4_38 := ef 4 he_38 (u4 rfl (u8 rfl (u16 rfl s4_33)))
                          have s5_38 := ef 5 he_38 (u4 rfl (u8 rfl (u16 rfl s5_33)))
                          have s7_38 := ef 7 he_38 (u4 rfl (u8 rfl (u16 rfl s7_33)))
                          have s9_38 := ef 9 he_38 (u4 rfl (u8 rfl (u16 rfl s9_33)))
                          have s11_38 := ef 11 he_38 (u4 rfl (u8 rfl (u16 rfl s11_33)))
                          have s13_38 := ef 13 he_38 (u4 rfl (u8 rfl (u16 rfl s13_33)))
                          have s15_38 := ef 15 he_38 (u4 rfl (u8 rfl (u16 rfl s15_33)))
                          have s133_38 := ef 133 he_38 up_h
                          clear he_38
                          refine then_n ⟨(s133_38).trans (by (refine avb ?_; first | (simp only [hl2, hl3, hcl, hcl2]; simp; done) | (simp; omega) | (exfalso; omega))), (s3_38).trans (s3_33).symm, (s4_38).trans (s4_33).symm, (s5_38).trans (s5_33).symm, (s7_38).trans (s7_33).symm, (s9_38).trans (s9_33).symm, (s11_38).trans (s11_33).symm, (s13_38).trans (s13_33).symm, (s15_38).trans (s15_33).symm, rfl⟩)
                     · skip
                       first
                       | (cases hq_37; done) | ((first | replace hq_37 := bnt hq_37 | replace hq_37 := bnf hq_37 | replace hq_37 := bt hq_37 | replace hq_37 := bf hq_37 | replace hq_37 := bt' hq_37 | replace hq_37 := bf' hq_37 | skip); exfalso; omega) | (simp [hcl, hcl2, hl2, hl3] at hq_37; done)
                       | ((first | replace hq_37 := bnt hq_37 | replace hq_37 := bnf hq_37 | replace hq_37 := bt hq_37 | replace hq_37 := bf hq_37 | replace hq_37 := bt' hq_37 | replace hq_37 := bf' hq_37 | skip)
                          refine al_ro' (ro_move (up_m rfl (u2 rfl (u4 rfl s14_33)))) ⟨_, rfl, hb_37⟩ rfl ?_
                          refine al_ro' (ro_neq up_h ev_c) ⟨_, rfl, (up_m rfl hb_37)⟩ rfl ?_
                          refine al_ro' (ro_pickF (u2 rfl hb_37) up_h) trivial rfl ?_
                          refine al_ro' (ro_move up_h) trivial rfl ?_
                          refine al_case up_h (fun hb_39 hq_39 => ?_) (fun hb_39 hq_39 => ?_)
                          · skip
                            first
                            | (cases hq_39; done) | ((first | replace hq_39 := bnt hq_39 | replace hq_39 := bnf hq_39 | replace hq_39 := bt hq_39 | replace hq_39 := bf hq_39 | replace hq_39 := bt' hq_39 | replace hq_39 := bf' hq_39 | skip); exfalso; omega) | (simp [hcl, hcl2, hl2, hl3] at hq_39; done)
                            | ((first | replace hq_39 := bnt hq_39 | replace hq_39 := bnf hq_39 | replace hq_39 := bt hq_39 | replace hq_39 := bf hq_39 | replace hq_39 := bt' hq_39 | replace hq_39 := bf' hq_39 | skip)
                               refine al_skip' ⟨_, rfl, .inl hb_39⟩ rfl ?_
                               refine al_skip' ⟨_, rfl, .inl (up_m rfl hb_39)⟩ rfl ?_
                               refine al_ro' (ro_pickT (u2 rfl hb_39) ev_c) trivial rfl ?_
                               refine al_ro' (ro_move up_h) trivial rfl ?_
                               refine al_skip' ⟨_, rfl, .inl up_h⟩ rfl ?_
                               refine al_skip' ⟨_, rfl, .inl (up_m rfl up_h)⟩ rfl ?_
                               refine al_skip' ⟨_, rfl, .inl (u2 rfl up_h)⟩ rfl ?_
                               refine al_skip' ⟨_, rfl, .inl (up_m rfl (u2 rfl up_h))⟩ rfl ?_
                               refine al_skip' ⟨_, rfl, .inl (u4 rfl up_h)⟩ rfl ?_
                               refine al_ro' (ro_pickT (up_m rfl (u4 rfl up_h)) ev_c) trivial rfl ?_
                               refine al_ro' (ro_move up_h) trivial rfl ?_
                               refine al_skip' ⟨_, rfl, .inl up_h⟩ rfl ?_
                               refine al_skip' ⟨_, rfl, .inl (up_m rfl up_h)⟩ rfl ?_
                               refine al_skip' ⟨_, rfl, .inl (u2 rfl up_h)⟩ rfl ?_
                               refine al_skip' ⟨_, rfl, .inl (up_m rfl (u2 rfl up_h))⟩ rfl ?_
                               refine al_skip' ⟨_, rfl, .inl (u4 rfl up_h)⟩ rfl ?_
                               refine al_ro' (ro_pickT (up_m rfl (u4 rfl up_h)) ev_c) trivial rfl ?_
                               refine al_end (fun e_40 he_40 => ?_)
                               have s3_40 := ef 3 he_40 (u4 rfl (u8 rfl (u16 rfl s3_33)))
                               have s4_40 := ef 4 he_40 (u4 rfl (u8 rfl (u16 rfl s4_33)))
                               have s5_40 := ef 5 he_40 (u4 rfl (u8 rfl (u16 rfl s5_33)))
                               have s7_40 := ef 7 he_40 (u4 rfl (u8 rfl (u16 rfl s7_33)))
                               have s9_40 := ef 9 he_40 (u4 rfl (u8 rfl (u16 rfl s9_33)))
                               have s11_40 := ef 11 he_40 (u4 rfl (u8 rfl (u16 rfl s11_33)))
                               have s13_40 := ef 13 he_40 (u4 rfl (u8 rfl (u16 rfl s13_33)))
                               have s15_40 := ef 15 he_40 (u4 rfl (u8 rfl (u16 rfl s15_33)))
                               have s133_40 := ef 133 he_40 up_h
                               clear he_40
                               refine then_n ⟨(s133_40).trans (by (refine avb ?_; first | (simp only [hl2, hl3, hcl, hcl2]; simp; done) | (simp; omega) | (exfalso; omega))), (s3_40).trans (s3_33).symm, (s4_40).trans (s4_33).symm, (s5_40).trans (s5_33).symm, (s7_40).trans (s7_33).symm, (s9_40).trans (s9_33).symm, (s11_40).trans (s11_33).symm, (s13_40).trans (s13_33).symm, (s15_40).trans (s15_33).symm, rfl⟩)
                          · skip
                            first
                            | (cases hq_39; done) | ((first | replace hq_39 := bnt hq_39 | replace hq_39 := bnf hq_39 | replace hq_39 := bt hq_39 | replace hq_39 := bf hq_39 | replace hq_39 := bt' hq_39 | replace hq_39 := bf' hq_39 | skip); exfalso; omega) | (simp [hcl, hcl2, hl2, hl3] at hq_39; done)
                            | ((first | replace hq_39 := bnt hq_39 | replace hq_39 := bnf hq_39 | replace hq_39 := bt hq_39 | replace hq_39 := bf hq_39 | replace hq_39 := bt' hq_39 | replace hq_39 := bf' hq_39 | skip)
                               refine al_ro' (ro_move (up_m rfl (u2 rfl (u8 rfl s16_33)))) ⟨_, rfl, hb_39⟩ rfl ?_
                               refine al_ro' (ro_neq up_h ev_c) ⟨_, rfl, (up_m rfl hb_39)⟩ rfl ?_
                               refine al_ro' (ro_pickF (u2 rfl hb_39) up_h) trivial rfl ?_
                               refine al_ro' (ro_move up_h) trivial rfl ?_
                               refine al_case up_h (fun hb_41 hq_41 => ?_) (fun hb_41 hq_41 => ?_)
                               · skip
                                 first
                                 | (cases hq_41; done) | ((first | replace hq_41 := bnt hq_41 | replace hq_41 := bnf hq_41 | replace hq_41 := bt hq_41 | replace hq_41 := bf hq_41 | replace hq_41 := bt' hq_41 | replace hq_41 := bf' hq_41 | skip); exfalso; omega) | (simp [hcl, hcl2, hl2, hl3] at hq_41; done)
                                 | ((first | replace hq_41 := bnt hq_41 | replace hq_41 := bnf hq_41 | replace hq_41 := bt hq_41 | replace hq_41 := bf hq_41 | replace hq_41 := bt' hq_41 | replace hq_41 := bf' hq_41 | skip)
                                    refine al_skip' ⟨_, rfl, .inl hb_41⟩ rfl ?_
                                    refine al_skip' ⟨_, rfl, .inl (up_m rfl hb_41)⟩ rfl ?_
                                    refine al_skip' ⟨_, rfl, .inl (u2 rfl hb_41)⟩ rfl ?_
                                    refine al_skip' ⟨_, rfl, .inl (up_m rfl (u2 rfl hb_41))⟩ rfl ?_
                                    refine al_skip' ⟨_, rfl, .inl (u4 rfl hb_41)⟩ rfl ?_
                                    refine al_ro' (ro_pickT (up_m rfl (u4 rfl hb_41)) ev_c) trivial rfl ?_
                                    refine al_ro' (ro_move up_h) trivial rfl ?_
                                    refine al_skip' ⟨_, rfl, .inl up_h⟩ rfl ?_
                                    refine al_skip' ⟨_, rfl, .inl (up_m rfl up_h)⟩ rfl ?_
                                    refine al_skip' ⟨_, rfl, .inl (u2 rfl up_h)⟩ rfl ?_
                                    refine al_skip' ⟨_, rfl, .inl (up_m rfl (u2 rfl up_h))⟩ rfl ?_
                                    refine al_skip' ⟨_, rfl, .inl (u4 rfl up_h)⟩ rfl ?_
                                    refine al_ro' (ro_pickT (up_m rfl (u4 rfl up_h)) ev_c) trivial rfl ?_
                                    refine al_end (fun e_42 he_42 => ?_)
                                    have s3_42 := ef 3 he_42 (u4 rfl (u8 rfl (u16 rfl s3_33)))
                                    have s4_42 := ef 4 he_42 (u4 rfl (u8 rfl (u16 rfl s4_33)))
                                    have s5_42 := ef 5 he_42 (u4 rfl (u8 rfl (u16 rfl s5_33)))
                                    have s7_42 := ef 7 he_42 (u4 rfl (u8 rfl (u16 rfl s7_33)))
                                    have s9_42 := ef 9 he_42 (u4 rfl (u8 rfl (u16 rfl s9_33)))
                                    have s11_42 := ef 11 he_42 (u4 rfl (u8 rfl (u16 rfl s11_33)))
                                    have s13_42 := ef 13 he_42 (u4 rfl (u8 rfl (u16 rfl s13_33)))
                                    have s15_42 := ef 15 he_42 (u4 rfl (u8 rfl (u16 rfl s15_33)))
                                    have s133_42 := ef 133 he_42 up_h
                                    clear he_42
                                    refine then_n ⟨(s133_42).trans (by (refine avb ?_; first | (simp only [hl2, hl3, hcl, hcl2]; simp; done) | (simp; omega) | (exfalso; omega))), (s3_42).trans (s3_33).symm, (s4_42).trans (s4_33).symm, (s5_42).trans (s5_33).symm, (s7_42).trans (s7_33).symm, (s9_42).trans (s9_33).symm, (s11_42).trans (s11_33).symm, (s13_42).trans (s13_33).symm, (s15_42).trans (s15_33).symm, rfl⟩)
                               · skip
                                 first
                                 | (cases hq_41; done) | ((first | replace hq_41 := bnt hq_41 | replace hq_41 := bnf hq_41 | replace hq_41 := bt hq_41 | replace hq_41 := bf hq_41 | replace hq_41 := bt' hq_41 | replace hq_41 := bf' hq_41 | skip); exfalso; omega) | (simp [hcl, hcl2, hl2, hl3] at hq_41; done)
                                 | ((first | replace hq_41 := bnt hq_41 | replace hq_41 := bnf hq_41 | replace hq_41 := bt hq_41 | replace hq_41 := bf hq_41 | replace hq_41 := bt' hq_41 | replace hq_41 := bf' hq_41 | skip)
                                    refine al_ro' (ro_move (up_m rfl (u2 rfl (u4 rfl (u8 rfl s11_33))))) ⟨_, rfl, hb_41⟩ rfl ?_
                                    refine al_ro' (ro_eq (ro_len_row up_h rfl k21_sl30.1) (by first | (simp only [lnS] <;> rfl) | rfl)) ⟨_, rfl, (up_m rfl hb_41)⟩ rfl ?_
                                    refine al_ro' (ro_move (up_m rfl (u16 rfl s9_33))) ⟨_, rfl, (u2 rfl hb_41)⟩ rfl ?_
                                    refine al_ro' (ro_eq (ro_len_row up_h rfl k21_sl30.1) (by first | (simp only [lnS] <;> rfl) | rfl)) ⟨_, rfl, (up_m rfl (u2 rfl hb_41))⟩ rfl ?_
                                    refine al_ro' (ro_neq (u2 rfl up_h) up_h) ⟨_, rfl, (u4 rfl hb_41)⟩ rfl ?_
                                    refine al_ro' (ro_pickF (up_m rfl (u4 rfl hb_41)) up_h) trivial rfl ?_
                                    refine al_ro' (ro_move up_h) trivial rfl ?_
                                    refine al_case up_h (fun hb_43 hq_43 => ?_) (fun hb_43 hq_43 => ?_)
                                    · skip
                                      first
                                      | (cases hq_43; done) | ((first | replace hq_43 := bnt hq_43 | replace hq_43 := bnf hq_43 | replace hq_43 := bt hq_43 | replace hq_43 := bf hq_43 | replace hq_43 := bt' hq_43 | replace hq_43 := bf' hq_43 | skip); exfalso; omega) | (simp [hcl, hcl2, hl2, hl3] at hq_43; done)
                                      | ((first | replace hq_43 := bnt hq_43 | replace hq_43 := bnf hq_43 | replace hq_43 := bt hq_43 | replace hq_43 := bf hq_43 | replace hq_43 := bt' hq_43 | replace hq_43 := bf' hq_43 | skip)
                                         refine al_skip' ⟨_, rfl, .inl hb_43⟩ rfl ?_
                                         refine al_skip' ⟨_, rfl, .inl (up_m rfl hb_43)⟩ rfl ?_
                                         refine al_skip' ⟨_, rfl, .inl (u2 rfl hb_43)⟩ rfl ?_
                                         refine al_skip' ⟨_, rfl, .inl (up_m rfl (u2 rfl hb_43))⟩ rfl ?_
                                         refine al_skip' ⟨_, rfl, .inl (u4 rfl hb_43)⟩ rfl ?_
                                         refine al_ro' (ro_pickT (up_m rfl (u4 rfl hb_43)) ev_c) trivial rfl ?_
                                         refine al_end (fun e_44 he_44 => ?_)
                                         have s3_44 := ef 3 he_44 (u4 rfl (u8 rfl (u16 rfl s3_33)))
                                         have s4_44 := ef 4 he_44 (u4 rfl (u8 rfl (u16 rfl s4_33)))
                                         have s5_44 := ef 5 he_44 (u4 rfl (u8 rfl (u16 rfl s5_33)))
                                         have s7_44 := ef 7 he_44 (u4 rfl (u8 rfl (u16 rfl s7_33)))
                                         have s9_44 := ef 9 he_44 (u4 rfl (u8 rfl (u16 rfl s9_33)))
                                         have s11_44 := ef 11 he_44 (u4 rfl (u8 rfl (u16 rfl s11_33)))
                                         have s13_44 := ef 13 he_44 (u4 rfl (u8 rfl (u16 rfl s13_33)))
                                         have s15_44 := ef 15 he_44 (u4 rfl (u8 rfl (u16 rfl s15_33)))
                                         have s133_44 := ef 133 he_44 up_h
                                         clear he_44
                                         refine then_n ⟨(s133_44).trans (by (refine avb ?_; first | (simp only [hl2, hl3, hcl, hcl2]; simp; done) | (simp; omega) | (exfalso; omega))), (s3_44).trans (s3_33).symm, (s4_44).trans (s4_33).symm, (s5_44).trans (s5_33).symm, (s7_44).trans (s7_33).symm, (s9_44).trans (s9_33).symm, (s11_44).trans (s11_33).symm, (s13_44).trans (s13_33).symm, (s15_44).trans (s15_33).symm, rfl⟩)
                                    · skip
                                      first
                                      | (cases hq_43; done) | ((first | replace hq_43 := bnt hq_43 | replace hq_43 := bnf hq_43 | replace hq_43 := bt hq_43 | replace hq_43 := bf hq_43 | replace hq_43 := bt' hq_43 | replace hq_43 := bf' hq_43 | skip); exfalso; omega) | (simp [hcl, hcl2, hl2, hl3] at hq_43; done)
                                      | ((first | replace hq_43 := bnt hq_43 | replace hq_43 := bnf hq_43 | replace hq_43 := bt hq_43 | replace hq_43 := bf hq_43 | replace hq_43 := bt' hq_43 | replace hq_43 := bf' hq_43 | skip)
                                         refine al_ro' (ro_move (u2 rfl (u4 rfl (u16 rfl s15_33)))) ⟨_, rfl, hb_43⟩ rfl ?_
                                         refine al_ro' (ro_eq (ro_len_row up_h rfl k21_sl30.1) (by first | (simp only [lnS] <;> rfl) | rfl)) ⟨_, rfl, (up_m rfl hb_43)⟩ rfl ?_
                                         refine al_ro' (ro_move (u8 rfl (u16 rfl s13_33))) ⟨_, rfl, (u2 rfl hb_43)⟩ rfl ?_
                                         refine al_ro' (ro_eq (ro_len_row up_h rfl k21_sl30.1) (by first | (simp only [lnS] <;> rfl) | rfl)) ⟨_, rfl, (up_m rfl (u2 rfl hb_43))⟩ rfl ?_
                                         refine al_ro' (ro_neq (u2 rfl up_h) up_h) ⟨_, rfl, (u4 rfl hb_43)⟩ rfl ?_
                                         refine al_ro' (ro_pickF (up_m rfl (u4 rfl hb_43)) up_h) trivial rfl ?_
                                         refine al_end (fun e_45 he_45 => ?_)
                                         have s3_45 := ef 3 he_45 (u4 rfl (u8 rfl (u16 rfl s3_33)))
                                         have s4_45 := ef 4 he_45 (u4 rfl (u8 rfl (u16 rfl s4_33)))
                                         have s5_45 := ef 5 he_45 (u4 rfl (u8 rfl (u16 rfl s5_33)))
                                         have s7_45 := ef 7 he_45 (u4 rfl (u8 rfl (u16 rfl s7_33)))
                                         have s9_45 := ef 9 he_45 (u4 rfl (u8 rfl (u16 rfl s9_33)))
                                         have s11_45 := ef 11 he_45 (u4 rfl (u8 rfl (u16 rfl s11_33)))
                                         have s13_45 := ef 13 he_45 (u4 rfl (u8 rfl (u16 rfl s13_33)))
                                         have s15_45 := ef 15 he_45 (u4 rfl (u8 rfl (u16 rfl s15_33)))
                                         have s133_45 := ef 133 he_45 up_h
                                         clear he_45
                                         refine then_n ⟨(s133_45).trans (by (refine avb ?_; first | (simp only [hl2, hl3, hcl, hcl2]; simp; done) | (simp; omega) | (exfalso; omega))), (s3_45).trans (s3_33).symm, (s4_45).trans (s4_33).symm, (s5_45).trans (s5_33).symm, (s7_45).trans (s7_33).symm, (s9_45).trans (s9_33).symm, (s11_45).trans (s11_33).symm, (s13_45).trans (s13_33).symm, (s15_45).trans (s15_33).symm, rfl⟩)))))
              · rintro e_34 _ ⟨s133_34, k3_34, k4_34, k5_34, k7_34, k9_34, k11_34, k13_34, k15_34, rfl⟩
                have s3_34 := k3_34.trans s3_33
                have s4_34 := k4_34.trans s4_33
                have s5_34 := k5_34.trans s5_33
                have s7_34 := k7_34.trans s7_33
                have s9_34 := k9_34.trans s9_33
                have s11_34 := k11_34.trans s11_33
                have s13_34 := k13_34.trans s13_33
                have s15_34 := k15_34.trans s15_33
                refine aw_case s133_34 (fun hq_46 => ?_) (fun hq_46 => ?_)
                · skip
                  first
                  | (cases hq_46; done) | ((first | replace hq_46 := bnt hq_46 | replace hq_46 := bnf hq_46 | replace hq_46 := bt hq_46 | replace hq_46 := bf hq_46 | replace hq_46 := bt' hq_46 | replace hq_46 := bf' hq_46 | skip); exfalso; omega) | (simp [hcl, hcl2, hl2, hl3] at hq_46; done)
                  | ((first | replace hq_46 := bnt hq_46 | replace hq_46 := bnf hq_46 | replace hq_46 := bt hq_46 | replace hq_46 := bf hq_46 | replace hq_46 := bt' hq_46 | replace hq_46 := bf' hq_46 | skip)
                     refine aw_seq ?_
                     refine aw_text ?_
                     refine al_ro' (ro_assign ev_c) trivial rfl ?_
                     refine al_end (fun e_47 he_47 => ?_)
                     have s6_47 := ef 6 he_47 up_h
                     clear he_47 s11_34 s133_34 s13_34 s15_34 s3_34 s4_34 s5_34 s7_34 s9_34
                     refine then_n ?_
                     refine aw_ret ?_
                     refine then_r ?_
                     refine ret1 (.inr rfl) (by kernel_rfl) (resV_tmp s6_47) (.ro _ rfl) ?_
                     clear s6_47 mo4_28 mo3_28 mo2_28 mo1_28 mo0_28 ml_28
                     (first | rfl | (exfalso; omega) | (simp; done) | (have hz := hbr (min 3000 (b + 100)) (by omega) hr.1 hr3.1 hle hr4.1; clear hbr; simp_all; done)))
                · skip
                  first
                  | (cases hq_46; done) | ((first | replace hq_46 := bnt hq_46 | replace hq_46 := bnf hq_46 | replace hq_46 := bt hq_46 | replace hq_46 := bf hq_46 | replace hq_46 := bt' hq_46 | replace hq_46 := bf' hq_46 | skip); exfalso; omega) | (simp [hcl, hcl2, hl2, hl3] at hq_46; done)
                  | ((first | replace hq_46 := bnt hq_46 | replace hq_46 := bnf hq_46 | replace hq_46 := bt hq_46 | replace hq_46 := bf hq_46 | replace hq_46 := bt' hq_46 | replace hq_46 := bf' hq_46 | skip)
                     refine aw_skip ?_
                     refine then_n ?_
                     refine aw_seq ?_
                     refine aw_seq ?_
                     refine aw_text ?_
                     refine al_ro' (ro_assign ev_c) trivial rfl ?_
                     refine al_end (fun e_48 he_48 => ?_)
                     have s3_48 := ef 3 he_48 (up_m rfl s3_34)
                     have s4_48 := ef 4 he_48 (up_m rfl s4_34)
                     have s5_48 := ef 5 he_48 (up_m rfl s5_34)
                     have s7_48 := ef 7 he_48 (up_m rfl s7_34)
                     have s9_48 := ef 9 he_48 (up_m rfl s9_34)
                     have s11_48 := ef 11 he_48 (up_m rfl s11_34)
                     have s13_48 := ef 13 he_48 (up_m rfl s13_34)
                     have s15_48 := ef 15 he_48 (up_m rfl s15_34)
                     have s17_48 := ef 17 he_48 up_h
                     clear he_48 s11_34 s133_34 s13_34 s15_34 s3_34 s4_34 s5_34 s7_34 s9_34
                     refine then_n ?_
                     refine aw_block ?_
                     refine aw_loop (S := Int) (fun i e mem => (evA e (.tmp 17) = .v (.int .i64 i)) ∧ (evA e (.tmp 3) = evA e_48 (.tmp 3)) ∧ (evA e (.tmp 4) = evA e_48 (.tmp 4)) ∧ (evA e (.tmp 5) = evA e_48 (.tmp 5)) ∧ (evA e (.tmp 7) = evA e_48 (.tmp 7)) ∧ (evA e (.tmp 9) = evA e_48 (.tmp 9)) ∧ (evA e (.tmp 11) = evA e_48 (.tmp 11)) ∧ (evA e (.tmp 13) = evA e_48 (.tmp 13)) ∧ (evA e (.tmp 15) = evA e_48 (.tmp 15)) ∧ (mem[4]? = m_28[4]?) ∧ (mem[3]? = m_28[3]?) ∧ (mem[2]? = m_28[2]?) ∧ (mem[1]? = m_28[1]?) ∧ (mem[0]? = m_28[0]?) ∧ (mem.length = 5) ∧ ((0 ≤ i ∧ i ≤ (stop + 1).toNat + 1))) (fun i => ((stop + 1).toNat + 1 - i).toNat) _ ⟨s17_48, rfl, rfl, rfl, rfl, rfl, rfl, rfl, rfl, rfl, rfl, rfl, rfl, rfl, ml_28, ?_⟩ ?_
                     · (exact ⟨by omega, by omega⟩)
                     · rintro i e_49 m_49 ⟨s17_49, k3_49, k4_49, k5_49, k7_49, k9_49, k11_49, k13_49, k15_49, mk4_49, mk3_49, mk2_49, mk1_49, mk0_49, ml_49, hinv⟩
                       have s3_49 := k3_49.trans s3_48
                       have s4_49 := k4_49.trans s4_48
                       have s5_49 := k5_49.trans s5_48
                       have s7_49 := k7_49.trans s7_48
                       have s9_49 := k9_49.trans s9_48
                       have s11_49 := k11_49.trans s11_48
                       have s13_49 := k13_49.trans s13_48
                       have s15_49 := k15_49.trans s15_48
                       have mo4_49 := mk4_49.trans mo4_28
                       have mo3_49 := mk3_49.trans mo3_28
                       have mo2_49 := mk2_49.trans mo2_28
                       have mo1_49 := mk1_49.trans mo1_28
                       have mo0_49 := mk0_49.trans mo0_28
                       (obtain ⟨p1, p2⟩ := hinv)
                       refine aw_seq ?_
                       refine aw_seq ?_
                       refine aw_text ?_
                       refine al_ro' (ro_move s17_49) trivial rfl ?_
                       refine al_ro' (ro_move (up_m rfl s9_49)) trivial rfl ?_
                       refine al_ro' (ro_eq (ro_len_row up_h rfl k21_sl30.1) (by first | (simp only [lnS] <;> rfl) | rfl)) trivial rfl ?_
                       refine al_ro' (ro_lss (u2 rfl up_h) up_h) trivial rfl ?_
                       refine al_end (fun e_50 he_50 => ?_)
                       have s3_50 := ef 3 he_50 (u4 rfl s3_49)
                       have s4_50 := ef 4 he_50 (u4 rfl s4_49)
                       have s5_50 := ef 5 he_50 (u4 rfl s5_49)
                       have s7_50 := ef 7 he_50 (u4 rfl s7_49)
                       have s9_50 := ef 9 he_50 (u4 rfl s9_49)
                       have s11_50 := ef 11 he_50 (u4 rfl s11_49)
                       have s13_50 := ef 13 he_50 (u4 rfl s13_49)
                       have s15_50 := ef 15 he_50 (u4 rfl s15_49)
                       have s17_50 := ef 17 he_50 (u4 rfl s17_49)
                       have s137_50 := ef 137 he_50 up_h
                       clear he_50 s11_49 s13_49 s15_49 s17_49 s3_49 s4_49 s5_49 s7_49 s9_49
                       refine then_n ?_
                       refine aw_case s137_50 (fun hq_51 => ?_) (fun hq_51 => ?_)
                       · skip
                         first
                         | (cases hq_51; done) | ((first | replace hq_51 := bnt hq_51 | replace hq_51 := bnf hq_51 | replace hq_51 := bt hq_51 | replace hq_51 := bf hq_51 | replace hq_51 := bt' hq_51 | replace hq_51 := bf' hq_51 | skip); exfalso; omega) | (simp [hcl, hcl2, hl2, hl3] at hq_51; done)
                         | ((first | replace hq_51 := bnt hq_51 | replace hq_51 := bnf hq_51 | replace hq_51 := bt hq_51 | replace hq_51 := bf hq_51 | replace hq_51 := bt' hq_51 | replace hq_51 := bf' hq_51 | skip)
                            refine aw_skip ?_
                            refine then_n ?_
                            refine aw_seq ?_
                            refine aw_block ?_
                            refine aw_seq ?_
                            refine aw_draw 9 (by kernel_rfl) (by kernel_rfl) (by kernel_rfl) ?_
                            refine ds_ro' (ro_move s11_50) trivial rfl ?_
                            refine ds_ro' (ro_move (up_m rfl s17_50)) trivial rfl ?_
                            refine ds_ro' (ro_eq (ro_ix k21_sl30 (up_m rfl up_h) up_h (by first | decide | omega | (simp <;> omega)) (by first | (refine idx_map ?_; first | omega | (simp only [lnS]; omega)) | (refine idx_mapI ?_; first | omega | (simp only [lnS]; omega)) | (refine idx_mapN ?_; first | omega | (simp only [lnS]; omega)) | rfl)) (by first | (simp only [packA_t, packA_f, iE, bE, setAt, cellsA, Value.cells, map_vc, map_vn, Nat.reduceAdd, qS] <;> rfl) | rfl)) trivial rfl ?_
                            refine ds_ro' (ro_eq (ro_ld_ref k21_ty3 rfl up_h (by first | exact Nat.le_of_ble_eq_true rfl | omega | (simp only [lnS] <;> omega) | (simp <;> omega))) (by first | (simp only [packA_t, packA_f, iE, bE, setAt, cellsA, Value.cells, map_vc, map_vn, Nat.reduceAdd, qS] <;> rfl) | rfl)) trivial rfl ?_
                            refine ds_ro' (ro_move (u4 rfl s9_50)) trivial rfl ?_
                            refine ds_ro' (ro_move (up_m rfl (u4 rfl s17_50))) trivial rfl ?_
                            refine ds_ro' (ro_eq (ro_ix k21_sl30 (up_m rfl up_h) up_h (by first | decide | omega | (simp <;> omega)) (by first | (refine idx_map ?_; first | omega | (simp only [lnS]; omega)) | (refine idx_mapI ?_; first | omega | (simp only [lnS]; omega)) | (refine idx_mapN ?_; first | omega | (simp only [lnS]; omega)) | rfl)) (by first | (simp only [packA_t, packA_f, iE, bE, setAt, cellsA, Value.cells, map_vc, map_vn, Nat.reduceAdd, qS] <;> rfl) | rfl)) trivial rfl ?_
                            refine ds_ro' (ro_eq (ro_ld_ref k21_ty3 rfl up_h (by first | exact Nat.le_of_ble_eq_true rfl | omega | (simp only [lnS] <;> omega) | (simp <;> omega))) (by first | (simp only [packA_t, packA_f, iE, bE, setAt, cellsA, Value.cells, map_vc, map_vn, Nat.reduceAdd, qS] <;> rfl) | rfl)) trivial rfl ?_
                            refine ds_ro' (ro_lss (u4 rfl up_h) up_h) trivial rfl ?_
                            refine ds_nil ?_
                            refine al_end (fun e_52 he_52 => ?_)
                            have s3_52 := ef 3 he_52 (up_m rfl (u8 rfl s3_50))
                            have s4_52 := ef 4 he_52 (up_m rfl (u8 rfl s4_50))
                            have s5_52 := ef 5 he_52 (up_m rfl (u8 rfl s5_50))
                            have s7_52 := ef 7 he_52 (up_m rfl (u8 rfl s7_50))
                            have s9_52 := ef 9 he_52 (up_m rfl (u8 rfl s9_50))
                            have s11_52 := ef 11 he_52 (up_m rfl (u8 rfl s11_50))
                            have s13_52 := ef 13 he_52 (up_m rfl (u8 rfl s13_50))
                            have s15_52 := ef 15 he_52 (up_m rfl (u8 rfl s15_50))
                            have s17_52 := ef 17 he_52 (up_m rfl (u8 rfl s17_50))
                            have s148_52 := ef 148 he_52 up_h
                            clear he_52 s11_50 s137_50 s13_50 s15_50 s17_50 s3_50 s4_50 s5_50 s7_50 s9_50
                            refine then_n ?_
                            refine aw_case s148_52 (fun hq_53 => ?_) (fun hq_53 => ?_)
                            · skip
                              first
                              | (cases hq_53; done) | ((first | replace hq_53 := bnt hq_53 | replace hq_53 := bnf hq_53 | replace hq_53 := bt hq_53 | replace hq_53 := bf hq_53 | replace hq_53 := bt' hq_53 | replace hq_53 := bf' hq_53 | skip); exfalso; omega) | (simp [hcl, hcl2, hl2, hl3] at hq_53; done)
                              | ((first | replace hq_53 := bnt hq_53 | replace hq_53 := bnf hq_53 | replace hq_53 := bt hq_53 | replace hq_53 := bf hq_53 | replace hq_53 := bt' hq_53 | replace hq_53 := bf' hq_53 | skip)
                                 (have hm := cu_mono hr.1.1 (b := b) (b' := min 3000 (b + 100)) (stop := stop) (by omega) (j := i.toNat) (by omega); unfold cuA at hm)
                                 refine aw_seq ?_
                                 refine aw_text ?_
                                 refine al_ro' (ro_assign ev_c) trivial rfl ?_
                                 refine al_end (fun e_54 he_54 => ?_)
                                 have s6_54 := ef 6 he_54 up_h
                                 clear he_54 s11_52 s13_52 s148_52 s15_52 s17_52 s3_52 s4_52 s5_52 s7_52 s9_52
                                 refine then_n ?_
                                 refine aw_ret ?_
                                 refine block_r ?_
                                 refine then_r ?_
                                 refine then_r ?_
                                 refine block_r ?_
                                 refine then_r ?_
                                 refine ret1 (.inr rfl) (by kernel_rfl) (resV_tmp s6_54) (.ro _ rfl) ?_
                                 clear s6_54 mo4_49 mo3_49 mo2_49 mo1_49 mo0_49 ml_49
                                 (first | rfl | (exfalso; omega) | (simp; done) | (have hz := hbr (min 3000 (b + 100)) (by omega) hr.1 hr3.1 hle hr4.1; clear hbr; simp_all; done)))
                            · skip
                              first
                              | (cases hq_53; done) | ((first | replace hq_53 := bnt hq_53 | replace hq_53 := bnf hq_53 | replace hq_53 := bt hq_53 | replace hq_53 := bf hq_53 | replace hq_53 := bt' hq_53 | replace hq_53 := bf' hq_53 | skip); exfalso; omega) | (simp [hcl, hcl2, hl2, hl3] at hq_53; done)
                              | ((first | replace hq_53 := bnt hq_53 | replace hq_53 := bnf hq_53 | replace hq_53 := bt hq_53 | replace hq_53 := bf hq_53 | replace hq_53 := bt' hq_53 | replace hq_53 := bf' hq_53 | skip)
                                 refine aw_skip ?_
                                 refine block_n ?_
                                 refine then_n ?_
                                 refine aw_text ?_
                                 refine al_ro' (ro_move s17_52) trivial rfl ?_
                                 first | (refine al_ro' (ro_add' up_h ev_c ?_) trivial rfl ?_; · (unfold In64; omega)) | refine al_ro' (ro_add up_h ev_c) trivial rfl ?_
                                 refine al_ro' (ro_assign up_h) trivial rfl ?_
                                 refine al_end (fun e_55 he_55 => ?_)
                                 have s3_55 := ef 3 he_55 (up_m rfl (u2 rfl s3_52))
                                 have s4_55 := ef 4 he_55 (up_m rfl (u2 rfl s4_52))
                                 have s5_55 := ef 5 he_55 (up_m rfl (u2 rfl s5_52))
                                 have s7_55 := ef 7 he_55 (up_m rfl (u2 rfl s7_52))
                                 have s9_55 := ef 9 he_55 (up_m rfl (u2 rfl s9_52))
                                 have s11_55 := ef 11 he_55 (up_m rfl (u2 rfl s11_52))
                                 have s13_55 := ef 13 he_55 (up_m rfl (u2 rfl s13_52))
                                 have s15_55 := ef 15 he_55 (up_m rfl (u2 rfl s15_52))
                                 have s17_55 := ef 17 he_55 up_h
                                 clear he_55 s11_52 s13_52 s148_52 s15_52 s17_52 s3_52 s4_52 s5_52 s7_52 s9_52
                                 refine then_n ?_
                                 refine ⟨_, ⟨s17_55, (s3_55.trans s3_48.symm), (s4_55.trans s4_48.symm), (s5_55.trans s5_48.symm), (s7_55.trans s7_48.symm), (s9_55.trans s9_48.symm), (s11_55.trans s11_48.symm), (s13_55.trans s13_48.symm), (s15_55.trans s15_48.symm), (mo4_49.trans mo4_28.symm), (mo3_49.trans mo3_28.symm), (mo2_49.trans mo2_28.symm), (mo1_49.trans mo1_28.symm), (mo0_49.trans mo0_28.symm), ml_49, ?_⟩, ?_⟩
                                 · (exact ⟨by omega, by omega⟩)
                                 · ((try dsimp only); omega)))
                       · skip
                         first
                         | (cases hq_51; done) | ((first | replace hq_51 := bnt hq_51 | replace hq_51 := bnf hq_51 | replace hq_51 := bt hq_51 | replace hq_51 := bf hq_51 | replace hq_51 := bt' hq_51 | replace hq_51 := bf' hq_51 | skip); exfalso; omega) | (simp [hcl, hcl2, hl2, hl3] at hq_51; done)
                         | ((first | replace hq_51 := bnt hq_51 | replace hq_51 := bnf hq_51 | replace hq_51 := bt hq_51 | replace hq_51 := bf hq_51 | replace hq_51 := bt' hq_51 | replace hq_51 := bf' hq_51 | skip)
                            refine aw_exit ?_
                            refine then_x ?_
                            refine then_x ?_
                            refine block_hit ?_
                            refine then_n ?_
                            refine aw_seq ?_
                            refine aw_seq ?_
                            refine aw_text ?_
                            refine al_ro' (ro_assign ev_c) trivial rfl ?_
                            refine al_end (fun e_56 he_56 => ?_)
                            have s3_56 := ef 3 he_56 (up_m rfl s3_50)
                            have s4_56 := ef 4 he_56 (up_m rfl s4_50)
                            have s5_56 := ef 5 he_56 (up_m rfl s5_50)
                            have s7_56 := ef 7 he_56 (up_m rfl s7_50)
                            have s13_56 := ef 13 he_56 (up_m rfl s13_50)
                            have s15_56 := ef 15 he_56 (up_m rfl s15_50)
                            have s18_56 := ef 18 he_56 up_h
                            clear he_56 s11_50 s137_50 s13_50 s15_50 s17_50 s3_50 s4_50 s5_50 s7_50 s9_50
                            refine then_n ?_
                            refine aw_block ?_
                            refine aw_loop (S := Int) (fun i e mem => (evA e (.tmp 18) = .v (.int .i64 i)) ∧ (evA e (.tmp 3) = evA e_56 (.tmp 3)) ∧ (evA e (.tmp 4) = evA e_56 (.tmp 4)) ∧ (evA e (.tmp 5) = evA e_56 (.tmp 5)) ∧ (evA e (.tmp 7) = evA e_56 (.tmp 7)) ∧ (evA e (.tmp 13) = evA e_56 (.tmp 13)) ∧ (evA e (.tmp 15) = evA e_56 (.tmp 15)) ∧ (mem[4]? = m_49[4]?) ∧ (mem[3]? = m_49[3]?) ∧ (mem[2]? = m_49[2]?) ∧ (mem[1]? = m_49[1]?) ∧ (mem[0]? = m_49[0]?) ∧ (mem.length = 5) ∧ ((0 ≤ i ∧ i ≤ stop.toNat + 1))) (fun i => (stop.toNat + 1 - i).toNat) _ ⟨s18_56, rfl, rfl, rfl, rfl, rfl, rfl, rfl, rfl, rfl, rfl, rfl, ml_49, ?_⟩ ?_
                            · (exact ⟨by omega, by omega⟩)
                            · rintro i e_57 m_57 ⟨s18_57, k3_57, k4_57, k5_57, k7_57, k13_57, k15_57, mk4_57, mk3_57, mk2_57, mk1_57, mk0_57, ml_57, hinv⟩
                              have s3_57 := k3_57.trans s3_56
                              have s4_57 := k4_57.trans s4_56
                              have s5_57 := k5_57.trans s5_56
                              have s7_57 := k7_57.trans s7_56
                              have s13_57 := k13_57.trans s13_56
                              have s15_57 := k15_57.trans s15_56
                              have mo4_57 := mk4_57.trans mo4_49
                              have mo3_57 := mk3_57.trans mo3_49
                              have mo2_57 := mk2_57.trans mo2_49
                              have mo1_57 := mk1_57.trans mo1_49
                              have mo0_57 := mk0_57.trans mo0_49
                              (obtain ⟨p1, p2⟩ := hinv)
                              refine aw_seq ?_
                              refine aw_seq ?_
                              refine aw_text ?_
                              refine al_ro' (ro_move s18_57) trivial rfl ?_
                              refine al_ro' (ro_move (up_m rfl s13_57)) trivial rfl ?_
                              refine al_ro' (ro_eq (ro_len_row up_h rfl k21_sl30.1) (by first | (simp only [lnS] <;> rfl) | rfl)) trivial rfl ?_
                              refine al_ro' (ro_lss (u2 rfl up_h) up_h) trivial rfl ?_
                              refine al_end (fun e_58 he_58 => ?_)
                              have s3_58 := ef 3 he_58 (u4 rfl s3_57)
                              have s4_58 := ef 4 he_58 (u4 rfl s4_57)
                              have s5_58 := ef 5 he_58 (u4 rfl s5_57)
                              have s7_58 := ef 7 he_58 (u4 rfl s7_57)
                              have s13_58 := ef 13 he_58 (u4 rfl s13_57)
                              have s15_58 := ef 15 he_58 (u4 rfl s15_57)
                              have s18_58 := ef 18 he_58 (u4 rfl s18_57)
                              have s152_58 := ef 152 he_58 up_h
                              clear he_58 s13_57 s15_57 s18_57 s3_57 s4_57 s5_57 s7_57
                              refine then_n ?_
                              refine aw_case s152_58 (fun hq_59 => ?_) (fun hq_59 => ?_)
                              · skip
                                first
                                | (cases hq_59; done) | ((first | replace hq_59 := bnt hq_59 | replace hq_59 := bnf hq_59 | replace hq_59 := bt hq_59 | replace hq_59 := bf hq_59 | replace hq_59 := bt' hq_59 | replace hq_59 := bf' hq_59 | skip); exfalso; omega) | (simp [hcl, hcl2, hl2, hl3] at hq_59; done)
                                | ((first | replace hq_59 := bnt hq_59 | replace hq_59 := bnf hq_59 | replace hq_59 := bt hq_59 | replace hq_59 := bf hq_59 | replace hq_59 := bt' hq_59 | replace hq_59 := bf' hq_59 | skip)
                                   refine aw_skip ?_
                                   refine then_n ?_
                                   refine aw_seq ?_
                                   refine aw_block ?_
                                   refine aw_seq ?_
                                   refine aw_draw 9 (by kernel_rfl) (by kernel_rfl) (by kernel_rfl) ?_
                                   refine ds_ro' (ro_move s15_58) trivial rfl ?_
                                   refine ds_ro' (ro_move (up_m rfl s18_58)) trivial rfl ?_
                                   refine ds_ro' (ro_eq (ro_ix k21_sl30 (up_m rfl up_h) up_h (by first | decide | omega | (simp <;> omega)) (by first | (refine idx_map ?_; first | omega | (simp only [lnS]; omega)) | (refine idx_mapI ?_; first | omega | (simp only [lnS]; omega)) | (refine idx_mapN ?_; first | omega | (simp only [lnS]; omega)) | rfl)) (by first | (simp only [packA_t, packA_f, iE, bE, setAt, cellsA, Value.cells, map_vc, map_vn, Nat.reduceAdd, qS] <;> rfl) | rfl)) trivial rfl ?_
                                   refine ds_ro' (ro_eq (ro_ld_ref k21_ty3 rfl up_h (by first | exact Nat.le_of_ble_eq_true rfl | omega | (simp only [lnS] <;> omega) | (simp <;> omega))) (by first | (simp only [packA_t, packA_f, iE, bE, setAt, cellsA, Value.cells, map_vc, map_vn, Nat.reduceAdd, qS] <;> rfl) | rfl)) trivial rfl ?_
                                   refine ds_ro' (ro_move (u4 rfl s13_58)) trivial rfl ?_
                                   refine ds_ro' (ro_move (up_m rfl (u4 rfl s18_58))) trivial rfl ?_
                                   refine ds_ro' (ro_eq (ro_ix k21_sl30 (up_m rfl up_h) up_h (by first | decide | omega | (simp <;> omega)) (by first | (refine idx_map ?_; first | omega | (simp only [lnS]; omega)) | (refine idx_mapI ?_; first | omega | (simp only [lnS]; omega)) | (refine idx_mapN ?_; first | omega | (simp only [lnS]; omega)) | rfl)) (by first | (simp only [packA_t, packA_f, iE, bE, setAt, cellsA, Value.cells, map_vc, map_vn, Nat.reduceAdd, qS] <;> rfl) | rfl)) trivial rfl ?_
                                   refine ds_ro' (ro_eq (ro_ld_ref k21_ty3 rfl up_h (by first | exact Nat.le_of_ble_eq_true rfl | omega | (simp only [lnS] <;> omega) | (simp <;> omega))) (by first | (simp only [packA_t, packA_f, iE, bE, setAt, cellsA, Value.cells, map_vc, map_vn, Nat.reduceAdd, qS] <;> rfl) | rfl)) trivial rfl ?_
                                   refine ds_ro' (ro_lss (u4 rfl up_h) up_h) trivial rfl ?_
                                   refine ds_nil ?_
                                   refine al_end (fun e_60 he_60 => ?_)
                                   have s3_60 := ef 3 he_60 (up_m rfl (u8 rfl s3_58))
                                   have s4_60 := ef 4 he_60 (up_m rfl (u8 rfl s4_58))
                                   have s5_60 := ef 5 he_60 (up_m rfl (u8 rfl s5_58))
                                   have s7_60 := ef 7 he_60 (up_m rfl (u8 rfl s7_58))
                                   have s13_60 := ef 13 he_60 (up_m rfl (u8 rfl s13_58))
                                   have s15_60 := ef 15 he_60 (up_m rfl (u8 rfl s15_58))
                                   have s18_60 := ef 18 he_60 (up_m rfl (u8 rfl s18_58))
                                   have s163_60 := ef 163 he_60 up_h
                                   clear he_60 s13_58 s152_58 s15_58 s18_58 s3_58 s4_58 s5_58 s7_58
                                   refine then_n ?_
                                   refine aw_case s163_60 (fun hq_61 => ?_) (fun hq_61 => ?_)
                                   · skip
                                     first
                                     | (cases hq_61; done) | ((first | replace hq_61 := bnt hq_61 | replace hq_61 := bnf hq_61 | replace hq_61 := bt hq_61 | replace hq_61 := bf hq_61 | replace hq_61 := bt' hq_61 | replace hq_61 := bf' hq_61 | skip); exfalso; omega) | (simp [hcl, hcl2, hl2, hl3] at hq_61; done)
                                     | ((first | replace hq_61 := bnt hq_61 | replace hq_61 := bnf hq_61 | replace hq_61 := bt hq_61 | replace hq_61 := bf hq_61 | replace hq_61 := bt' hq_61 | replace hq_61 := bf' hq_61 | skip)
                                        (have hm := lea_mono hr.1.1 (d := d) (d' := min (min 500 b) (d + 10)) (stop := stop) (by omega) (j := i.toNat) (by omega); unfold leA at hm)
                                        refine aw_seq ?_
                                        refine aw_text ?_
                                        refine al_ro' (ro_assign ev_c) trivial rfl ?_
                                        refine al_end (fun e_62 he_62 => ?_)
                                        have s6_62 := ef 6 he_62 up_h
                                        clear he_62 s13_60 s15_60 s163_60 s18_60 s3_60 s4_60 s5_60 s7_60
                                        refine then_n ?_
                                        refine aw_ret ?_
                                        refine block_r ?_
                                        refine then_r ?_
                                        refine then_r ?_
                                        refine block_r ?_
                                        refine then_r ?_
                                        refine ret1 (.inr rfl) (by kernel_rfl) (resV_tmp s6_62) (.ro _ rfl) ?_
                                        clear s6_62 mo4_57 mo3_57 mo2_57 mo1_57 mo0_57 ml_57
                                        (first | rfl | (exfalso; omega) | (simp; done) | (have hz := hbr (min 3000 (b + 100)) (by omega) hr.1 hr3.1 hle hr4.1; clear hbr; simp_all; done)))
                                   · skip
                                     first
                                     | (cases hq_61; done) | ((first | replace hq_61 := bnt hq_61 | replace hq_61 := bnf hq_61 | replace hq_61 := bt hq_61 | replace hq_61 := bf hq_61 | replace hq_61 := bt' hq_61 | replace hq_61 := bf' hq_61 | skip); exfalso; omega) | (simp [hcl, hcl2, hl2, hl3] at hq_61; done)
                                     | ((first | replace hq_61 := bnt hq_61 | replace hq_61 := bnf hq_61 | replace hq_61 := bt hq_61 | replace hq_61 := bf hq_61 | replace hq_61 := bt' hq_61 | replace hq_61 := bf' hq_61 | skip)
                                        refine aw_skip ?_
                                        refine block_n ?_
                                        refine then_n ?_
                                        refine aw_text ?_
                                        refine al_ro' (ro_move s18_60) trivial rfl ?_
                                        first | (refine al_ro' (ro_add' up_h ev_c ?_) trivial rfl ?_; · (unfold In64; omega)) | refine al_ro' (ro_add up_h ev_c) trivial rfl ?_
                                        refine al_ro' (ro_assign up_h) trivial rfl ?_
                                        refine al_end (fun e_63 he_63 => ?_)
                                        have s3_63 := ef 3 he_63 (up_m rfl (u2 rfl s3_60))
                                        have s4_63 := ef 4 he_63 (up_m rfl (u2 rfl s4_60))
                                        have s5_63 := ef 5 he_63 (up_m rfl (u2 rfl s5_60))
                                        have s7_63 := ef 7 he_63 (up_m rfl (u2 rfl s7_60))
                                        have s13_63 := ef 13 he_63 (up_m rfl (u2 rfl s13_60))
                                        have s15_63 := ef 15 he_63 (up_m rfl (u2 rfl s15_60))
                                        have s18_63 := ef 18 he_63 up_h
                                        clear he_63 s13_60 s15_60 s163_60 s18_60 s3_60 s4_60 s5_60 s7_60
                                        refine then_n ?_
                                        refine ⟨_, ⟨s18_63, (s3_63.trans s3_56.symm), (s4_63.trans s4_56.symm), (s5_63.trans s5_56.symm), (s7_63.trans s7_56.symm), (s13_63.trans s13_56.symm), (s15_63.trans s15_56.symm), (mo4_57.trans mo4_49.symm), (mo3_57.trans mo3_49.symm), (mo2_57.trans mo2_49.symm), (mo1_57.trans mo1_49.symm), (mo0_57.trans mo0_49.symm), ml_57, ?_⟩, ?_⟩
                                        · (exact ⟨by omega, by omega⟩)
                                        · ((try dsimp only); omega)))
                              · skip
                                first
                                | (cases hq_59; done) | ((first | replace hq_59 := bnt hq_59 | replace hq_59 := bnf hq_59 | replace hq_59 := bt hq_59 | replace hq_59 := bf hq_59 | replace hq_59 := bt' hq_59 | replace hq_59 := bf' hq_59 | skip); exfalso; omega) | (simp [hcl, hcl2, hl2, hl3] at hq_59; done)
                                | ((first | replace hq_59 := bnt hq_59 | replace hq_59 := bnf hq_59 | replace hq_59 := bt hq_59 | replace hq_59 := bf hq_59 | replace hq_59 := bt' hq_59 | replace hq_59 := bf' hq_59 | skip)
                                   refine aw_exit ?_
                                   refine then_x ?_
                                   refine then_x ?_
                                   refine block_hit ?_
                                   refine then_n ?_
                                   refine aw_seq ?_
                                   refine aw_draw 13 (by kernel_rfl) (by kernel_rfl) (by kernel_rfl) ?_
                                   refine ds_ro' (ro_eq (ro_ld_ptr k21_ty24 rfl mo0_57 s3_58 (by first | exact Nat.le_of_ble_eq_true rfl | omega | (simp only [lnS] <;> omega) | (simp <;> omega))) (by first | (simp only [packA_t, packA_f, iE, bE, setAt, cellsA, Value.cells, map_vc, map_vn, Nat.reduceAdd, qS] <;> rfl) | rfl)) trivial rfl ?_
                                   refine ds_ro' (ro_call (evL_cons up_h evL_nil) rfl (rCopy_ok nm ps (by omega)) k21_hcf18) trivial rfl ?_
                                   refine ds_ro' (ro_eq (ro_ld_ptr k21_ty26 rfl mo1_57 (u2 rfl s4_58) (by first | exact Nat.le_of_ble_eq_true rfl | omega | (simp only [lnS] <;> omega) | (simp <;> omega))) (by first | (simp only [packA_t, packA_f, iE, bE, setAt, cellsA, Value.cells, map_vc, map_vn, Nat.reduceAdd, qS] <;> rfl) | rfl)) trivial rfl ?_
                                   refine ds_ro' (ro_fld_ptr k21_fl44_0 rfl (up_m rfl (u2 rfl s5_58))) trivial rfl ?_
                                   refine ds_ro' (ro_eq (ro_ld_ptr k21_ty42 rfl mo2_57 up_h (by first | exact Nat.le_of_ble_eq_true rfl | omega | (simp only [lnS] <;> omega) | (simp <;> omega))) (by first | (simp only [packA_t, packA_f, iE, bE, setAt, cellsA, Value.cells, map_vc, map_vn, Nat.reduceAdd, qS] <;> rfl) | rfl)) trivial rfl ?_
                                   refine ds_ro' (ro_fld_ptr k21_fl44_1 rfl (up_m rfl (u4 rfl s5_58))) trivial rfl ?_
                                   refine ds_ro' (ro_eq (ro_ld_ptr k21_ty3 rfl mo2_57 up_h (by first | exact Nat.le_of_ble_eq_true rfl | omega | (simp only [lnS] <;> omega) | (simp <;> omega))) (by first | (simp only [packA_t, packA_f, iE, bE, setAt, cellsA, Value.cells, map_vc, map_vn, Nat.reduceAdd, qS] <;> rfl) | rfl)) trivial rfl ?_
                                   refine ds_ro' (ro_call (evL_cons (up_m rfl (u4 rfl up_h)) (evL_cons (u4 rfl up_h) (evL_cons (u2 rfl up_h) (evL_cons up_h evL_nil)))) rfl (reaches3_ok hs hp hR.1) k21_hcf23) trivial rfl ?_
                                   refine ds_ro' (ro_move up_h) trivial rfl ?_
                                   refine ds_ro' (ro_extract up_h rfl) trivial rfl ?_
                                   refine ds_ro' (ro_extract (up_m rfl up_h) rfl) trivial rfl ?_
                                   refine ds_ro' (ro_assign (up_m rfl up_h)) trivial rfl ?_
                                   refine ds_ro' (ro_assign (up_m rfl up_h)) trivial rfl ?_
                                   refine ds_nil ?_
                                   refine al_end (fun e_64 he_64 => ?_)
                                   have s3_64 := ef 3 he_64 (up_m rfl (u4 rfl (u8 rfl s3_58)))
                                   have s5_64 := ef 5 he_64 (up_m rfl (u4 rfl (u8 rfl s5_58)))
                                   have s7_64 := ef 7 he_64 (up_m rfl (u4 rfl (u8 rfl s7_58)))
                                   have s19_64 := ef 19 he_64 (up_m rfl up_h)
                                   have s20_64 := ef 20 he_64 up_h
                                   clear he_64 s13_58 s152_58 s15_58 s18_58 s3_58 s4_58 s5_58 s7_58
                                   refine then_n ?_
                                   refine aw_seq ?_
                                   refine aw_draw 13 (by kernel_rfl) (by kernel_rfl) (by kernel_rfl) ?_
                                   refine ds_ro' (ro_eq (ro_ld_ptr k21_ty24 rfl mo0_57 s3_64 (by first | exact Nat.le_of_ble_eq_true rfl | omega | (simp only [lnS] <;> omega) | (simp <;> omega))) (by first | (simp only [packA_t, packA_f, iE, bE, setAt, cellsA, Value.cells, map_vc, map_vn, Nat.reduceAdd, qS] <;> rfl) | rfl)) trivial rfl ?_
                                   refine ds_ro' (ro_call (evL_cons up_h evL_nil) rfl (rCopy_ok nm ps (by omega)) k21_hcf18) trivial rfl ?_
                                   refine ds_ro' (ro_eq (ro_ld_ptr k21_ty26 rfl mo3_57 (u2 rfl s7_64) (by first | exact Nat.le_of_ble_eq_true rfl | omega | (simp only [lnS] <;> omega) | (simp <;> omega))) (by first | (simp only [packA_t, packA_f, iE, bE, setAt, cellsA, Value.cells, map_vc, map_vn, Nat.reduceAdd, qS] <;> rfl) | rfl)) trivial rfl ?_
                                   refine ds_ro' (ro_fld_ptr k21_fl44_0 rfl (up_m rfl (u2 rfl s5_64))) trivial rfl ?_
                                   refine ds_ro' (ro_eq (ro_ld_ptr k21_ty42 rfl mo2_57 up_h (by first | exact Nat.le_of_ble_eq_true rfl | omega | (simp only [lnS] <;> omega) | (simp <;> omega))) (by first | (simp only [packA_t, packA_f, iE, bE, setAt, cellsA, Value.cells, map_vc, map_vn, Nat.reduceAdd, qS] <;> rfl) | rfl)) trivial rfl ?_
                                   refine ds_ro' (ro_fld_ptr k21_fl44_1 rfl (up_m rfl (u4 rfl s5_64))) trivial rfl ?_
                                   refine ds_ro' (ro_eq (ro_ld_ptr k21_ty3 rfl mo2_57 up_h (by first | exact Nat.le_of_ble_eq_true rfl | omega | (simp only [lnS] <;> omega) | (simp <;> omega))) (by first | (simp only [packA_t, packA_f, iE, bE, setAt, cellsA, Value.cells, map_vc, map_vn, Nat.reduceAdd, qS] <;> rfl) | rfl)) trivial rfl ?_
                                   refine ds_ro' (ro_call (evL_cons (up_m rfl (u4 rfl up_h)) (evL_cons (u4 rfl up_h) (evL_cons (u2 rfl up_h) (evL_cons up_h evL_nil)))) rfl (reaches3_ok hs hp (runE_other hR.1 hB1)) k21_hcf23) trivial rfl ?_
                                   refine ds_ro' (ro_move up_h) trivial rfl ?_
                                   refine ds_ro' (ro_extract up_h rfl) trivial rfl ?_
                                   refine ds_ro' (ro_extract (up_m rfl up_h) rfl) trivial rfl ?_
                                   refine ds_ro' (ro_assign (up_m rfl up_h)) trivial rfl ?_
                                   refine ds_ro' (ro_assign (up_m rfl up_h)) trivial rfl ?_
                                   refine ds_nil ?_
                                   refine al_end (fun e_65 he_65 => ?_)
                                   have s19_65 := ef 19 he_65 (up_m rfl (u4 rfl (u8 rfl s19_64)))
                                   have s20_65 := ef 20 he_65 (up_m rfl (u4 rfl (u8 rfl s20_64)))
                                   have s21_65 := ef 21 he_65 (up_m rfl up_h)
                                   have s22_65 := ef 22 he_65 up_h
                                   clear he_65 s19_64 s20_64 s3_64 s5_64 s7_64
                                   refine then_n ?_
                                   refine aw_seq ?_
                                   refine aw_text ?_
                                   refine al_ro' (ro_move s20_65) trivial rfl ?_
                                   refine al_ro' (ro_eql up_h ev_c) trivial rfl ?_
                                   refine al_ro' (ro_move up_h) trivial rfl ?_
                                   refine al_case up_h (fun hb_66 hq_66 => ?_) (fun hb_66 hq_66 => ?_)
                                   · skip
                                     first
                                     | (cases hq_66; done) | ((first | replace hq_66 := bnt hq_66 | replace hq_66 := bnf hq_66 | replace hq_66 := bt hq_66 | replace hq_66 := bf hq_66 | replace hq_66 := bt' hq_66 | replace hq_66 := bf' hq_66 | skip); exfalso; omega) | (simp [hcl, hcl2, hl2, hl3] at hq_66; done)
                                     | ((first | replace hq_66 := bnt hq_66 | replace hq_66 := bnf hq_66 | replace hq_66 := bt hq_66 | replace hq_66 := bf hq_66 | replace hq_66 := bt' hq_66 | replace hq_66 := bf' hq_66 | skip)
                                        refine al_ro' (ro_move (up_m rfl (u2 rfl s22_65))) ⟨_, rfl, hb_66⟩ rfl ?_
                                        refine al_ro' (ro_eql up_h ev_c) ⟨_, rfl, (up_m rfl hb_66)⟩ rfl ?_
                                        refine al_ro' (ro_pickT (u2 rfl hb_66) up_h) trivial rfl ?_
                                        refine al_ro' (ro_move up_h) trivial rfl ?_
                                        refine al_case up_h (fun hb_67 hq_67 => ?_) (fun hb_67 hq_67 => ?_)
                                        · skip
                                          first
                                          | (cases hq_67; done) | ((first | replace hq_67 := bnt hq_67 | replace hq_67 := bnf hq_67 | replace hq_67 := bt hq_67 | replace hq_67 := bf hq_67 | replace hq_67 := bt' hq_67 | replace hq_67 := bf' hq_67 | skip); exfalso; omega) | (simp [hcl, hcl2, hl2, hl3] at hq_67; done)
                                          | ((first | replace hq_67 := bnt hq_67 | replace hq_67 := bnf hq_67 | replace hq_67 := bt hq_67 | replace hq_67 := bf hq_67 | replace hq_67 := bt' hq_67 | replace hq_67 := bf' hq_67 | skip)
                                             refine al_ro' (ro_move (up_m rfl (u2 rfl (u4 rfl s19_65)))) ⟨_, rfl, hb_67⟩ rfl ?_
                                             refine al_ro' (ro_not up_h) ⟨_, rfl, (up_m rfl hb_67)⟩ rfl ?_
                                             refine al_ro' (ro_move up_h) ⟨_, rfl, (u2 rfl hb_67)⟩ rfl ?_
                                             refine al_case up_h (fun hb_68 hq_68 => ?_) (fun hb_68 hq_68 => ?_)
                                             · skip
                                               first
                                               | (cases hq_68; done) | ((first | replace hq_68 := bnt hq_68 | replace hq_68 := bnf hq_68 | replace hq_68 := bt hq_68 | replace hq_68 := bf hq_68 | replace hq_68 := bt' hq_68 | replace hq_68 := bf' hq_68 | skip); exfalso; omega) | (simp [hcl, hcl2, hl2, hl3] at hq_68; done)
                                               | ((first | replace hq_68 := bnt hq_68 | replace hq_68 := bnf hq_68 | replace hq_68 := bt hq_68 | replace hq_68 := bf hq_68 | replace hq_68 := bt' hq_68 | replace hq_68 := bf' hq_68 | skip)
                                                  refine al_skip' ⟨_, rfl, .inl hb_68⟩ rfl ?_
                                                  refine al_ro' (ro_pickT (up_m rfl hb_68) ev_c) ⟨_, rfl, (u4 rfl hb_67)⟩ rfl ?_
                                                  refine al_ro' (ro_pickT (up_m rfl (u4 rfl hb_67)) up_h) trivial rfl ?_
                                                  refine al_ro' (ro_assign up_h) trivial rfl ?_
                                                  refine al_end (fun e_69 he_69 => ?_)
                                                  have s6_69 := ef 6 he_69 up_h
                                                  clear he_69 hb_66 hb_67 hb_68 s19_65 s20_65 s21_65 s22_65
                                                  refine then_n ?_
                                                  refine aw_ret ?_
                                                  refine ret1 (.inr rfl) (by kernel_rfl) (resV_tmp s6_69) (.ro _ rfl) ?_
                                                  clear s6_69 mo4_57 mo3_57 mo2_57 mo1_57 mo0_57 ml_57
                                                  (first | rfl | (exfalso; omega) | (simp; done) | (have hz := hbr (min 3000 (b + 100)) (by omega) hr.1 hr3.1 hle hr4.1; clear hbr; simp_all; done)))
                                             · skip
                                               first
                                               | (cases hq_68; done) | ((first | replace hq_68 := bnt hq_68 | replace hq_68 := bnf hq_68 | replace hq_68 := bt hq_68 | replace hq_68 := bf hq_68 | replace hq_68 := bt' hq_68 | replace hq_68 := bf' hq_68 | skip); exfalso; omega) | (simp [hcl, hcl2, hl2, hl3] at hq_68; done)
                                               | ((first | replace hq_68 := bnt hq_68 | replace hq_68 := bnf hq_68 | replace hq_68 := bt hq_68 | replace hq_68 := bf hq_68 | replace hq_68 := bt' hq_68 | replace hq_68 := bf' hq_68 | skip)
                                                  refine al_ro' (ro_move (u2 rfl (u8 rfl s21_65))) ⟨_, rfl, hb_68⟩ rfl ?_
                                                  refine al_ro' (ro_pickF (up_m rfl hb_68) up_h) ⟨_, rfl, (u4 rfl hb_67)⟩ rfl ?_
                                                  refine al_ro' (ro_pickT (up_m rfl (u4 rfl hb_67)) up_h) trivial rfl ?_
                                                  refine al_ro' (ro_assign up_h) trivial rfl ?_
                                                  refine al_end (fun e_70 he_70 => ?_)
                                                  have s6_70 := ef 6 he_70 up_h
                                                  clear he_70 hb_66 hb_67 hb_68 s19_65 s20_65 s21_65 s22_65
                                                  refine then_n ?_
                                                  refine aw_ret ?_
                                                  refine ret1 (.inr rfl) (by kernel_rfl) (resV_tmp s6_70) (.ro _ rfl) ?_
                                                  clear s6_70 mo4_57 mo3_57 mo2_57 mo1_57 mo0_57 ml_57
                                                  (first | rfl | (exfalso; omega) | (simp; done) | (have hz := hbr (min 3000 (b + 100)) (by omega) hr.1 hr3.1 hle hr4.1; clear hbr; simp_all; done))))
                                        · skip
                                          first
                                          | (cases hq_67; done) | ((first | replace hq_67 := bnt hq_67 | replace hq_67 := bnf hq_67 | replace hq_67 := bt hq_67 | replace hq_67 := bf hq_67 | replace hq_67 := bt' hq_67 | replace hq_67 := bf' hq_67 | skip); exfalso; omega) | (simp [hcl, hcl2, hl2, hl3] at hq_67; done)
                                          | ((first | replace hq_67 := bnt hq_67 | replace hq_67 := bnf hq_67 | replace hq_67 := bt hq_67 | replace hq_67 := bf hq_67 | replace hq_67 := bt' hq_67 | replace hq_67 := bf' hq_67 | skip)
                                             refine al_skip' ⟨_, rfl, .inl hb_67⟩ rfl ?_
                                             refine al_skip' ⟨_, rfl, .inl (up_m rfl hb_67)⟩ rfl ?_
                                             refine al_skip' ⟨_, rfl, .inl (u2 rfl hb_67)⟩ rfl ?_
                                             refine al_skip' ⟨_, rfl, .inr up_h⟩ rfl ?_
                                             refine al_skip' ⟨_, rfl, .inl (u4 rfl hb_67)⟩ rfl ?_
                                             refine al_ro' (ro_pickF (up_m rfl (u4 rfl hb_67)) ev_c) trivial rfl ?_
                                             refine al_ro' (ro_assign up_h) trivial rfl ?_
                                             refine al_end (fun e_71 he_71 => ?_)
                                             have s6_71 := ef 6 he_71 up_h
                                             clear he_71 hb_66 hb_67 s19_65 s20_65 s21_65 s22_65
                                             refine then_n ?_
                                             refine aw_ret ?_
                                             refine ret1 (.inr rfl) (by kernel_rfl) (resV_tmp s6_71) (.ro _ rfl) ?_
                                             clear s6_71 mo4_57 mo3_57 mo2_57 mo1_57 mo0_57 ml_57
                                             (first | rfl | (exfalso; omega) | (simp; done) | (have hz := hbr (min 3000 (b + 100)) (by omega) hr.1 hr3.1 hle hr4.1; clear hbr; simp_all; done))))
                                   · skip
                                     first
                                     | (cases hq_66; done) | ((first | replace hq_66 := bnt hq_66 | replace hq_66 := bnf hq_66 | replace hq_66 := bt hq_66 | replace hq_66 := bf hq_66 | replace hq_66 := bt' hq_66 | replace hq_66 := bf' hq_66 | skip); exfalso; omega) | (simp [hcl, hcl2, hl2, hl3] at hq_66; done)
                                     | ((first | replace hq_66 := bnt hq_66 | replace hq_66 := bnf hq_66 | replace hq_66 := bt hq_66 | replace hq_66 := bf hq_66 | replace hq_66 := bt' hq_66 | replace hq_66 := bf' hq_66 | skip)
                                        refine al_skip' ⟨_, rfl, .inl hb_66⟩ rfl ?_
                                        refine al_skip' ⟨_, rfl, .inl (up_m rfl hb_66)⟩ rfl ?_
                                        refine al_ro' (ro_pickF (u2 rfl hb_66) ev_c) trivial rfl ?_
                                        refine al_ro' (ro_move up_h) trivial rfl ?_
                                        refine al_skip' ⟨_, rfl, .inl up_h⟩ rfl ?_
                                        refine al_skip' ⟨_, rfl, .inl (up_m rfl up_h)⟩ rfl ?_
                                        refine al_skip' ⟨_, rfl, .inl (u2 rfl up_h)⟩ rfl ?_
                                        refine al_skip' ⟨_, rfl, .inr up_h⟩ rfl ?_
                                        refine al_skip' ⟨_, rfl, .inl (u4 rfl up_h)⟩ rfl ?_
                                        refine al_ro' (ro_pickF (up_m rfl (u4 rfl up_h)) ev_c) trivial rfl ?_
                                        refine al_ro' (ro_assign up_h) trivial rfl ?_
                                        refine al_end (fun e_72 he_72 => ?_)
                                        have s6_72 := ef 6 he_72 up_h
                                        clear he_72 hb_66 s19_65 s20_65 s21_65 s22_65
                                        refine then_n ?_
                                        refine aw_ret ?_
                                        refine ret1 (.inr rfl) (by kernel_rfl) (resV_tmp s6_72) (.ro _ rfl) ?_
                                        clear s6_72 mo4_57 mo3_57 mo2_57 mo1_57 mo0_57 ml_57
                                        (first | rfl | (exfalso; omega) | (simp; done) | (have hz := hbr (min 3000 (b + 100)) (by omega) hr.1 hr3.1 hle hr4.1; clear hbr; simp_all; done))))))))
end Go.Proofs.Ytelgkjekpcfffaa
