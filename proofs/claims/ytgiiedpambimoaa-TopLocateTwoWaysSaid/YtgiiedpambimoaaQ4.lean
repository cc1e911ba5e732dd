/- Contracts of chapter 4: what is seen. No conditions on a program. -/
import Derived.Test.YtgiiedpambimoaaQ3
import Derived.Test.YtgiiedpambimoaaA19
namespace Go.Proofs.Ytgiiedpambimoaa
open Go Go.RowKit Go.Proofs
set_option linter.unusedSimpArgs false
set_option linter.unusedVariables false
theorem q4_az90 : (Try.prog.info? 90).bind (·.zero) = some (.agg #[.slice none 0 0, .int .i64 0, .int .i64 0, .int .i64 0, .int .i64 0, .int .i64 0, .int .i64 0, .int .i64 0, .bool false]) := by kernel_rfl
theorem q4_az94 : (Try.prog.info? 94).bind (·.zero) = some (.agg #[.int .i64 0, .int .i64 0, .int .i64 0, .int .i64 0, .int .i64 0, .int .i64 0, .int .i64 0, .int .i64 0, .int .i64 0, .int .i64 0, .int .i64 0, .int .i64 0]) := by kernel_rfl
theorem q4_at94 : ArTy Try.prog 94 12 3 false 1 := ⟨by kernel_rfl, by kernel_rfl, by kernel_rfl⟩
theorem q4_fl24_1 : FldIs Try.prog 24 1 1 false 1 := by unfold FldIs; kernel_rfl
theorem q4_fl24_7 : FldIs Try.prog 24 7 7 false 1 := by unfold FldIs; kernel_rfl
theorem q4_fl90_0 : FldIs Try.prog 90 0 0 true 9 := by unfold FldIs; kernel_rfl
theorem q4_hcf40 : ∀ args w, (callFunc 40 args).run Try.prog w = .ok (.enter 40 args) w := fun _ _ => by kernel_rfl
theorem q4_hcf41 : ∀ args w, (callFunc 41 args).run Try.prog w = .ok (.enter 41 args) w := fun _ _ => by kernel_rfl
theorem q4_hcf42 : ∀ args w, (callFunc 42 args).run Try.prog w = .ok (.enter 42 args) w := fun _ _ => by kernel_rfl
theorem q4_hcf46 : ∀ args w, (callFunc 46 args).run Try.prog w = .ok (.enter 46 args) w := fun _ _ => by kernel_rfl
theorem q4_hcf47 : ∀ args w, (callFunc 47 args).run Try.prog w = .ok (.enter 47 args) w := fun _ _ => by kernel_rfl
theorem q4_hcf48 : ∀ args w, (callFunc 48 args).run Try.prog w = .ok (.enter 48 args) w := fun _ _ => by kernel_rfl
theorem q4_hcf84 : ∀ args w, (callFunc 84 args).run Try.prog w = .ok (.enter 84 args) w := fun _ _ => by kernel_rfl
theorem q4_hcf91 : ∀ args w, (callFunc 91 args).run Try.prog w = .ok (.enter 91 args) w := fun _ _ => by kernel_rfl
theorem q4_hcf93 : ∀ args w, (callFunc 93 args).run Try.prog w = .ok (.enter 93 args) w := fun _ _ => by kernel_rfl
theorem q4_hcf94 : ∀ args w, (callFunc 94 args).run Try.prog w = .ok (.enter 94 args) w := fun _ _ => by kernel_rfl
theorem q4_hcf95 : ∀ args w, (callFunc 95 args).run Try.prog w = .ok (.enter 95 args) w := fun _ _ => by kernel_rfl
theorem q4_hcf96 : ∀ args w, (callFunc 96 args).run Try.prog w = .ok (.enter 96 args) w := fun _ _ => by kernel_rfl
theorem q4_hcf97 : ∀ args w, (callFunc 97 args).run Try.prog w = .ok (.enter 97 args) w := fun _ _ => by kernel_rfl
theorem q4_sl126 : SlIs Try.prog 126 33 1 8 (.int .i64 0) := ⟨by kernel_rfl, by kernel_rfl, by kernel_rfl⟩
theorem q4_sl22 : SlIs Try.prog 22 3 1 8 (.int .i64 0) := ⟨by kernel_rfl, by kernel_rfl, by kernel_rfl⟩
theorem q4_sz90 : (Try.prog.info? 90).map (·.size) = some 9 := by kernel_rfl
theorem q4_sz94 : (Try.prog.info? 94).map (·.size) = some 12 := by kernel_rfl
theorem q4_ty24 : TyIs Try.prog 24 true 9 := ⟨by kernel_rfl, by kernel_rfl⟩
theorem q4_ty3 : TyIs Try.prog 3 false 1 := ⟨by kernel_rfl, by kernel_rfl⟩
theorem q4_ty90 : TyIs Try.prog 90 true 9 := ⟨by kernel_rfl, by kernel_rfl⟩
theorem q4_ty94 : TyIs Try.prog 94 true 12 := ⟨by kernel_rfl, by kernel_rfl⟩

def seeB (n : Int) : Bool := bitB n || decide (n = 2)
set_option maxRecDepth 100000 in
set_option maxHeartbeats 1000000 in
theorem isSeen_ok (n : Int) : FnOk Try.prog 95 [zA n] (fun q => q = yA (seeB n)) := by
  refine fnOk_of (fn := Try.f95) 9 (by kernel_rfl) rfl (by kernel_rfl) (Nat.le_of_ble_eq_true rfl) ?_
  intro e_0 m_0 hA hm_0
  have s0_0 : evA e_0 (.tmp 0) = _ := hA 0 _ rfl
  have ml_0 : m_0.length = 0 := by rw [hm_0]; rfl
  clear hA hm_0
  refine aw_seq ?_
  refine aw_text (by kernel_rfl) ?_
  refine al_ro' (ro_assign ev_c) trivial rfl ?_
  refine al_end (fun e_1 he_1 => ?_)
  have s0_1 := ef 0 he_1 (up_m rfl s0_0)
  clear he_1 s0_0
  refine then_n ?_
  refine aw_seq ?_
  refine aw_text (by kernel_rfl) ?_
  refine al_ro' (ro_move s0_1) trivial rfl ?_
  refine al_ro' (ro_call (evL_cons up_h evL_nil) rfl (isBit_ok n) q4_hcf93) trivial rfl ?_
  refine al_ro' (ro_move up_h) trivial rfl ?_
  refine al_case up_h (fun hb_2 hq_2 => ?_) (fun hb_2 hq_2 => ?_)
  · (first | replace hq_2 := bnt hq_2 | replace hq_2 := bnf hq_2 | replace hq_2 := bt hq_2 | replace hq_2 := bf hq_2 | replace hq_2 := bt' hq_2 | replace hq_2 := bf' hq_2 | skip)
    first
    | (cases hq_2; done) | (exfalso; omega)
    | (
       refine al_skip' ⟨_, rfl, .inl hb_2⟩ rfl ?_
       refine al_skip' ⟨_, rfl, .inl (up_m rfl hb_2)⟩ rfl ?_
       refine al_ro' (ro_pickT (u2 rfl hb_2) ev_c) trivial rfl ?_
       refine al_ro' (ro_assign up_h) trivial rfl ?_
       refine al_end (fun e_3 he_3 => ?_)
       have s2_3 := ef 2 he_3 up_h
       clear he_3 hb_2 s0_1
       refine then_n ?_
       refine aw_ret ?_
       refine ret1 (.inr rfl) (by kernel_rfl) (resV_tmp s2_3) (.ro _ rfl) ?_
       clear s2_3  ml_0
       (refine avb ?_; simp only [seeB, bitB, Bool.or_eq_true, decide_eq_true_eq, Bool.false_eq_true, true_iff, false_iff]; omega))
  · (first | replace hq_2 := bnt hq_2 | replace hq_2 := bnf hq_2 | replace hq_2 := bt hq_2 | replace hq_2 := bf hq_2 | replace hq_2 := bt' hq_2 | replace hq_2 := bf' hq_2 | skip)
    first
    | (cases hq_2; done) | (exfalso; omega)
    | (
       refine al_ro' (ro_move (up_m rfl (u2 rfl s0_1))) ⟨_, rfl, hb_2⟩ rfl ?_
       refine al_ro' (ro_eql up_h ev_c) ⟨_, rfl, (up_m rfl hb_2)⟩ rfl ?_
       refine al_ro' (ro_pickF (u2 rfl hb_2) up_h) trivial rfl ?_
       refine al_ro' (ro_assign up_h) trivial rfl ?_
       refine al_end (fun e_4 he_4 => ?_)
       have s2_4 := ef 2 he_4 up_h
       clear he_4 hb_2 s0_1
       refine then_n ?_
       refine aw_ret ?_
       refine ret1 (.inr rfl) (by kernel_rfl) (resV_tmp s2_4) (.ro _ rfl) ?_
       clear s2_4  ml_0
       (refine avb ?_; simp only [seeB, bitB, Bool.or_eq_true, decide_eq_true_eq, Bool.false_eq_true, true_iff, false_iff]; omega))
set_option maxRecDepth 100000 in
set_option maxHeartbeats 1000000 in
theorem notSeen_ok (n : Int) : FnOk Try.prog 94 [zA n] (fun q => q = yA (!seeB n)) := by
  refine fnOk_of (fn := Try.f94) 6 (by kernel_rfl) rfl (by kernel_rfl) (Nat.le_of_ble_eq_true rfl) ?_
  intro e_0 m_0 hA hm_0
  have s0_0 : evA e_0 (.tmp 0) = _ := hA 0 _ rfl
  have ml_0 : m_0.length = 0 := by rw [hm_0]; rfl
  clear hA hm_0
  refine aw_seq ?_
  refine aw_text (by kernel_rfl) ?_
  refine al_ro' (ro_assign ev_c) trivial rfl ?_
  refine al_end (fun e_1 he_1 => ?_)
  have s0_1 := ef 0 he_1 (up_m rfl s0_0)
  clear he_1 s0_0
  refine then_n ?_
  refine aw_seq ?_
  refine aw_text (by kernel_rfl) ?_
  refine al_ro' (ro_move s0_1) trivial rfl ?_
  refine al_ro' (ro_call (evL_cons up_h evL_nil) rfl (isSeen_ok n) q4_hcf95) trivial rfl ?_
  refine al_ro' (ro_not up_h) trivial rfl ?_
  refine al_ro' (ro_assign up_h) trivial rfl ?_
  refine al_end (fun e_2 he_2 => ?_)
  have s2_2 := ef 2 he_2 up_h
  clear he_2 s0_1
  refine then_n ?_
  refine aw_ret ?_
  refine ret1 (.inr rfl) (by kernel_rfl) (resV_tmp s2_2) (.ro _ rfl) ?_
  clear s2_2  ml_0
  rfl
set_option maxRecDepth 100000 in
set_option maxHeartbeats 4000000 in
theorem indexSeen_ok (l : List Int) (hl : l.length ≤ 1000000) (h : ∀ j : Nat, j < l.length → seeB (l.getD j default) = true) : FnOk Try.prog 91 [.row 1 (l.map iE), .v (.func (.func 94) #[] #[])] (fun q => q = zA (-1)) := by
  refine fnOk_of (fn := Try.f91) 19 (by kernel_rfl) rfl (by kernel_rfl) (Nat.le_of_ble_eq_true rfl) ?_
  intro e_0 m_0 hA hm_0
  have s0_0 : evA e_0 (.tmp 0) = _ := hA 0 _ rfl
  have s1_0 : evA e_0 (.tmp 1) = _ := hA 1 _ rfl
  have ml_0 : m_0.length = 0 := by rw [hm_0]; rfl
  clear hA hm_0
  refine aw_seq ?_
  refine aw_text (by kernel_rfl) ?_
  refine al_ro' (ro_assign ev_c) trivial rfl ?_
  refine al_end (fun e_1 he_1 => ?_)
  have s0_1 := ef 0 he_1 (up_m rfl s0_0)
  have s1_1 := ef 1 he_1 (up_m rfl s1_0)
  clear he_1 s0_0 s1_0
  refine then_n ?_
  refine aw_seq ?_
  refine aw_seq ?_
  refine aw_text (by kernel_rfl) ?_
  refine al_ro' (ro_move s0_1) trivial rfl ?_
  refine al_ro' (ro_eq (ro_len_row up_h rfl q4_sl22.1) (by first | (simp only [lnS] <;> rfl) | rfl)) trivial rfl ?_
  refine al_ro' (ro_move ev_c) trivial rfl ?_
  refine al_end (fun e_2 he_2 => ?_)
  have s0_2 := ef 0 he_2 (up_m rfl (u2 rfl s0_1))
  have s1_2 := ef 1 he_2 (up_m rfl (u2 rfl s1_1))
  have s7_2 := ef 7 he_2 (up_m rfl up_h)
  have s8_2 := ef 8 he_2 up_h
  clear he_2 s0_1 s1_1
  refine then_n ?_
  refine aw_block ?_
  refine aw_loop (S := Int) (fun i e mem => (evA e (.tmp 8) = .v (.int .i64 i)) ∧ (evA e (.tmp 0) = evA e_2 (.tmp 0)) ∧ (evA e (.tmp 1) = evA e_2 (.tmp 1)) ∧ (evA e (.tmp 7) = evA e_2 (.tmp 7)) ∧ (mem.length = 0) ∧ ((0 ≤ i ∧ i ≤ l.length))) (fun i => (l.length - i).toNat) _ ⟨s8_2, rfl, rfl, rfl, ml_0, ?_⟩ ?_
  · (exact ⟨by omega, by omega⟩)
  · rintro i e_3 m_3 ⟨s8_3, k0_3, k1_3, k7_3, ml_3, hinv⟩
    have s0_3 := k0_3.trans s0_2
    have s1_3 := k1_3.trans s1_2
    have s7_3 := k7_3.trans s7_2
    (obtain ⟨p1, p2⟩ := hinv; have hb := h i.toNat)
    refine aw_seq ?_
    refine aw_text (by kernel_rfl) ?_
    refine al_ro' (ro_lss s8_3 s7_3) trivial rfl ?_
    refine al_end (fun e_4 he_4 => ?_)
    have s0_4 := ef 0 he_4 (up_m rfl s0_3)
    have s1_4 := ef 1 he_4 (up_m rfl s1_3)
    have s7_4 := ef 7 he_4 (up_m rfl s7_3)
    have s8_4 := ef 8 he_4 (up_m rfl s8_3)
    have s9_4 := ef 9 he_4 up_h
    clear he_4 s0_3 s1_3 s7_3 s8_3
    refine then_n ?_
    refine aw_seq ?_
    refine aw_case s9_4 (fun hq_5 => ?_) (fun hq_5 => ?_)
    · (first | replace hq_5 := bnt hq_5 | replace hq_5 := bnf hq_5 | replace hq_5 := bt hq_5 | replace hq_5 := bf hq_5 | replace hq_5 := bt' hq_5 | replace hq_5 := bf' hq_5 | skip)
      first
      | (cases hq_5; done) | (exfalso; omega)
      | (
         refine aw_skip ?_
         refine then_n ?_
         refine aw_seq ?_
         refine aw_block ?_
         refine aw_seq ?_
         refine aw_text (by kernel_rfl) ?_
         refine al_ro' (ro_move s8_4) trivial rfl ?_
         refine al_ro' (ro_assign up_h) trivial rfl ?_
         refine al_end (fun e_6 he_6 => ?_)
         have s0_6 := ef 0 he_6 (u2 rfl s0_4)
         have s1_6 := ef 1 he_6 (u2 rfl s1_4)
         have s5_6 := ef 5 he_6 up_h
         have s7_6 := ef 7 he_6 (u2 rfl s7_4)
         have s8_6 := ef 8 he_6 (u2 rfl s8_4)
         clear he_6 s0_4 s1_4 s7_4 s8_4 s9_4
         refine then_n ?_
         refine aw_seq ?_
         refine aw_text (by kernel_rfl) ?_
         refine al_ro' (ro_move s1_6) trivial rfl ?_
         refine al_ro' (ro_move (up_m rfl s0_6)) trivial rfl ?_
         refine al_ro' (ro_move (u2 rfl s5_6)) trivial rfl ?_
         refine al_ro' (ro_eq (ro_ix q4_sl22 (up_m rfl up_h) up_h (by first | decide | omega | (simp <;> omega)) (by first | (refine idx_map ?_; first | omega | (simp only [lnS]; omega)) | (refine idx_mapI ?_; first | omega | (simp only [lnS]; omega)) | (refine idx_mapN ?_; first | omega | (simp only [lnS]; omega)) | rfl)) (by first | (simp only [packA_t, packA_f, iE, bE, setAt, cellsA, Value.cells, map_vc, map_vn, Nat.reduceAdd, qS] <;> rfl) | rfl)) trivial rfl ?_
         refine al_ro' (ro_eq (ro_ld_ref q4_ty3 rfl up_h (by first | exact Nat.le_of_ble_eq_true rfl | omega | (simp only [lnS] <;> omega) | (simp <;> omega))) (by first | (simp only [packA_t, packA_f, iE, bE, setAt, cellsA, Value.cells, map_vc, map_vn, Nat.reduceAdd, qS] <;> rfl) | rfl)) trivial rfl ?_
         refine al_ro' (ro_callf (u4 rfl up_h) (evL_cons up_h evL_nil) rfl (notSeen_ok _) q4_hcf94) trivial rfl ?_
         refine al_end (fun e_7 he_7 => ?_)
         have s0_7 := ef 0 he_7 (u2 rfl (u4 rfl s0_6))
         have s1_7 := ef 1 he_7 (u2 rfl (u4 rfl s1_6))
         have s5_7 := ef 5 he_7 (u2 rfl (u4 rfl s5_6))
         have s7_7 := ef 7 he_7 (u2 rfl (u4 rfl s7_6))
         have s8_7 := ef 8 he_7 (u2 rfl (u4 rfl s8_6))
         have s16_7 := ef 16 he_7 up_h
         clear he_7 s0_6 s1_6 s5_6 s7_6 s8_6
         refine then_n ?_
         refine aw_case s16_7 (fun hq_8 => ?_) (fun hq_8 => ?_)
         · (first | replace hq_8 := bnt hq_8 | replace hq_8 := bnf hq_8 | replace hq_8 := bt hq_8 | replace hq_8 := bf hq_8 | replace hq_8 := bt' hq_8 | replace hq_8 := bf' hq_8 | skip)
           first
           | (cases hq_8; done) | (exfalso; omega)
           | (
              refine aw_seq ?_
              refine aw_text (by kernel_rfl) ?_
              refine al_ro' (ro_move s5_7) trivial rfl ?_
              refine al_ro' (ro_assign up_h) trivial rfl ?_
              refine al_end (fun e_9 he_9 => ?_)
              have s4_9 := ef 4 he_9 up_h
              clear he_9 s0_7 s16_7 s1_7 s5_7 s7_7 s8_7
              refine then_n ?_
              refine aw_ret ?_
              refine block_r ?_
              refine then_r ?_
              refine then_r ?_
              refine block_r ?_
              refine then_r ?_
              refine ret1 (.inr rfl) (by kernel_rfl) (resV_tmp s4_9) (.ro _ rfl) ?_
              clear s4_9  ml_3
              (first | rfl | (exfalso; have hb := hb (by omega); simp_all)))
         · (first | replace hq_8 := bnt hq_8 | replace hq_8 := bnf hq_8 | replace hq_8 := bt hq_8 | replace hq_8 := bf hq_8 | replace hq_8 := bt' hq_8 | replace hq_8 := bf' hq_8 | skip)
           first
           | (cases hq_8; done) | (exfalso; omega)
           | (
              refine aw_skip ?_
              refine block_n ?_
              refine then_n ?_
              refine aw_text (by kernel_rfl) ?_
              first | (refine al_ro' (ro_add' s8_7 ev_c ?_) trivial rfl ?_; · (unfold In64; omega)) | refine al_ro' (ro_add s8_7 ev_c) trivial rfl ?_
              refine al_ro' (ro_move up_h) trivial rfl ?_
              refine al_end (fun e_10 he_10 => ?_)
              have s0_10 := ef 0 he_10 (u2 rfl s0_7)
              have s1_10 := ef 1 he_10 (u2 rfl s1_7)
              have s7_10 := ef 7 he_10 (u2 rfl s7_7)
              have s8_10 := ef 8 he_10 up_h
              clear he_10 s0_7 s16_7 s1_7 s5_7 s7_7 s8_7
              refine then_n ?_
              refine ⟨_, ⟨s8_10, (s0_10.trans s0_2.symm), (s1_10.trans s1_2.symm), (s7_10.trans s7_2.symm), ml_3, ?_⟩, ?_⟩
              · (exact ⟨by omega, by omega⟩)
              · ((try dsimp only); omega)))
    · (first | replace hq_5 := bnt hq_5 | replace hq_5 := bnf hq_5 | replace hq_5 := bt hq_5 | replace hq_5 := bf hq_5 | replace hq_5 := bt' hq_5 | replace hq_5 := bf' hq_5 | skip)
      first
      | (cases hq_5; done) | (exfalso; omega)
      | (
         refine aw_exit ?_
         refine then_x ?_
         refine then_x ?_
         refine block_hit ?_
         refine then_n ?_
         refine aw_seq ?_
         refine aw_text (by kernel_rfl) ?_
         refine al_ro' (ro_assign ev_c) trivial rfl ?_
         refine al_end (fun e_11 he_11 => ?_)
         have s4_11 := ef 4 he_11 up_h
         clear he_11 s0_4 s1_4 s7_4 s8_4 s9_4
         refine then_n ?_
         refine aw_ret ?_
         refine ret1 (.inr rfl) (by kernel_rfl) (resV_tmp s4_11) (.ro _ rfl) ?_
         clear s4_11  ml_3
         (first | rfl | (exfalso; have hb := hb (by omega); simp_all)))
set_option maxRecDepth 100000 in
set_option maxHeartbeats 1000000 in
theorem containsSeen_ok (l : List Int) (hl : l.length ≤ 1000000) (h : ∀ j : Nat, j < l.length → seeB (l.getD j default) = true) : FnOk Try.prog 84 [.row 1 (l.map iE), .v (.func (.func 94) #[] #[])] (fun q => q = yA false) := by
  refine fnOk_of (fn := Try.f84) 9 (by kernel_rfl) rfl (by kernel_rfl) (Nat.le_of_ble_eq_true rfl) ?_
  intro e_0 m_0 hA hm_0
  have s0_0 : evA e_0 (.tmp 0) = _ := hA 0 _ rfl
  have s1_0 : evA e_0 (.tmp 1) = _ := hA 1 _ rfl
  have ml_0 : m_0.length = 0 := by rw [hm_0]; rfl
  clear hA hm_0
  refine aw_seq ?_
  refine aw_text (by kernel_rfl) ?_
  refine al_ro' (ro_assign ev_c) trivial rfl ?_
  refine al_end (fun e_1 he_1 => ?_)
  have s0_1 := ef 0 he_1 (up_m rfl s0_0)
  have s1_1 := ef 1 he_1 (up_m rfl s1_0)
  clear he_1 s0_0 s1_0
  refine then_n ?_
  refine aw_seq ?_
  refine aw_text (by kernel_rfl) ?_
  refine al_ro' (ro_move s0_1) trivial rfl ?_
  refine al_ro' (ro_move (up_m rfl s1_1)) trivial rfl ?_
  refine al_ro' (ro_call (evL_cons (up_m rfl up_h) (evL_cons up_h evL_nil)) rfl (indexSeen_ok l hl h) q4_hcf91) trivial rfl ?_
  refine al_ro' (ro_geq up_h ev_c) trivial rfl ?_
  refine al_ro' (ro_assign up_h) trivial rfl ?_
  refine al_end (fun e_2 he_2 => ?_)
  have s4_2 := ef 4 he_2 up_h
  clear he_2 s0_1 s1_1
  refine then_n ?_
  refine aw_ret ?_
  refine ret1 (.inr rfl) (by kernel_rfl) (resV_tmp s4_2) (.ro _ rfl) ?_
  clear s4_2  ml_0
  rfl
set_option maxRecDepth 100000 in
set_option maxHeartbeats 4000000 in
theorem openSeen_ok (t : Trk) (ht : RT t) (xs : List Int) (hx : (xs.length : Int) = t.win) (h : ∀ j : Nat, j < xs.length → seeB (xs.getD j default) = true) : FnOk Try.prog 76 [qA t, .row 1 (xs.map iE)] (fun q => q = .tuple [qA t, zA 0]) := by
  have h1 := ht.win
  have e1 : firstE [0, unlessE (decide ((xs.length : Int) = t.win)) 10, unlessE true 15] = 0 := by rw [decide_eq_true hx]; rfl
  refine fnOk_of (fn := Try.f76) 29 (by kernel_rfl) rfl (by kernel_rfl) (Nat.le_of_ble_eq_true rfl) ?_
  intro e_0 m_0 hA hm_0
  have s0_0 : evA e_0 (.tmp 0) = _ := hA 0 _ rfl
  have s1_0 : evA e_0 (.tmp 1) = _ := hA 1 _ rfl
  have ml_0 : m_0.length = 0 := by rw [hm_0]; rfl
  clear hA hm_0
  refine aw_seq ?_
  refine aw_text (by kernel_rfl) ?_
  refine al_stm (st_box s0_0 rfl ml_0) trivial rfl (fun m_1 hm_1 => ?_)
  have mo0_1 := m_push hm_1 ml_0
  (try simp only [packA_t, packA_f, iE, bE, setAt, cellsA, Value.cells, map_vc, map_vn, Nat.reduceAdd, qS] at mo0_1)
  have ml_1 := m_push_l hm_1 ml_0
  have ml_1 : _ = 1 := ml_1
  clear hm_1
  refine al_stm (st_alloc q4_az90 rfl ml_1) trivial rfl (fun m_2 hm_2 => ?_)
  have mo1_2 := m_push hm_2 ml_1
  (try simp only [packA_t, packA_f, iE, bE, setAt, cellsA, Value.cells, map_vc, map_vn, Nat.reduceAdd, qS] at mo1_2)
  have mo0_2 := m_push_o hm_2 mo0_1
  have ml_2 := m_push_l hm_2 ml_1
  have ml_2 : _ = 2 := ml_2
  clear hm_2 mo0_1
  refine al_ro' (ro_assign ev_c) trivial rfl ?_
  refine al_end (fun e_3 he_3 => ?_)
  have s1_3 := ef 1 he_3 (up_m rfl (u2 rfl s1_0))
  have s2_3 := ef 2 he_3 (u2 rfl up_h)
  have s4_3 := ef 4 he_3 (up_m rfl up_h)
  clear he_3 s0_0 s1_0
  refine then_n ?_
  refine aw_seq ?_
  refine aw_text (by kernel_rfl) ?_
  refine al_ro' (ro_eq (ro_ld_ptr q4_ty24 rfl mo0_2 s2_3 (by first | exact Nat.le_of_ble_eq_true rfl | omega | (simp only [lnS] <;> omega) | (simp <;> omega))) (by first | (simp only [packA_t, packA_f, iE, bE, setAt, cellsA, Value.cells, map_vc, map_vn, Nat.reduceAdd, qS] <;> rfl) | rfl)) trivial rfl ?_
  refine al_ro' (ro_call (evL_cons up_h evL_nil) rfl (qOpen_ok t ht) q4_hcf46) trivial rfl ?_
  refine al_ro' (ro_move up_h) trivial rfl ?_
  refine al_ro' (ro_extract up_h rfl) trivial rfl ?_
  refine al_ro' (ro_extract (up_m rfl up_h) rfl) trivial rfl ?_
  refine al_stm (st_alloc q4_az90 rfl ml_2) trivial rfl (fun m_4 hm_4 => ?_)
  have mo2_4 := m_push hm_4 ml_2
  (try simp only [packA_t, packA_f, iE, bE, setAt, cellsA, Value.cells, map_vc, map_vn, Nat.reduceAdd, qS] at mo2_4)
  have mo1_4 := m_push_o hm_4 mo1_2
  have mo0_4 := m_push_o hm_4 mo0_2
  have ml_4 := m_push_l hm_4 ml_2
  have ml_4 : _ = 3 := ml_4
  clear hm_4 mo1_2 mo0_2
  refine al_stm (st_store up_h (u2 rfl up_h) rfl rfl mo2_4 q4_sz90 rfl (by first | exact Nat.le_of_ble_eq_true rfl | omega | (simp only [lnS] <;> omega) | (simp <;> omega))) trivial rfl (fun m_5 hm_5 => ?_)
  have mo2_5 := m_set hm_5 mo2_4
  (try simp only [packA_t, packA_f, iE, bE, setAt, cellsA, Value.cells, map_vc, map_vn, Nat.reduceAdd, qS] at mo2_5)
  have mo1_5 := m_set_o hm_5 mo1_4 (by decide)
  have mo0_5 := m_set_o hm_5 mo0_4 (by decide)
  have ml_5 := m_set_l hm_5 ml_4
  clear hm_5 mo2_4 mo1_4 mo0_4
  refine al_ro' (ro_assign (up_n (up_m rfl up_h))) trivial rfl ?_
  refine al_end (fun e_6 he_6 => ?_)
  have s1_6 := ef 1 he_6 (up_m rfl (up_n (u2 rfl (u4 rfl s1_3))))
  have s2_6 := ef 2 he_6 (up_m rfl (up_n (u2 rfl (u4 rfl s2_3))))
  have s4_6 := ef 4 he_6 (up_m rfl (up_n (u2 rfl (u4 rfl s4_3))))
  have s6_6 := ef 6 he_6 (up_m rfl (up_n up_h))
  have s7_6 := ef 7 he_6 up_h
  clear he_6 s1_3 s2_3 s4_3
  refine then_n ?_
  refine aw_seq ?_
  refine aw_text (by kernel_rfl) ?_
  refine al_ro' (ro_move s1_6) trivial rfl ?_
  refine al_ro' (ro_call (evL_cons up_h (evL_cons ev_f evL_nil)) rfl (containsSeen_ok xs (by omega) h) q4_hcf84) trivial rfl ?_
  refine al_ro' (ro_assign up_h) trivial rfl ?_
  refine al_end (fun e_7 he_7 => ?_)
  have s1_7 := ef 1 he_7 (up_m rfl (u2 rfl s1_6))
  have s2_7 := ef 2 he_7 (up_m rfl (u2 rfl s2_6))
  have s4_7 := ef 4 he_7 (up_m rfl (u2 rfl s4_6))
  have s6_7 := ef 6 he_7 (up_m rfl (u2 rfl s6_6))
  have s7_7 := ef 7 he_7 (up_m rfl (u2 rfl s7_6))
  have s8_7 := ef 8 he_7 up_h
  clear he_7 s1_6 s2_6 s4_6 s6_6 s7_6
  refine then_n ?_
  refine aw_seq ?_
  refine aw_draw 13 (by kernel_rfl) (by kernel_rfl) (by kernel_rfl) (by kernel_rfl) ?_
  refine ds_ro' (ro_eq (ro_ld_ptr q4_ty90 rfl mo2_5 s6_7 (by first | exact Nat.le_of_ble_eq_true rfl | omega | (simp only [lnS] <;> omega) | (simp <;> omega))) (by first | (simp only [packA_t, packA_f, iE, bE, setAt, cellsA, Value.cells, map_vc, map_vn, Nat.reduceAdd, qS] <;> rfl) | rfl)) trivial rfl ?_
  refine ds_ro' (ro_move (up_m rfl s7_7)) trivial rfl ?_
  refine ds_ro' (ro_move (u2 rfl s1_7)) trivial rfl ?_
  refine ds_ro' (ro_eq (ro_len_row up_h rfl q4_sl22.1) (by first | (simp only [lnS] <;> rfl) | rfl)) trivial rfl ?_
  refine ds_ro' (ro_fld_ptr q4_fl24_1 rfl (u4 rfl s2_7)) trivial rfl ?_
  refine ds_ro' (ro_eq (ro_ld_ptr q4_ty3 rfl mo0_5 up_h (by first | exact Nat.le_of_ble_eq_true rfl | omega | (simp only [lnS] <;> omega) | (simp <;> omega))) (by first | (simp only [packA_t, packA_f, iE, bE, setAt, cellsA, Value.cells, map_vc, map_vn, Nat.reduceAdd, qS] <;> rfl) | rfl)) trivial rfl ?_
  refine ds_ro' (ro_eql (u2 rfl up_h) up_h) trivial rfl ?_
  refine ds_ro' (ro_call (evL_cons up_h (evL_cons ev_c evL_nil)) rfl (qUnless_ok _ _) q4_hcf41) trivial rfl ?_
  refine ds_ro' (ro_move (u8 rfl s8_7)) trivial rfl ?_
  refine ds_ro' (ro_not up_h) trivial rfl ?_
  refine ds_ro' (ro_call (evL_cons up_h (evL_cons ev_c evL_nil)) rfl (qUnless_ok _ _) q4_hcf41) trivial rfl ?_
  refine ds_ro' (ro_lit q4_sl126 (evP_cons (up_m rfl (u8 rfl up_h)) (evP_cons (up_m rfl (u2 rfl up_h)) (evP_cons up_h evP_nil))) rfl rfl rfl rfl) trivial rfl ?_
  refine ds_ro' (ro_call (evL_cons up_h evL_nil) rfl ((qFirst_ok [_, _, _] (by simp)).mono (fun q h => h.trans (by first | rw [e1] | (simp only [Bool.not_false]; rw [e1])))) q4_hcf40) trivial rfl ?_
  refine ds_nil ?_
  refine al_stm (st_store (up_m rfl (u4 rfl (u8 rfl s4_7))) (u4 rfl (u8 rfl up_h)) rfl rfl mo1_5 q4_sz90 rfl (by first | exact Nat.le_of_ble_eq_true rfl | omega | (simp only [lnS] <;> omega) | (simp <;> omega))) trivial rfl (fun m_8 hm_8 => ?_)
  have mo1_8 := m_set hm_8 mo1_5
  (try simp only [packA_t, packA_f, iE, bE, setAt, cellsA, Value.cells, map_vc, map_vn, Nat.reduceAdd, qS] at mo1_8)
  have mo2_8 := m_set_o hm_8 mo2_5 (by decide)
  have mo0_8 := m_set_o hm_8 mo0_5 (by decide)
  have ml_8 := m_set_l hm_8 ml_5
  clear hm_8 mo2_5 mo1_5 mo0_5
  refine al_ro' (ro_assign (up_n up_h)) trivial rfl ?_
  refine al_end (fun e_9 he_9 => ?_)
  have s4_9 := ef 4 he_9 (up_m rfl (up_n (up_m rfl (u4 rfl (u8 rfl s4_7)))))
  have s5_9 := ef 5 he_9 up_h
  clear he_9 s1_7 s2_7 s4_7 s6_7 s7_7 s8_7
  refine then_n ?_
  refine aw_ret ?_
  refine ret2 (.inr rfl) (by kernel_rfl) (resV_cell s4_9 mo1_8 q4_ty90 (by first | exact Nat.le_of_ble_eq_true rfl | omega | (simp only [lnS] <;> omega) | (simp <;> omega)) (by simp)) (resV_tmp s5_9) (vw_r (.ro _ rfl)) (.ro _ rfl) ?_
  clear s4_9 s5_9 mo1_8 mo2_8 mo0_8 ml_8
  rfl
def padW (xs : List Int) : List Int := xs ++ z12.drop xs.length
theorem padW_len {xs : List Int} (h : xs.length ≤ 12) : (padW xs).length = 12 := by
  simp only [padW, List.length_append, List.length_drop, show z12.length = 12 from rfl]; omega
theorem padW_f (xs : List Int) : xs ++ z12.drop xs.length = padW xs := rfl
set_option maxRecDepth 100000 in
set_option maxHeartbeats 4000000 in
theorem seen_ok (t : Trk) (xs : List Int) (hx : xs.length ≤ 12) : FnOk Try.prog 96 [qA t, .row 1 (xs.map iE)] (fun q => q = .agg ((padW xs).map iE).flatten) := by
  have hp := padW_len hx
  refine fnOk_of (fn := Try.f96) 10 (by kernel_rfl) rfl (by kernel_rfl) (Nat.le_of_ble_eq_true rfl) ?_
  intro e_0 m_0 hA hm_0
  have s0_0 : evA e_0 (.tmp 0) = _ := hA 0 _ rfl
  have s1_0 : evA e_0 (.tmp 1) = _ := hA 1 _ rfl
  have ml_0 : m_0.length = 0 := by rw [hm_0]; rfl
  clear hA hm_0
  refine aw_seq ?_
  refine aw_text (by kernel_rfl) ?_
  refine al_stm (st_box s0_0 rfl ml_0) trivial rfl (fun m_1 hm_1 => ?_)
  have mo0_1 := m_push hm_1 ml_0
  (try simp only [packA_t, packA_f, iE, bE, setAt, cellsA, Value.cells, map_vc, map_vn, Nat.reduceAdd, qS, padW_f] at mo0_1)
  have ml_1 := m_push_l hm_1 ml_0
  have ml_1 : _ = 1 := ml_1
  clear hm_1
  refine al_stm (st_alloc q4_az94 rfl ml_1) trivial rfl (fun m_2 hm_2 => ?_)
  have mo1_2 : m_2[1]? = some (Ob.box 94 ((z12.map iE).flatten)) := m_push hm_2 ml_1
  have mo0_2 := m_push_o hm_2 mo0_1
  have ml_2 := m_push_l hm_2 ml_1
  have ml_2 : _ = 2 := ml_2
  clear hm_2 mo0_1
  refine al_end (fun e_3 he_3 => ?_)
  have s1_3 := ef 1 he_3 (u2 rfl s1_0)
  have s4_3 := ef 4 he_3 up_h
  clear he_3 s0_0 s1_0
  refine then_n ?_
  refine aw_seq ?_
  refine aw_text (by kernel_rfl) ?_
  refine al_stm (st_alloc q4_az94 rfl ml_2) trivial rfl (fun m_4 hm_4 => ?_)
  have mo2_4 : m_4[2]? = some (Ob.box 94 ((z12.map iE).flatten)) := m_push hm_4 ml_2
  have mo1_4 := m_push_o hm_4 mo1_2
  have mo0_4 := m_push_o hm_4 mo0_2
  have ml_4 := m_push_l hm_4 ml_2
  have ml_4 : _ = 3 := ml_4
  clear hm_4 mo1_2 mo0_2
  refine al_end (fun e_5 he_5 => ?_)
  have s1_5 := ef 1 he_5 (up_m rfl s1_3)
  have s4_5 := ef 4 he_5 (up_m rfl s4_3)
  have s5_5 := ef 5 he_5 up_h
  clear he_5 s1_3 s4_3
  refine then_n ?_
  refine aw_seq ?_
  refine aw_text (by kernel_rfl) ?_
  refine al_copyarr (eT2 := 3) s5_5 mo2_4 (by first | rfl | omega) (by decide) q4_at94 (by kernel_rfl) (by kernel_rfl) (up_m rfl s1_5) (by omega) (by decide) rfl rfl rfl (fun m_6 hm_6 => ?_)
  have mo2_6 := m_set hm_6 mo2_4
  (try simp only [packA_t, packA_f, iE, bE, setAt, cellsA, Value.cells, map_vc, map_vn, Nat.reduceAdd, qS, padW_f] at mo2_6)
  have mo1_6 := m_set_o hm_6 mo1_4 (by decide)
  have mo0_6 := m_set_o hm_6 mo0_4 (by decide)
  have ml_6 := m_set_l hm_6 ml_4
  clear hm_6 mo2_4 mo1_4 mo0_4
  refine al_end (fun e_7 he_7 => ?_)
  have s4_7 := ef 4 he_7 (up_m rfl (u2 rfl s4_5))
  have s5_7 := ef 5 he_7 (up_m rfl (u2 rfl s5_5))
  clear he_7 s1_5 s4_5 s5_5
  refine then_n ?_
  refine aw_seq ?_
  refine aw_text (by kernel_rfl) ?_
  refine al_ro' (ro_ld_all q4_ty94 mo2_6 s5_7 (by first | rfl | (rw [flat_map_len (k := 1)] <;> first | omega | (intro _; rfl)))) trivial rfl ?_
  refine al_stm (st_store_all (up_m rfl s4_7) up_h rfl (by first | rfl | (apply oneL_flat; intro _; rfl)) mo1_6 q4_sz94 (by first | rfl | (rw [flat_map_len (k := 1)] <;> first | omega | (intro _; rfl))) (by first | rfl | (rw [flat_map_len (k := 1)] <;> first | omega | (intro _; rfl)))) trivial rfl (fun m_8 hm_8 => ?_)
  have mo1_8 := m_set hm_8 mo1_6
  (try simp only [packA_t, packA_f, iE, bE, setAt, cellsA, Value.cells, map_vc, map_vn, Nat.reduceAdd, qS, padW_f] at mo1_8)
  have mo2_8 := m_set_o hm_8 mo2_6 (by decide)
  have mo0_8 := m_set_o hm_8 mo0_6 (by decide)
  have ml_8 := m_set_l hm_8 ml_6
  clear hm_8 mo2_6 mo1_6 mo0_6
  refine al_end (fun e_9 he_9 => ?_)
  have s4_9 := ef 4 he_9 (up_n (up_m rfl s4_7))
  clear he_9 s4_7 s5_7
  refine then_n ?_
  refine aw_ret ?_
  refine ret1 (.inr rfl) (by kernel_rfl) (resV_cell s4_9 mo1_8 q4_ty94 (by first | exact Nat.le_of_ble_eq_true rfl | (rw [flat_map_len (k := 1)] <;> first | omega | (intro _; rfl))) (by simp)) (vw_r (.ro _ (by first | rfl | (apply ro_aggF; intro _; rfl) | (apply roL_flat; intro _; rfl)))) ?_
  clear s4_9 mo1_8 mo2_8 mo0_8 ml_8
  (rw [take_flat_all (k := 1) (fun _ => rfl) (by omega)])
/-- The windows that are near. -/
def neaV (t : Trk) (xs : List Int) : Nat → List Int
  | 0 => []
  | n + 1 => neaV t xs n ++ if dfN (wat t n) (padW xs) 12 ≤ t.err then [(n : Int)] else []
theorem neaV_len (t : Trk) (xs : List Int) : ∀ n : Nat, (neaV t xs n).length ≤ n
  | 0 => by simp [neaV]
  | n + 1 => by
    have := neaV_len t xs n
    simp only [neaV, List.length_append]; split <;> simp <;> omega
theorem neaV_lt (t : Trk) (xs : List Int) : ∀ {n : Nat} {w : Int}, w ∈ neaV t xs n → 0 ≤ w ∧ w < n
  | 0, w, h => by simp [neaV] at h
  | n + 1, w, h => by
    simp only [neaV, List.mem_append] at h
    rcases h with h | h
    · have := neaV_lt t xs h; omega
    · split at h
      · simp at h; omega
      · simp at h
theorem neaV_mem {t : Trk} {xs : List Int} {k : Nat} (hd : dfN (wat t k) (padW xs) 12 ≤ t.err) : ∀ {n : Nat}, k < n → (k : Int) ∈ neaV t xs n
  | 0, h => absurd h (by omega)
  | n + 1, h => by
    simp only [neaV, List.mem_append]
    by_cases hk : k = n
    · subst hk; rw [if_pos hd]; exact .inr (by simp)
    · exact .inl (neaV_mem hd (by omega))
theorem neaV_nodup (t : Trk) (xs : List Int) : ∀ n : Nat, (neaV t xs n).Nodup
  | 0 => by simp [neaV]
  | n + 1 => by
    simp only [neaV]
    split
    · refine List.nodup_append.2 ⟨neaV_nodup t xs n, by simp, fun a ha b hb => ?_⟩
      have := neaV_lt t xs ha
      simp at hb; omega
    · rw [List.append_nil]; exact neaV_nodup t xs n
set_option maxRecDepth 100000 in
set_option maxHeartbeats 4000000 in
theorem near_ok (t : Trk) (ht : RT t) (xs : List Int) (hx : xs.length ≤ 12) : FnOk Try.prog 77 [qA t, .row 1 (xs.map iE)] (fun q => q = .row 1 ((neaV t xs (wnd t).toNat).map iE)) := by
  have h1 := ht.wnd
  have hp := padW_len hx
  refine fnOk_of (fn := Try.f77) 31 (by kernel_rfl) rfl (by kernel_rfl) (Nat.le_of_ble_eq_true rfl) ?_
  intro e_0 m_0 hA hm_0
  have s0_0 : evA e_0 (.tmp 0) = _ := hA 0 _ rfl
  have s1_0 : evA e_0 (.tmp 1) = _ := hA 1 _ rfl
  have ml_0 : m_0.length = 0 := by rw [hm_0]; rfl
  clear hA hm_0
  refine aw_seq ?_
  refine aw_text (by kernel_rfl) ?_
  refine al_stm (st_box s0_0 rfl ml_0) trivial rfl (fun m_1 hm_1 => ?_)
  have mo0_1 := m_push hm_1 ml_0
  (try simp only [packA_t, packA_f, iE, bE, setAt, cellsA, Value.cells, map_vc, map_vn, Nat.reduceAdd, qS, iE, one_iE, app_m] at mo0_1)
  have ml_1 := m_push_l hm_1 ml_0
  have ml_1 : _ = 1 := ml_1
  clear hm_1
  refine al_ro' (ro_assign ev_c) trivial rfl ?_
  refine al_end (fun e_2 he_2 => ?_)
  have s1_2 := ef 1 he_2 (u2 rfl s1_0)
  have s2_2 := ef 2 he_2 (up_m rfl up_h)
  clear he_2 s0_0 s1_0
  refine then_n ?_
  refine aw_seq ?_
  refine aw_text (by kernel_rfl) ?_
  refine al_ro' (ro_assign ev_c) trivial rfl ?_
  refine al_end (fun e_3 he_3 => ?_)
  have s1_3 := ef 1 he_3 (up_m rfl s1_2)
  have s2_3 := ef 2 he_3 (up_m rfl s2_2)
  have s5_3 := ef 5 he_3 up_h
  clear he_3 s1_2 s2_2
  refine then_n ?_
  refine aw_seq ?_
  refine aw_text (by kernel_rfl) ?_
  refine al_ro' (ro_eq (ro_ld_ptr q4_ty90 rfl mo0_1 s2_3 (by first | exact Nat.le_of_ble_eq_true rfl | omega | (simp only [lnS] <;> omega) | (simp <;> omega))) (by first | (simp only [packA_t, packA_f, iE, bE, setAt, cellsA, Value.cells, map_vc, map_vn, Nat.reduceAdd, qS, iE, one_iE, app_m] <;> rfl) | rfl)) trivial rfl ?_
  refine al_ro' (ro_move (up_m rfl s1_3)) trivial rfl ?_
  refine al_ro' (ro_call (evL_cons (up_m rfl up_h) (evL_cons up_h evL_nil)) (by first | rfl | (simp only [roO.roL, roO, Bool.and_true, Bool.true_and]; (apply roL_flat; intro _; rfl))) (seen_ok t xs hx) q4_hcf96) trivial rfl ?_
  refine al_stm (st_alloc q4_az94 rfl ml_1) trivial rfl (fun m_4 hm_4 => ?_)
  have mo1_4 := m_push hm_4 ml_1
  (try simp only [packA_t, packA_f, iE, bE, setAt, cellsA, Value.cells, map_vc, map_vn, Nat.reduceAdd, qS, iE, one_iE, app_m] at mo1_4)
  have mo0_4 := m_push_o hm_4 mo0_1
  have ml_4 := m_push_l hm_4 ml_1
  have ml_4 : _ = 2 := ml_4
  clear hm_4 mo0_1
  refine al_stm (st_store_all up_h (up_m rfl up_h) rfl (by first | rfl | (apply oneL_flat; intro _; rfl)) mo1_4 q4_sz94 (by first | rfl | (rw [flat_map_len (k := 1)] <;> first | omega | (intro _; rfl))) (by first | rfl | (rw [flat_map_len (k := 1)] <;> first | omega | (intro _; rfl)))) trivial rfl (fun m_5 hm_5 => ?_)
  have mo1_5 := m_set hm_5 mo1_4
  (try simp only [packA_t, packA_f, iE, bE, setAt, cellsA, Value.cells, map_vc, map_vn, Nat.reduceAdd, qS, iE, one_iE, app_m] at mo1_5)
  have mo0_5 := m_set_o hm_5 mo0_4 (by decide)
  have ml_5 := m_set_l hm_5 ml_4
  clear hm_5 mo1_4 mo0_4
  refine al_end (fun e_6 he_6 => ?_)
  have s2_6 := ef 2 he_6 (up_n (u4 rfl s2_3))
  have s5_6 := ef 5 he_6 (up_n (u4 rfl s5_3))
  have s6_6 := ef 6 he_6 (up_n up_h)
  clear he_6 s1_3 s2_3 s5_3
  refine then_n ?_
  refine aw_seq ?_
  refine aw_seq ?_
  refine aw_text (by kernel_rfl) ?_
  refine al_ro' (ro_eq (ro_ld_ptr q4_ty90 rfl mo0_5 s2_6 (by first | exact Nat.le_of_ble_eq_true rfl | omega | (simp only [lnS] <;> omega) | (simp <;> omega))) (by first | (simp only [packA_t, packA_f, iE, bE, setAt, cellsA, Value.cells, map_vc, map_vn, Nat.reduceAdd, qS, iE, one_iE, app_m] <;> rfl) | rfl)) trivial rfl ?_
  refine al_ro' (ro_call (evL_cons up_h evL_nil) (by first | rfl | (simp only [roO.roL, roO, Bool.and_true, Bool.true_and]; (apply roL_flat; intro _; rfl))) (windows_ok t ht) q4_hcf47) trivial rfl ?_
  refine al_ro' (ro_move ev_c) trivial rfl ?_
  refine al_end (fun e_7 he_7 => ?_)
  have s2_7 := ef 2 he_7 (up_m rfl (u2 rfl s2_6))
  have s5_7 := ef 5 he_7 (up_m rfl (u2 rfl s5_6))
  have s6_7 := ef 6 he_7 (up_m rfl (u2 rfl s6_6))
  have s12_7 := ef 12 he_7 (up_m rfl up_h)
  have s13_7 := ef 13 he_7 up_h
  clear he_7 s2_6 s5_6 s6_6
  refine then_n ?_
  refine aw_block ?_
  refine aw_adopt 3 1 s5_7 ml_5 (fun m_8 e_8 hm_8 he_8 => ?_)
  have mo2_8 := m_push hm_8 ml_5
  have mo1_8 := m_push_o hm_8 mo1_5
  have mo0_8 := m_push_o hm_8 mo0_5
  have ml_8 := m_push_l hm_8 ml_5
  have ml_8 : _ = 3 := ml_8
  have s2_8 : evA e_8 (.tmp 2) = _ := (congrArg (fun q => evA q (.tmp 2)) he_8).trans (up_m rfl s2_7)
  have s5_8 : evA e_8 (.tmp 5) = _ := (congrArg (fun q => evA q (.tmp 5)) he_8).trans up_h
  have s6_8 : evA e_8 (.tmp 6) = _ := (congrArg (fun q => evA q (.tmp 6)) he_8).trans (up_m rfl s6_7)
  have s12_8 : evA e_8 (.tmp 12) = _ := (congrArg (fun q => evA q (.tmp 12)) he_8).trans (up_m rfl s12_7)
  have s13_8 : evA e_8 (.tmp 13) = _ := (congrArg (fun q => evA q (.tmp 13)) he_8).trans (up_m rfl s13_7)
  clear hm_8 he_8
  refine aw_loop (S := (Int × List Int)) (fun s e mem => match s with | ⟨i, ys⟩ => (evA e (.tmp 13) = .v (.int .i64 i)) ∧ (evA e (.tmp 2) = evA e_8 (.tmp 2)) ∧ (evA e (.tmp 6) = evA e_8 (.tmp 6)) ∧ (evA e (.tmp 12) = evA e_8 (.tmp 12)) ∧ (mem[1]? = m_8[1]?) ∧ (mem[0]? = m_8[0]?) ∧ (∃ j, evA e (.tmp 5) = .own j ∧ mem[j]? = some (.row 3 1 (ys.map iE)) ∧ j ≠ 1 ∧ j ≠ 0) ∧ (∃ n, mem.length = n ∧ 3 ≤ n) ∧ ((0 ≤ i ∧ i ≤ wnd t ∧ ys = neaV t xs i.toNat))) (fun s => match s with | ⟨i, ys⟩ => (wnd t - i).toNat) ⟨_, []⟩ ⟨s13_8, rfl, rfl, rfl, rfl, rfl, ⟨_, s5_8, mo2_8, (by decide), (by decide)⟩, ⟨_, ml_8, Nat.le_refl _⟩, ?_⟩ ?_
  · (exact ⟨by omega, by omega, rfl⟩)
  · rintro ⟨i, ys⟩ e_9 m_9 ⟨s13_9, k2_9, k6_9, k12_9, mk1_9, mk0_9, ⟨j5_9, s5_9, mo_j5_9, nj5_1_9, nj5_0_9⟩, ⟨n_9, ml_9, hn_9⟩, hinv⟩
    have s2_9 := k2_9.trans s2_8
    have s6_9 := k6_9.trans s6_8
    have s12_9 := k12_9.trans s12_8
    have mo1_9 := mk1_9.trans mo1_8
    have mo0_9 := mk0_9.trans mo0_8
    have jl5_9 := m_lt mo_j5_9 ml_9
    (obtain ⟨p1, p2, p3⟩ := hinv; have hyl := neaV_len t xs i.toNat; rw [← p3] at hyl; have hd := dfN_bd (wat t i) (padW xs) 12)
    refine aw_seq ?_
    refine aw_text (by kernel_rfl) ?_
    refine al_ro' (ro_lss s13_9 s12_9) trivial rfl ?_
    refine al_end (fun e_10 he_10 => ?_)
    have s2_10 := ef 2 he_10 (up_m rfl s2_9)
    have s5_10 := ef 5 he_10 (up_m rfl s5_9)
    have s6_10 := ef 6 he_10 (up_m rfl s6_9)
    have s12_10 := ef 12 he_10 (up_m rfl s12_9)
    have s13_10 := ef 13 he_10 (up_m rfl s13_9)
    have s14_10 := ef 14 he_10 up_h
    clear he_10 s12_9 s13_9 s2_9 s5_9 s6_9
    refine then_n ?_
    refine aw_seq ?_
    refine aw_case s14_10 (fun hq_11 => ?_) (fun hq_11 => ?_)
    · (first | replace hq_11 := bnt hq_11 | replace hq_11 := bnf hq_11 | replace hq_11 := bt hq_11 | replace hq_11 := bf hq_11 | replace hq_11 := bt' hq_11 | replace hq_11 := bf' hq_11 | skip)
      first
      | (cases hq_11; done) | (exfalso; omega)
      | (
         refine aw_skip ?_
         refine then_n ?_
         refine aw_seq ?_
         refine aw_block ?_
         refine aw_seq ?_
         refine aw_text (by kernel_rfl) ?_
         refine al_ro' (ro_move s13_10) trivial rfl ?_
         refine al_ro' (ro_assign up_h) trivial rfl ?_
         refine al_end (fun e_12 he_12 => ?_)
         have s2_12 := ef 2 he_12 (u2 rfl s2_10)
         have s5_12 := ef 5 he_12 (u2 rfl s5_10)
         have s6_12 := ef 6 he_12 (u2 rfl s6_10)
         have s7_12 := ef 7 he_12 up_h
         have s12_12 := ef 12 he_12 (u2 rfl s12_10)
         have s13_12 := ef 13 he_12 (u2 rfl s13_10)
         clear he_12 s12_10 s13_10 s14_10 s2_10 s5_10 s6_10
         refine then_n ?_
         refine aw_seq ?_
         refine aw_draw 9 (by kernel_rfl) (by kernel_rfl) (by kernel_rfl) (by kernel_rfl) ?_
         refine ds_ro' (ro_eq (ro_ld_ptr q4_ty90 rfl mo0_9 s2_12 (by first | exact Nat.le_of_ble_eq_true rfl | omega | (simp only [lnS] <;> omega) | (simp <;> omega))) (by first | (simp only [packA_t, packA_f, iE, bE, setAt, cellsA, Value.cells, map_vc, map_vn, Nat.reduceAdd, qS, iE, one_iE, app_m] <;> rfl) | rfl)) trivial rfl ?_
         refine ds_ro' (ro_move (up_m rfl s7_12)) trivial rfl ?_
         refine ds_ro' (ro_call (evL_cons (up_m rfl up_h) (evL_cons up_h evL_nil)) (by first | rfl | (simp only [roO.roL, roO, Bool.and_true, Bool.true_and]; (apply roL_flat; intro _; rfl))) (at_ok t ht i (by omega)) q4_hcf48) trivial rfl ?_
         refine ds_ro' (ro_ld_all q4_ty94 mo1_9 (up_m rfl (u2 rfl s6_12)) (by first | rfl | (rw [flat_map_len (k := 1)] <;> first | omega | (intro _; rfl)))) trivial rfl ?_
         refine ds_ro' (ro_call (evL_cons (up_m rfl up_h) (evL_cons up_h evL_nil)) (by first | rfl | (simp only [roO.roL, roO, Bool.and_true, Bool.true_and]; (apply roL_flat; intro _; rfl))) (differ_ok (wat t i) (padW xs) (wat_len _ _) hp) q4_hcf97) trivial rfl ?_
         refine ds_ro' (ro_fld_ptr q4_fl90_0 rfl (up_m rfl (u4 rfl s2_12))) trivial rfl ?_
         refine ds_ro' (ro_fld_ptr q4_fl24_7 rfl up_h) trivial rfl ?_
         refine ds_ro' (ro_eq (ro_ld_ptr q4_ty3 rfl mo0_9 up_h (by first | exact Nat.le_of_ble_eq_true rfl | omega | (simp only [lnS] <;> omega) | (simp <;> omega))) (by first | (simp only [packA_t, packA_f, iE, bE, setAt, cellsA, Value.cells, map_vc, map_vn, Nat.reduceAdd, qS, iE, one_iE, app_m] <;> rfl) | rfl)) trivial rfl ?_
         refine ds_ro' (ro_leq (up_m rfl (u2 rfl up_h)) up_h) trivial rfl ?_
         refine ds_nil ?_
         refine al_end (fun e_13 he_13 => ?_)
         have s2_13 := ef 2 he_13 (up_m rfl (u8 rfl s2_12))
         have s5_13 := ef 5 he_13 (up_m rfl (u8 rfl s5_12))
         have s6_13 := ef 6 he_13 (up_m rfl (u8 rfl s6_12))
         have s7_13 := ef 7 he_13 (up_m rfl (u8 rfl s7_12))
         have s12_13 := ef 12 he_13 (up_m rfl (u8 rfl s12_12))
         have s13_13 := ef 13 he_13 (up_m rfl (u8 rfl s13_12))
         have s24_13 := ef 24 he_13 up_h
         clear he_13 s12_12 s13_12 s2_12 s5_12 s6_12 s7_12
         refine then_n ?_
         refine aw_case s24_13 (fun hq_14 => ?_) (fun hq_14 => ?_)
         · (first | replace hq_14 := bnt hq_14 | replace hq_14 := bnf hq_14 | replace hq_14 := bt hq_14 | replace hq_14 := bf hq_14 | replace hq_14 := bt' hq_14 | replace hq_14 := bf' hq_14 | skip)
           first
           | (cases hq_14; done) | (exfalso; omega)
           | (
              refine aw_text (by kernel_rfl) ?_
              refine al_ro' (ro_move s5_13) trivial rfl ?_
              refine al_ro' (ro_move (up_m rfl s7_13)) trivial rfl ?_
              refine al_ro' (ro_lit q4_sl22 (evP_cons up_h evP_nil) rfl rfl rfl rfl) trivial rfl ?_
              refine al_stm (st_app q4_sl22 rfl ml_9 mo_j5_9 (u2 rfl up_h) up_h (by first | rfl | (simp [oneA]; done)) (by first | omega | (simp only [lnS] <;> omega) | (simp <;> omega))) trivial rfl (fun m_15 hm_15 => ?_)
              have mon_9_15 := m_swap hm_15 ml_9
              (try simp only [packA_t, packA_f, iE, bE, setAt, cellsA, Value.cells, map_vc, map_vn, Nat.reduceAdd, qS, iE, one_iE, app_m] at mon_9_15)
              have mo1_15 := m_swap_o hm_15 mo1_9 (by omega)
              have mo0_15 := m_swap_o hm_15 mo0_9 (by omega)
              have ml_15 := m_swap_l hm_15 ml_9
              clear hm_15 mo1_9 mo0_9 mo_j5_9
              refine al_ro' (ro_assign up_h) trivial rfl ?_
              refine al_end (fun e_16 he_16 => ?_)
              have s2_16 := ef 2 he_16 (up_m rfl (u4 rfl s2_13))
              have s5_16 := ef 5 he_16 up_h
              have s6_16 := ef 6 he_16 (up_m rfl (u4 rfl s6_13))
              have s12_16 := ef 12 he_16 (up_m rfl (u4 rfl s12_13))
              have s13_16 := ef 13 he_16 (up_m rfl (u4 rfl s13_13))
              clear he_16 s12_13 s13_13 s24_13 s2_13 s5_13 s6_13 s7_13
              refine block_n ?_
              refine then_n ?_
              refine aw_text (by kernel_rfl) ?_
              first | (refine al_ro' (ro_add' s13_16 ev_c ?_) trivial rfl ?_; · (unfold In64; omega)) | refine al_ro' (ro_add s13_16 ev_c) trivial rfl ?_
              refine al_ro' (ro_move up_h) trivial rfl ?_
              refine al_end (fun e_17 he_17 => ?_)
              have s2_17 := ef 2 he_17 (u2 rfl s2_16)
              have s5_17 := ef 5 he_17 (u2 rfl s5_16)
              have s6_17 := ef 6 he_17 (u2 rfl s6_16)
              have s12_17 := ef 12 he_17 (u2 rfl s12_16)
              have s13_17 := ef 13 he_17 up_h
              clear he_17 s12_16 s13_16 s2_16 s5_16 s6_16
              refine then_n ?_
              refine ⟨⟨_, _⟩, ⟨s13_17, (s2_17.trans s2_8.symm), (s6_17.trans s6_8.symm), (s12_17.trans s12_8.symm), (mo1_15.trans mo1_8.symm), (mo0_15.trans mo0_8.symm), ⟨_, s5_17, mon_9_15, (by omega), (by omega)⟩, ⟨_, ml_15, by omega⟩, ?_⟩, ?_⟩
              · (refine ⟨by omega, by omega, ?_⟩; rw [show (i + 1).toNat = i.toNat + 1 by omega, neaV, ← p3, Int.toNat_of_nonneg p1]; first | (rw [if_pos (by assumption)]; done) | (rw [if_neg (by assumption)]; simp; done))
              · ((try dsimp only); omega))
         · (first | replace hq_14 := bnt hq_14 | replace hq_14 := bnf hq_14 | replace hq_14 := bt hq_14 | replace hq_14 := bf hq_14 | replace hq_14 := bt' hq_14 | replace hq_14 := bf' hq_14 | skip)
           first
           | (cases hq_14; done) | (exfalso; omega)
           | (
              refine aw_skip ?_
              refine block_n ?_
              refine then_n ?_
              refine aw_text (by kernel_rfl) ?_
              first | (refine al_ro' (ro_add' s13_13 ev_c ?_) trivial rfl ?_; · (unfold In64; omega)) | refine al_ro' (ro_add s13_13 ev_c) trivial rfl ?_
              refine al_ro' (ro_move up_h) trivial rfl ?_
              refine al_end (fun e_18 he_18 => ?_)
              have s2_18 := ef 2 he_18 (u2 rfl s2_13)
              have s5_18 := ef 5 he_18 (u2 rfl s5_13)
              have s6_18 := ef 6 he_18 (u2 rfl s6_13)
              have s12_18 := ef 12 he_18 (u2 rfl s12_13)
              have s13_18 := ef 13 he_18 up_h
              clear he_18 s12_13 s13_13 s24_13 s2_13 s5_13 s6_13 s7_13
              refine then_n ?_
              refine ⟨⟨_, _⟩, ⟨s13_18, (s2_18.trans s2_8.symm), (s6_18.trans s6_8.symm), (s12_18.trans s12_8.symm), (mo1_9.trans mo1_8.symm), (mo0_9.trans mo0_8.symm), ⟨_, s5_18, mo_j5_9, nj5_1_9, nj5_0_9⟩, ⟨_, ml_9, by omega⟩, ?_⟩, ?_⟩
              · (refine ⟨by omega, by omega, ?_⟩; rw [show (i + 1).toNat = i.toNat + 1 by omega, neaV, ← p3, Int.toNat_of_nonneg p1]; first | (rw [if_pos (by assumption)]; done) | (rw [if_neg (by assumption)]; simp; done))
              · ((try dsimp only); omega)))
    · (first | replace hq_11 := bnt hq_11 | replace hq_11 := bnf hq_11 | replace hq_11 := bt hq_11 | replace hq_11 := bf hq_11 | replace hq_11 := bt' hq_11 | replace hq_11 := bf' hq_11 | skip)
      first
      | (cases hq_11; done) | (exfalso; omega)
      | (
         refine aw_exit ?_
         refine then_x ?_
         refine then_x ?_
         refine block_hit ?_
         refine then_n ?_
         refine aw_seq ?_
         refine aw_text (by kernel_rfl) ?_
         refine al_ro' (ro_move s5_10) trivial rfl ?_
         refine al_ro' (ro_assign up_h) trivial rfl ?_
         refine al_end (fun e_19 he_19 => ?_)
         have s4_19 := ef 4 he_19 up_h
         clear he_19 s12_10 s13_10 s14_10 s2_10 s5_10 s6_10
         refine then_n ?_
         refine aw_ret ?_
         refine ret1 (.inr rfl) (by kernel_rfl) (resV_tmp s4_19) (.own _ _ _ _ mo_j5_9) ?_
         clear s4_19 mo1_9 mo0_9 mo_j5_9 ml_9
         (rw [p3, show i.toNat = (wnd t).toNat by omega]))
set_option maxRecDepth 100000 in
set_option maxHeartbeats 4000000 in
theorem windowAt_ok (t : Trk) (ht : RT t) (i : Int) (hi : 0 ≤ i ∧ i < wnd t) : FnOk Try.prog 14 [qA t, zA i] (fun q => q = .tuple [.row 1 (((wat t i).take t.win.toNat).map iE), zA 0]) := by
  have h1 := ht.wnd
  have h2 := ht.win
  have hw : withinB i 0 (wnd t - 1) = true := by simp [withinB]; omega
  have hwl := wat_len t i
  refine fnOk_of (fn := Try.f14) 31 (by kernel_rfl) rfl (by kernel_rfl) (Nat.le_of_ble_eq_true rfl) ?_
  intro e_0 m_0 hA hm_0
  have s0_0 : evA e_0 (.tmp 0) = _ := hA 0 _ rfl
  have s1_0 : evA e_0 (.tmp 1) = _ := hA 1 _ rfl
  have ml_0 : m_0.length = 0 := by rw [hm_0]; rfl
  clear hA hm_0
  refine aw_seq ?_
  refine aw_text (by kernel_rfl) ?_
  refine al_stm (st_box s0_0 rfl ml_0) trivial rfl (fun m_1 hm_1 => ?_)
  have mo0_1 := m_push hm_1 ml_0
  (try simp only [packA_t, packA_f, iE, bE, setAt, cellsA, Value.cells, map_vc, map_vn, Nat.reduceAdd, qS, iE, tk_m] at mo0_1)
  have ml_1 := m_push_l hm_1 ml_0
  have ml_1 : _ = 1 := ml_1
  clear hm_1
  refine al_ro' (ro_assign ev_c) trivial rfl ?_
  refine al_ro' (ro_assign ev_c) trivial rfl ?_
  refine al_end (fun e_2 he_2 => ?_)
  have s1_2 := ef 1 he_2 (up_m rfl (u2 rfl s1_0))
  have s2_2 := ef 2 he_2 (u2 rfl up_h)
  clear he_2 s0_0 s1_0
  refine then_n ?_
  refine aw_seq ?_
  refine aw_text (by kernel_rfl) ?_
  refine al_ro' (ro_eq (ro_ld_ptr q4_ty24 rfl mo0_1 s2_2 (by first | exact Nat.le_of_ble_eq_true rfl | omega | (simp only [lnS] <;> omega) | (simp <;> omega))) (by first | (simp only [packA_t, packA_f, iE, bE, setAt, cellsA, Value.cells, map_vc, map_vn, Nat.reduceAdd, qS, iE, tk_m] <;> rfl) | rfl)) trivial rfl ?_
  refine al_ro' (ro_call (evL_cons up_h evL_nil) (by first | rfl | (simp only [roO.roL, roO, Bool.and_true, Bool.true_and]; (apply roL_flat; intro _; rfl))) (qOpen_ok t ht) q4_hcf46) trivial rfl ?_
  refine al_ro' (ro_move up_h) trivial rfl ?_
  refine al_ro' (ro_extract up_h rfl) trivial rfl ?_
  refine al_ro' (ro_extract (up_m rfl up_h) rfl) trivial rfl ?_
  refine al_stm (st_alloc q4_az90 rfl ml_1) trivial rfl (fun m_3 hm_3 => ?_)
  have mo1_3 := m_push hm_3 ml_1
  (try simp only [packA_t, packA_f, iE, bE, setAt, cellsA, Value.cells, map_vc, map_vn, Nat.reduceAdd, qS, iE, tk_m] at mo1_3)
  have mo0_3 := m_push_o hm_3 mo0_1
  have ml_3 := m_push_l hm_3 ml_1
  have ml_3 : _ = 2 := ml_3
  clear hm_3 mo0_1
  refine al_stm (st_store up_h (u2 rfl up_h) rfl rfl mo1_3 q4_sz90 rfl (by first | exact Nat.le_of_ble_eq_true rfl | omega | (simp only [lnS] <;> omega) | (simp <;> omega))) trivial rfl (fun m_4 hm_4 => ?_)
  have mo1_4 := m_set hm_4 mo1_3
  (try simp only [packA_t, packA_f, iE, bE, setAt, cellsA, Value.cells, map_vc, map_vn, Nat.reduceAdd, qS, iE, tk_m] at mo1_4)
  have mo0_4 := m_set_o hm_4 mo0_3 (by decide)
  have ml_4 := m_set_l hm_4 ml_3
  clear hm_4 mo1_3 mo0_3
  refine al_ro' (ro_assign (up_n (up_m rfl up_h))) trivial rfl ?_
  refine al_end (fun e_5 he_5 => ?_)
  have s1_5 := ef 1 he_5 (up_m rfl (up_n (u2 rfl (u4 rfl s1_2))))
  have s2_5 := ef 2 he_5 (up_m rfl (up_n (u2 rfl (u4 rfl s2_2))))
  have s6_5 := ef 6 he_5 (up_m rfl (up_n up_h))
  have s7_5 := ef 7 he_5 up_h
  clear he_5 s1_2 s2_2
  refine then_n ?_
  refine aw_seq ?_
  refine aw_seq ?_
  refine aw_text (by kernel_rfl) ?_
  refine al_ro' (ro_move s7_5) trivial rfl ?_
  refine al_ro' (ro_neq up_h ev_c) trivial rfl ?_
  refine al_end (fun e_6 he_6 => ?_)
  have s1_6 := ef 1 he_6 (u2 rfl s1_5)
  have s2_6 := ef 2 he_6 (u2 rfl s2_5)
  have s6_6 := ef 6 he_6 (u2 rfl s6_5)
  have s7_6 := ef 7 he_6 (u2 rfl s7_5)
  have s15_6 := ef 15 he_6 up_h
  clear he_6 s1_5 s2_5 s6_5 s7_5
  refine then_n ?_
  refine aw_case s15_6 (fun hq_7 => ?_) (fun hq_7 => ?_)
  · (first | replace hq_7 := bnt hq_7 | replace hq_7 := bnf hq_7 | replace hq_7 := bt hq_7 | replace hq_7 := bf hq_7 | replace hq_7 := bt' hq_7 | replace hq_7 := bf' hq_7 | skip)
    first
    | (cases hq_7; done) | (exfalso; omega)
    | (
       refine aw_seq ?_
       refine aw_text (by kernel_rfl) ?_
       refine al_ro' (ro_move s7_6) trivial rfl ?_
       refine al_ro' (ro_assign ev_c) trivial rfl ?_
       refine al_ro' (ro_assign (up_m rfl up_h)) trivial rfl ?_
       refine al_end (fun e_8 he_8 => ?_)
       have s4_8 := ef 4 he_8 (up_m rfl up_h)
       have s5_8 := ef 5 he_8 up_h
       clear he_8 s15_6 s1_6 s2_6 s6_6 s7_6
       refine then_n ?_
       refine aw_ret ?_
       refine then_r ?_
       refine ret2 (.inr rfl) (by kernel_rfl) (resV_tmp s4_8) (resV_tmp s5_8) (.nil 1) (.ro _ rfl) ?_
       clear s4_8 s5_8 mo1_4 mo0_4 ml_4
       (first | rfl | (rw [List.map_take])))
  · (first | replace hq_7 := bnt hq_7 | replace hq_7 := bnf hq_7 | replace hq_7 := bt hq_7 | replace hq_7 := bf hq_7 | replace hq_7 := bt' hq_7 | replace hq_7 := bf' hq_7 | skip)
    first
    | (cases hq_7; done) | (exfalso; omega)
    | (
       refine aw_skip ?_
       refine then_n ?_
       refine aw_seq ?_
       refine aw_seq ?_
       refine aw_text (by kernel_rfl) ?_
       refine al_ro' (ro_move s1_6) trivial rfl ?_
       refine al_ro' (ro_eq (ro_ld_ptr q4_ty90 rfl mo1_4 (up_m rfl s6_6) (by first | exact Nat.le_of_ble_eq_true rfl | omega | (simp only [lnS] <;> omega) | (simp <;> omega))) (by first | (simp only [packA_t, packA_f, iE, bE, setAt, cellsA, Value.cells, map_vc, map_vn, Nat.reduceAdd, qS, iE, tk_m] <;> rfl) | rfl)) trivial rfl ?_
       refine al_ro' (ro_call (evL_cons up_h evL_nil) (by first | rfl | (simp only [roO.roL, roO, Bool.and_true, Bool.true_and]; (apply roL_flat; intro _; rfl))) (windows_ok t ht) q4_hcf47) trivial rfl ?_
       first | (refine al_ro' (ro_sub' up_h ev_c ?_) trivial rfl ?_; · (unfold In64; omega)) | refine al_ro' (ro_sub up_h ev_c) trivial rfl ?_
       refine al_ro' (ro_call (evL_cons (up_m rfl (u2 rfl up_h)) (evL_cons ev_c (evL_cons up_h evL_nil))) (by first | rfl | (simp only [roO.roL, roO, Bool.and_true, Bool.true_and]; (apply roL_flat; intro _; rfl))) ((qWithin_ok _ _ _).mono (fun q h => h.trans (by rw [hw]))) q4_hcf42) trivial rfl ?_
       refine al_ro' (ro_not up_h) trivial rfl ?_
       refine al_end (fun e_9 he_9 => ?_)
       have s1_9 := ef 1 he_9 (u2 rfl (u4 rfl s1_6))
       have s2_9 := ef 2 he_9 (u2 rfl (u4 rfl s2_6))
       have s6_9 := ef 6 he_9 (u2 rfl (u4 rfl s6_6))
       have s22_9 := ef 22 he_9 up_h
       clear he_9 s15_6 s1_6 s2_6 s6_6 s7_6
       refine then_n ?_
       refine aw_case s22_9 (fun hq_10 => ?_) (fun hq_10 => ?_)
       · (first | replace hq_10 := bnt hq_10 | replace hq_10 := bnf hq_10 | replace hq_10 := bt hq_10 | replace hq_10 := bf hq_10 | replace hq_10 := bt' hq_10 | replace hq_10 := bf' hq_10 | skip)
         first
         | (cases hq_10; done) | (exfalso; omega)
         | (
            refine aw_seq ?_
            refine aw_text (by kernel_rfl) ?_
            refine al_ro' (ro_assign ev_c) trivial rfl ?_
            refine al_ro' (ro_assign ev_c) trivial rfl ?_
            refine al_end (fun e_11 he_11 => ?_)
            have s4_11 := ef 4 he_11 (up_m rfl up_h)
            have s5_11 := ef 5 he_11 up_h
            clear he_11 s1_9 s22_9 s2_9 s6_9
            refine then_n ?_
            refine aw_ret ?_
            refine then_r ?_
            refine ret2 (.inr rfl) (by kernel_rfl) (resV_tmp s4_11) (resV_tmp s5_11) (.nil 1) (.ro _ rfl) ?_
            clear s4_11 s5_11 mo1_4 mo0_4 ml_4
            (first | rfl | (rw [List.map_take])))
       · (first | replace hq_10 := bnt hq_10 | replace hq_10 := bnf hq_10 | replace hq_10 := bt hq_10 | replace hq_10 := bf hq_10 | replace hq_10 := bt' hq_10 | replace hq_10 := bf' hq_10 | skip)
         first
         | (cases hq_10; done) | (exfalso; omega)
         | (
            refine aw_skip ?_
            refine then_n ?_
            refine aw_seq ?_
            refine aw_text (by kernel_rfl) ?_
            refine al_ro' (ro_eq (ro_ld_ptr q4_ty90 rfl mo1_4 s6_9 (by first | exact Nat.le_of_ble_eq_true rfl | omega | (simp only [lnS] <;> omega) | (simp <;> omega))) (by first | (simp only [packA_t, packA_f, iE, bE, setAt, cellsA, Value.cells, map_vc, map_vn, Nat.reduceAdd, qS, iE, tk_m] <;> rfl) | rfl)) trivial rfl ?_
            refine al_ro' (ro_move (up_m rfl s1_9)) trivial rfl ?_
            refine al_ro' (ro_call (evL_cons (up_m rfl up_h) (evL_cons up_h evL_nil)) (by first | rfl | (simp only [roO.roL, roO, Bool.and_true, Bool.true_and]; (apply roL_flat; intro _; rfl))) (at_ok t ht i (by omega)) q4_hcf48) trivial rfl ?_
            refine al_stm (st_alloc q4_az94 rfl ml_4) trivial rfl (fun m_12 hm_12 => ?_)
            have mo2_12 := m_push hm_12 ml_4
            (try simp only [packA_t, packA_f, iE, bE, setAt, cellsA, Value.cells, map_vc, map_vn, Nat.reduceAdd, qS, iE, tk_m] at mo2_12)
            have mo1_12 := m_push_o hm_12 mo1_4
            have mo0_12 := m_push_o hm_12 mo0_4
            have ml_12 := m_push_l hm_12 ml_4
            have ml_12 : _ = 3 := ml_12
            clear hm_12 mo1_4 mo0_4
            refine al_stm (st_store_all up_h (up_m rfl up_h) rfl (by first | rfl | (apply oneL_flat; intro _; rfl)) mo2_12 q4_sz94 (by first | rfl | (rw [flat_map_len (k := 1)] <;> first | omega | (intro _; rfl))) (by first | rfl | (rw [flat_map_len (k := 1)] <;> first | omega | (intro _; rfl)))) trivial rfl (fun m_13 hm_13 => ?_)
            have mo2_13 := m_set hm_13 mo2_12
            (try simp only [packA_t, packA_f, iE, bE, setAt, cellsA, Value.cells, map_vc, map_vn, Nat.reduceAdd, qS, iE, tk_m] at mo2_13)
            have mo1_13 := m_set_o hm_13 mo1_12 (by decide)
            have mo0_13 := m_set_o hm_13 mo0_12 (by decide)
            have ml_13 := m_set_l hm_13 ml_12
            clear hm_13 mo2_12 mo1_12 mo0_12
            refine al_end (fun e_14 he_14 => ?_)
            have s2_14 := ef 2 he_14 (up_n (u4 rfl s2_9))
            have s8_14 := ef 8 he_14 (up_n up_h)
            clear he_14 s1_9 s22_9 s2_9 s6_9
            refine then_n ?_
            refine aw_seq ?_
            refine aw_freeze s8_14 mo2_13 (by first | rfl | (apply roL_flat; intro _; rfl)) (fun m_15 e_15 hm_15 he_15 => ?_)
            have mo1_15 := m_set_o hm_15 mo1_13 (by decide)
            have mo0_15 := m_set_o hm_15 mo0_13 (by decide)
            have ml_15 := m_set_l hm_15 ml_13
            have s2_15 : evA e_15 (.tmp 2) = _ := (congrArg (fun q => evA q (.tmp 2)) he_15).trans (up_m rfl s2_14)
            have s8_15 : evA e_15 (.tmp 8) = _ := (congrArg (fun q => evA q (.tmp 8)) he_15).trans up_h
            clear hm_15 he_15
            refine aw_text (by kernel_rfl) ?_
            refine al_ro' (ro_fld_ptr q4_fl24_1 rfl s2_15) trivial rfl ?_
            refine al_ro' (ro_eq (ro_ld_ptr q4_ty3 rfl mo0_15 up_h (by first | exact Nat.le_of_ble_eq_true rfl | omega | (simp only [lnS] <;> omega) | (simp <;> omega))) (by first | (simp only [packA_t, packA_f, iE, bE, setAt, cellsA, Value.cells, map_vc, map_vn, Nat.reduceAdd, qS, iE, tk_m] <;> rfl) | rfl)) trivial rfl ?_
            refine al_ro' (ro_fld_ptr q4_fl24_1 rfl (u2 rfl s2_15)) trivial rfl ?_
            refine al_ro' (ro_eq (ro_ld_ptr q4_ty3 rfl mo0_15 up_h (by first | exact Nat.le_of_ble_eq_true rfl | omega | (simp only [lnS] <;> omega) | (simp <;> omega))) (by first | (simp only [packA_t, packA_f, iE, bE, setAt, cellsA, Value.cells, map_vc, map_vn, Nat.reduceAdd, qS, iE, tk_m] <;> rfl) | rfl)) trivial rfl ?_
            refine al_ro' (ro_slarr3 q4_at94 (u4 rfl s8_15) rfl (by rintro l hl; obtain ⟨_, _, rfl⟩ := List.mem_map.1 hl; rfl) (by first | rfl | (simp only [lnS]; omega)) (u2 rfl up_h) up_h (by omega) (by omega)) trivial rfl ?_
            refine al_ro' (ro_assign up_h) trivial rfl ?_
            refine al_ro' (ro_assign ev_c) trivial rfl ?_
            refine al_end (fun e_16 he_16 => ?_)
            have s4_16 := ef 4 he_16 (up_m rfl up_h)
            have s5_16 := ef 5 he_16 up_h
            clear he_16 s2_15 s8_15
            refine then_n ?_
            refine aw_ret ?_
            refine ret2 (.inr rfl) (by kernel_rfl) (resV_tmp s4_16) (resV_tmp s5_16) (.ro _ rfl) (.ro _ rfl) ?_
            clear s4_16 s5_16 mo1_15 mo0_15 ml_15
            (first | rfl | (rw [List.map_take]))))
end Go.Proofs.Ytgiiedpambimoaa
