/- Texts of this claim, one behind the other: lemmas for the statement. -/
import Derived.Test.YtknclifdncmgpaaY1
/- Contracts of chapter 1: the checks of a line, one by one. No conditions on a program. -/
namespace Go.Proofs.Ytknclifdncmgpaa
open Go Go.RowKit Go.Proofs
set_option linter.unusedSimpArgs false
set_option linter.unusedVariables false
theorem y2_az170 : (Try.prog.info? 170).bind (·.zero) = some (.agg #[.int .i64 0, .int .i64 0, .int .i64 0]) := by kernel_rfl
theorem y2_az42 : (Try.prog.info? 42).bind (·.zero) = some (.agg #[.int .i64 0, .int .i64 0, .int .i64 0, .int .i64 0]) := by kernel_rfl
theorem y2_az47 : (Try.prog.info? 47).bind (·.zero) = some (.agg #[.int .i64 0, .int .i64 0]) := by kernel_rfl
theorem y2_bz170 : (Try.prog.info? 170).bind (·.zero) = some (.agg #[.int .i64 0, .int .i64 0, .int .i64 0]) := by kernel_rfl
theorem y2_bu170 : Try.prog.underlying 170 = some (.struct (fsOf Try.prog 170)) := by kernel_rfl
theorem y2_bp170 : ∀ w, ((fsOf Try.prog 170).mapM fun f => Prod.mk f.offset <$> sizeOf f.type : Sem (Array (Nat × Nat))).run Try.prog w = .ok (#[(0, 2), (2, 1)]) w := fun _ => by kernel_rfl
theorem y2_fl26_1 : FldIs Try.prog 26 1 1 false 1 := by unfold FldIs; kernel_rfl
theorem y2_fl26_2 : FldIs Try.prog 26 2 2 false 1 := by unfold FldIs; kernel_rfl
theorem y2_fl40_0 : FldIs Try.prog 40 0 0 false 1 := by unfold FldIs; kernel_rfl
theorem y2_fl40_1 : FldIs Try.prog 40 1 1 false 1 := by unfold FldIs; kernel_rfl
theorem y2_fl42_0 : FldIs Try.prog 42 0 0 false 1 := by unfold FldIs; kernel_rfl
theorem y2_fl42_1 : FldIs Try.prog 42 1 1 false 1 := by unfold FldIs; kernel_rfl
theorem y2_fl42_2 : FldIs Try.prog 42 2 2 true 2 := by unfold FldIs; kernel_rfl
theorem y2_fl47_0 : FldIs Try.prog 47 0 0 false 1 := by unfold FldIs; kernel_rfl
theorem y2_fl47_1 : FldIs Try.prog 47 1 1 false 1 := by unfold FldIs; kernel_rfl
theorem y2_hcf102 : ∀ args w, (callFunc 102 args).run Try.prog w = .ok (.enter 102 args) w := fun _ _ => by kernel_rfl
theorem y2_hcf143 : ∀ args w, (callFunc 143 args).run Try.prog w = .ok (.enter 143 args) w := fun _ _ => by kernel_rfl
theorem y2_hcf76 : ∀ args w, (callFunc 76 args).run Try.prog w = .ok (.enter 76 args) w := fun _ _ => by kernel_rfl
theorem y2_hcf77 : ∀ args w, (callFunc 77 args).run Try.prog w = .ok (.enter 77 args) w := fun _ _ => by kernel_rfl
theorem y2_hcf86 : ∀ args w, (callFunc 86 args).run Try.prog w = .ok (.enter 86 args) w := fun _ _ => by kernel_rfl
theorem y2_sl156 : SlIs Try.prog 156 30 1 8 (.int .i64 0) := ⟨by kernel_rfl, by kernel_rfl, by kernel_rfl⟩
theorem y2_sl22 : SlIs Try.prog 22 42 4 32 (.agg #[.int .i64 0, .int .i64 0, .int .i64 0, .int .i64 0]) := ⟨by kernel_rfl, by kernel_rfl, by kernel_rfl⟩
theorem y2_sl23 : SlIs Try.prog 23 47 2 16 (.agg #[.int .i64 0, .int .i64 0]) := ⟨by kernel_rfl, by kernel_rfl, by kernel_rfl⟩
theorem y2_sz170 : (Try.prog.info? 170).map (·.size) = some 3 := by kernel_rfl
theorem y2_sz42 : (Try.prog.info? 42).map (·.size) = some 4 := by kernel_rfl
theorem y2_sz47 : (Try.prog.info? 47).map (·.size) = some 2 := by kernel_rfl
theorem y2_ty170 : TyIs Try.prog 170 true 3 := ⟨by kernel_rfl, by kernel_rfl⟩
theorem y2_ty22 : TyIs Try.prog 22 false 1 := ⟨by kernel_rfl, by kernel_rfl⟩
theorem y2_ty23 : TyIs Try.prog 23 false 1 := ⟨by kernel_rfl, by kernel_rfl⟩
theorem y2_ty3 : TyIs Try.prog 3 false 1 := ⟨by kernel_rfl, by kernel_rfl⟩
theorem y2_ty30 : TyIs Try.prog 30 false 1 := ⟨by kernel_rfl, by kernel_rfl⟩
theorem y2_ty42 : TyIs Try.prog 42 true 4 := ⟨by kernel_rfl, by kernel_rfl⟩
theorem y2_ty47 : TyIs Try.prog 47 true 2 := ⟨by kernel_rfl, by kernel_rfl⟩

theorem avj {a b : Int} (h : a = b) : AV.v (.int .i64 a) = .v (.int .i64 b) := by rw [h]
abbrev lnC (l : Lin) : List AV := [.v (.string l.nam), .row 4 (l.js.map jnE), .row 2 (l.bs.map beE), .row 3 (l.ss.map swE)]
set_option maxRecDepth 100000 in
set_option maxHeartbeats 1000000 in
theorem yWithin_ok (n lo hi : Int) : FnOk Try.prog 77 [mA n, mA lo, mA hi] (fun q => q = tbA (withinB n lo hi)) := by
  refine fnOk_of (fn := Try.f77) 15 (by kernel_rfl) rfl (by kernel_rfl) (Nat.le_of_ble_eq_true rfl) ?_
  intro e_0 m_0 hA hm_0
  have s0_0 : evA e_0 (.tmp 0) = _ := hA 0 _ rfl
  have s1_0 : evA e_0 (.tmp 1) = _ := hA 1 _ rfl
  have s2_0 : evA e_0 (.tmp 2) = _ := hA 2 _ rfl
  have ml_0 : m_0.length = 0 := by rw [hm_0]; rfl
  clear hA hm_0
  refine aw_seq ?_
  refine aw_text (by kernel_rfl) ?_
  refine al_ro' (ro_assign ev_c) trivial rfl ?_
  refine al_end (fun e_1 he_1 => ?_)
  have s0_1 := ef 0 he_1 (up_m rfl s0_0)
  have s1_1 := ef 1 he_1 (up_m rfl s1_0)
  have s2_1 := ef 2 he_1 (up_m rfl s2_0)
  clear he_1 s0_0 s1_0 s2_0
  refine then_n ?_
  refine aw_seq ?_
  refine aw_text (by kernel_rfl) ?_
  refine al_ro' (ro_move s1_1) trivial rfl ?_
  refine al_ro' (ro_move (up_m rfl s0_1)) trivial rfl ?_
  refine al_ro' (ro_leq (up_m rfl up_h) up_h) trivial rfl ?_
  refine al_ro' (ro_move up_h) trivial rfl ?_
  refine al_case up_h (fun hb_2 hq_2 => ?_) (fun hb_2 hq_2 => ?_)
  ·replace hq_2 := bt hq_2
   refine al_ro' (ro_move (u4 rfl s0_1)) ⟨_, rfl, hb_2⟩ rfl ?_
   refine al_ro' (ro_move (up_m rfl (u4 rfl s2_1))) ⟨_, rfl, (up_m rfl hb_2)⟩ rfl ?_
   refine al_ro' (ro_leq (up_m rfl up_h) up_h) ⟨_, rfl, (u2 rfl hb_2)⟩ rfl ?_
   refine al_ro' (ro_pickT (up_m rfl (u2 rfl hb_2)) up_h) trivial rfl ?_
   refine al_ro' (ro_assign up_h) trivial rfl ?_
   refine al_end (fun e_3 he_3 => ?_)
   have s6_3 := ef 6 he_3 up_h
   clear he_3 hb_2 s0_1 s1_1 s2_1
   refine then_n ?_
   refine aw_ret ?_
   refine ret1 (.inr rfl) (by kernel_rfl) (resV_tmp s6_3) (.ro _ rfl) ?_
   clear s6_3  ml_0
   (first | rfl | (simp [withinB, *]; done) | (simp [withinB, *] <;> omega) | (simp_all [withinB]; done) | (simp_all [withinB] <;> omega))
  replace hq_2 := bf hq_2
  refine al_skip' ⟨_, rfl, .inl hb_2⟩ rfl ?_
  refine al_skip' ⟨_, rfl, .inl (up_m rfl hb_2)⟩ rfl ?_
  refine al_skip' ⟨_, rfl, .inl (u2 rfl hb_2)⟩ rfl ?_
  refine al_ro' (ro_pickF (up_m rfl (u2 rfl hb_2)) ev_c) trivial rfl ?_
  refine al_ro' (ro_assign up_h) trivial rfl ?_
  refine al_end (fun e_4 he_4 => ?_)
  have s6_4 := ef 6 he_4 up_h
  clear he_4 hb_2 s0_1 s1_1 s2_1
  refine then_n ?_
  refine aw_ret ?_
  refine ret1 (.inr rfl) (by kernel_rfl) (resV_tmp s6_4) (.ro _ rfl) ?_
  clear s6_4  ml_0
  (first | rfl | (simp [withinB, *]; done) | (simp [withinB, *] <;> omega) | (simp_all [withinB]; done) | (simp_all [withinB] <;> omega))
set_option maxRecDepth 100000 in
set_option maxHeartbeats 1000000 in
theorem ySmall_ok (n m : Int) (hm : -1000000000 ≤ m ∧ m ≤ 1000000000) : FnOk Try.prog 102 [mA n, mA m] (fun q => q = tbA (smaB n m)) := by
  refine fnOk_of (fn := Try.f102) 10 (by kernel_rfl) rfl (by kernel_rfl) (Nat.le_of_ble_eq_true rfl) ?_
  intro e_0 m_0 hA hm_0
  have s0_0 : evA e_0 (.tmp 0) = _ := hA 0 _ rfl
  have s1_0 : evA e_0 (.tmp 1) = _ := hA 1 _ rfl
  have ml_0 : m_0.length = 0 := by rw [hm_0]; rfl
  clear hA hm_0
  refine aw_seq ?_
  refine aw_text (by kernel_rfl) ?_
  refine al_ro' (ro_assign ev_c) trivial rfl ?_
  refine al_end (fun e_1 he_1 => ?_)
  have s0_1 := ef 0 he_1 (up_m rfl s0_0)
  have s1_1 := ef 1 he_1 (up_m rfl s1_0)
  clear he_1 s0_0 s1_0
  refine then_n ?_
  refine aw_seq ?_
  refine aw_text (by kernel_rfl) ?_
  refine al_ro' (ro_move s0_1) trivial rfl ?_
  refine al_ro' (ro_move (up_m rfl s1_1)) trivial rfl ?_
  (refine al_ro' (ro_neg' up_h ?_) trivial rfl ?_; · (unfold In64; omega))
  refine al_ro' (ro_move (up_m rfl (u2 rfl s1_1))) trivial rfl ?_
  refine al_ro' (ro_call (evL_cons (up_m rfl (u2 rfl up_h)) (evL_cons (up_m rfl up_h) (evL_cons up_h evL_nil))) rfl (yWithin_ok _ _ _) y2_hcf77) trivial rfl ?_
  refine al_ro' (ro_assign up_h) trivial rfl ?_
  refine al_end (fun e_2 he_2 => ?_)
  have s4_2 := ef 4 he_2 up_h
  clear he_2 s0_1 s1_1
  refine then_n ?_
  refine aw_ret ?_
  refine ret1 (.inr rfl) (by kernel_rfl) (resV_tmp s4_2) (.ro _ rfl) ?_
  clear s4_2  ml_0
  rfl
set_option maxRecDepth 100000 in
set_option maxHeartbeats 1000000 in
theorem isAcross_ok (n : Int) : FnOk Try.prog 143 [mA n] (fun q => q = tbA (smaB n 20000)) := by
  refine fnOk_of (fn := Try.f143) 5 (by kernel_rfl) rfl (by kernel_rfl) (Nat.le_of_ble_eq_true rfl) ?_
  intro e_0 m_0 hA hm_0
  have s0_0 : evA e_0 (.tmp 0) = _ := hA 0 _ rfl
  have ml_0 : m_0.length = 0 := by rw [hm_0]; rfl
  clear hA hm_0
  refine aw_seq ?_
  refine aw_text (by kernel_rfl) ?_
  refine al_ro' (ro_assign ev_c) trivial rfl ?_
  refine al_end (fun e_1 he_1 => ?_)
  have s0_1 := ef 0 he_1 (up_m rfl s0_0)
  clear he_1 s0_0
  refine then_n ?_
  refine aw_seq ?_
  refine aw_text (by kernel_rfl) ?_
  refine al_ro' (ro_move s0_1) trivial rfl ?_
  refine al_ro' (ro_call (evL_cons up_h (evL_cons ev_c evL_nil)) rfl (ySmall_ok _ _ (by decide)) y2_hcf102) trivial rfl ?_
  refine al_ro' (ro_assign up_h) trivial rfl ?_
  refine al_end (fun e_2 he_2 => ?_)
  have s2_2 := ef 2 he_2 up_h
  clear he_2 s0_1
  refine then_n ?_
  refine aw_ret ?_
  refine ret1 (.inr rfl) (by kernel_rfl) (resV_tmp s2_2) (.ro _ rfl) ?_
  clear s2_2  ml_0
  rfl
set_option maxRecDepth 100000 in
set_option maxHeartbeats 1000000 in
theorem yUnless_ok (ok : Bool) (e : Int) : FnOk Try.prog 76 [tbA ok, mA e] (fun q => q = mA (unlessE ok e)) := by
  refine fnOk_of (fn := Try.f76) 7 (by kernel_rfl) rfl (by kernel_rfl) (Nat.le_of_ble_eq_true rfl) ?_
  intro e_0 m_0 hA hm_0
  have s0_0 : evA e_0 (.tmp 0) = _ := hA 0 _ rfl
  have s1_0 : evA e_0 (.tmp 1) = _ := hA 1 _ rfl
  have ml_0 : m_0.length = 0 := by rw [hm_0]; rfl
  clear hA hm_0
  refine aw_seq ?_
  refine aw_text (by kernel_rfl) ?_
  refine al_ro' (ro_assign ev_c) trivial rfl ?_
  refine al_end (fun e_1 he_1 => ?_)
  have s0_1 := ef 0 he_1 (up_m rfl s0_0)
  have s1_1 := ef 1 he_1 (up_m rfl s1_0)
  clear he_1 s0_0 s1_0
  refine then_n ?_
  refine aw_seq ?_
  refine aw_seq ?_
  refine aw_text (by kernel_rfl) ?_
  refine al_ro' (ro_move s0_1) trivial rfl ?_
  refine al_end (fun e_2 he_2 => ?_)
  have s1_2 := ef 1 he_2 (up_m rfl s1_1)
  have s5_2 := ef 5 he_2 up_h
  clear he_2 s0_1 s1_1
  refine then_n ?_
  refine aw_case s5_2 (fun hq_3 => ?_) (fun hq_3 => ?_)
  ·skip
   refine aw_seq ?_
   refine aw_text (by kernel_rfl) ?_
   refine al_ro' (ro_assign ev_c) trivial rfl ?_
   refine al_end (fun e_4 he_4 => ?_)
   have s4_4 := ef 4 he_4 up_h
   clear he_4 s1_2 s5_2
   refine then_n ?_
   refine aw_ret ?_
   refine then_r ?_
   refine ret1 (.inr rfl) (by kernel_rfl) (resV_tmp s4_4) (.ro _ rfl) ?_
   clear s4_4  ml_0
   (first | rfl | (simp [unlessE, *]; done) | (simp [unlessE, *] <;> omega) | (simp_all [unlessE]; done) | (simp_all [unlessE] <;> omega))
  refine aw_skip ?_
  refine then_n ?_
  refine aw_seq ?_
  refine aw_text (by kernel_rfl) ?_
  refine al_ro' (ro_move s1_2) trivial rfl ?_
  refine al_ro' (ro_assign up_h) trivial rfl ?_
  refine al_end (fun e_5 he_5 => ?_)
  have s4_5 := ef 4 he_5 up_h
  clear he_5 s1_2 s5_2
  refine then_n ?_
  refine aw_ret ?_
  refine ret1 (.inr rfl) (by kernel_rfl) (resV_tmp s4_5) (.ro _ rfl) ?_
  clear s4_5  ml_0
  (first | rfl | (simp [unlessE, *]; done) | (simp [unlessE, *] <;> omega) | (simp_all [unlessE]; done) | (simp_all [unlessE] <;> omega))
set_option maxRecDepth 100000 in
set_option maxHeartbeats 1000000 in
theorem yFirst_ok (l : List Int) (hl : l.length ≤ 1000) : FnOk Try.prog 86 [.row 1 (l.map iE)] (fun q => q = mA (firstE l)) := by
  refine fnOk_of (fn := Try.f86) 15 (by kernel_rfl) rfl (by kernel_rfl) (Nat.le_of_ble_eq_true rfl) ?_
  intro e_0 m_0 hA hm_0
  have s0_0 : evA e_0 (.tmp 0) = _ := hA 0 _ rfl
  have ml_0 : m_0.length = 0 := by rw [hm_0]; rfl
  clear hA hm_0
  refine aw_seq ?_
  refine aw_text (by kernel_rfl) ?_
  refine al_ro' (ro_assign ev_c) trivial rfl ?_
  refine al_end (fun e_1 he_1 => ?_)
  have s0_1 := ef 0 he_1 (up_m rfl s0_0)
  clear he_1 s0_0
  refine then_n ?_
  refine aw_seq ?_
  refine aw_seq ?_
  refine aw_text (by kernel_rfl) ?_
  refine al_ro' (ro_move s0_1) trivial rfl ?_
  refine al_ro' (ro_eq (ro_len_row up_h rfl y2_sl156.1) (by simp only [lnS] <;> rfl)) trivial rfl ?_
  refine al_ro' (ro_move ev_c) trivial rfl ?_
  refine al_end (fun e_2 he_2 => ?_)
  have s5_2 := ef 5 he_2 (u2 rfl up_h)
  have s6_2 := ef 6 he_2 (up_m rfl up_h)
  have s7_2 := ef 7 he_2 up_h
  clear he_2 s0_1
  refine then_n ?_
  refine aw_block ?_
  refine aw_loop (S := Int) (fun i e mem => (evA e (.tmp 7) = .v (.int .i64 i)) ∧ (evA e (.tmp 5) = evA e_2 (.tmp 5)) ∧ (evA e (.tmp 6) = evA e_2 (.tmp 6)) ∧ (mem.length = 0) ∧ ((0 ≤ i ∧ i ≤ l.length ∧ firstE (l.drop i.toNat) = firstE l))) (fun i => (l.length - i).toNat) _ ⟨s7_2, rfl, rfl, ml_0, ?_⟩ ?_
  · exact ⟨by omega, by omega, rfl⟩
  · rintro i e_3 m_3 ⟨s7_3, k5_3, k6_3, ml_3, hinv⟩
    have s5_3 := k5_3.trans s5_2
    have s6_3 := k6_3.trans s6_2
    refine aw_seq ?_
    refine aw_text (by kernel_rfl) ?_
    refine al_ro' (ro_lss s7_3 s6_3) trivial rfl ?_
    refine al_end (fun e_4 he_4 => ?_)
    have s5_4 := ef 5 he_4 (up_m rfl s5_3)
    have s6_4 := ef 6 he_4 (up_m rfl s6_3)
    have s7_4 := ef 7 he_4 (up_m rfl s7_3)
    have s8_4 := ef 8 he_4 up_h
    clear he_4 s5_3 s6_3 s7_3
    refine then_n ?_
    refine aw_seq ?_
    refine aw_case s8_4 (fun hq_5 => ?_) (fun hq_5 => ?_)
    ·replace hq_5 := bt hq_5
     refine aw_skip ?_
     refine then_n ?_
     refine aw_seq ?_
     refine aw_block ?_
     refine aw_seq ?_
     refine aw_text (by kernel_rfl) ?_
     refine al_ro' (ro_eq (ro_ix y2_sl156 s5_4 s7_4 (by omega) (by first | (refine idx_map ?_; first | omega | (simp only [lnS]; omega)) | (refine idx_mapI ?_; first | omega | (simp only [lnS]; omega)) | (refine idx_mapN ?_; first | omega | (simp only [lnS]; omega)) | rfl)) (by simp only [packA_t, packA_f, iE, bE, setAt, cellsA, Value.cells, map_vc, map_vn, Nat.reduceAdd, qS] <;> rfl)) trivial rfl ?_
     refine al_ro' (ro_eq (ro_ld_ref y2_ty30 rfl up_h (by exact Nat.le_of_ble_eq_true rfl)) (by simp only [packA_t, packA_f, iE, bE, setAt, cellsA, Value.cells, map_vc, map_vn, Nat.reduceAdd, qS] <;> rfl)) trivial rfl ?_
     refine al_ro' (ro_assign up_h) trivial rfl ?_
     refine al_end (fun e_6 he_6 => ?_)
     have s4_6 := ef 4 he_6 up_h
     have s5_6 := ef 5 he_6 (up_m rfl (u2 rfl s5_4))
     have s6_6 := ef 6 he_6 (up_m rfl (u2 rfl s6_4))
     have s7_6 := ef 7 he_6 (up_m rfl (u2 rfl s7_4))
     clear he_6 s5_4 s6_4 s7_4 s8_4
     refine then_n ?_
     refine aw_seq ?_
     refine aw_text (by kernel_rfl) ?_
     refine al_ro' (ro_move s4_6) trivial rfl ?_
     refine al_ro' (ro_neq up_h ev_c) trivial rfl ?_
     refine al_end (fun e_7 he_7 => ?_)
     have s4_7 := ef 4 he_7 (u2 rfl s4_6)
     have s5_7 := ef 5 he_7 (u2 rfl s5_6)
     have s6_7 := ef 6 he_7 (u2 rfl s6_6)
     have s7_7 := ef 7 he_7 (u2 rfl s7_6)
     have s12_7 := ef 12 he_7 up_h
     clear he_7 s4_6 s5_6 s6_6 s7_6
     refine then_n ?_
     refine aw_case s12_7 (fun hq_8 => ?_) (fun hq_8 => ?_)
     ·replace hq_8 := bnt hq_8
      refine aw_seq ?_
      refine aw_text (by kernel_rfl) ?_
      refine al_ro' (ro_move s4_7) trivial rfl ?_
      refine al_ro' (ro_assign up_h) trivial rfl ?_
      refine al_end (fun e_9 he_9 => ?_)
      have s2_9 := ef 2 he_9 up_h
      clear he_9 s12_7 s4_7 s5_7 s6_7 s7_7
      refine then_n ?_
      refine aw_ret ?_
      refine block_r ?_
      refine then_r ?_
      refine then_r ?_
      refine block_r ?_
      refine then_r ?_
      refine ret1 (.inr rfl) (by kernel_rfl) (resV_tmp s2_9) (.ro _ rfl) ?_
      clear s2_9  ml_3
      obtain ⟨h1, h2, h3⟩ := hinv; rw [← h3, firstE_drop (i := i.toNat) (by omega), if_neg (by assumption)]; rfl
     replace hq_8 := bnf hq_8
     refine aw_skip ?_
     refine block_n ?_
     refine then_n ?_
     refine aw_text (by kernel_rfl) ?_
     (refine al_ro' (ro_add' s7_7 ev_c ?_) trivial rfl ?_; · (unfold In64; omega))
     refine al_ro' (ro_move up_h) trivial rfl ?_
     refine al_end (fun e_10 he_10 => ?_)
     have s5_10 := ef 5 he_10 (u2 rfl s5_7)
     have s6_10 := ef 6 he_10 (u2 rfl s6_7)
     have s7_10 := ef 7 he_10 up_h
     clear he_10 s12_7 s4_7 s5_7 s6_7 s7_7
     refine then_n ?_
     refine ⟨_, ⟨s7_10, (s5_10.trans s5_2.symm), (s6_10.trans s6_2.symm), ml_3, ?_⟩, ?_⟩
     · (obtain ⟨h1, h2, h3⟩ := hinv; refine ⟨by omega, by omega, ?_⟩; rw [← h3, firstE_drop (i := i.toNat) (by omega), if_pos (by assumption)]; congr 2; omega)
     · ((try dsimp only); omega)
    replace hq_5 := bf hq_5
    refine aw_exit ?_
    refine then_x ?_
    refine then_x ?_
    refine block_hit ?_
    refine then_n ?_
    refine aw_seq ?_
    refine aw_text (by kernel_rfl) ?_
    refine al_ro' (ro_assign ev_c) trivial rfl ?_
    refine al_end (fun e_11 he_11 => ?_)
    have s2_11 := ef 2 he_11 up_h
    clear he_11 s5_4 s6_4 s7_4 s8_4
    refine then_n ?_
    refine aw_ret ?_
    refine ret1 (.inr rfl) (by kernel_rfl) (resV_tmp s2_11) (.ro _ rfl) ?_
    clear s2_11  ml_3
    obtain ⟨h1, h2, h3⟩ := hinv; rw [← h3, List.drop_eq_nil_of_le (by omega)]; rfl
/-! ### Closures -/
abbrev itC (e : Int) : AV := .clo (.func 138) [] [.ref [mA e]]
abbrev eaC (k n : Int) (look : AV) : AV := .clo (.func 140) [] [.ref [mA n], .ref [look], .ref [mA k]]
abbrev fuA (k n e : Int) : AV := .agg [mA k, mA n, mA e]
set_option maxRecDepth 100000 in
set_option maxHeartbeats 1000000 in
theorem itself_ok (e : Int) : FnOk Try.prog 137 [mA e] (fun q => q = itC e) := by
  refine fnOk_of (fn := Try.f137) 4 (by kernel_rfl) rfl (by kernel_rfl) (Nat.le_of_ble_eq_true rfl) ?_
  intro e_0 m_0 hA hm_0
  have s0_0 : evA e_0 (.tmp 0) = _ := hA 0 _ rfl
  have ml_0 : m_0.length = 0 := by rw [hm_0]; rfl
  clear hA hm_0
  refine aw_seq ?_
  refine aw_text (by kernel_rfl) ?_
  refine al_ro' (ro_boxR s0_0 rfl (by first | rfl | (simp only [roO.roL, roO, Bool.and_true, Bool.true_and]; first | rfl | assumption) | (apply roL_flat; intro _; rfl))) trivial rfl ?_
  refine al_ro' (ro_assign ev_c) trivial rfl ?_
  refine al_end (fun e_1 he_1 => ?_)
  have s1_1 := ef 1 he_1 (up_m rfl up_h)
  clear he_1 s0_0
  refine then_n ?_
  refine aw_seq ?_
  refine aw_text (by kernel_rfl) ?_
  refine al_ro' (ro_makeFunc evL_nil (evL_cons s1_1 evL_nil)) trivial rfl ?_
  refine al_ro' (ro_assign up_h) trivial rfl ?_
  refine al_end (fun e_2 he_2 => ?_)
  have s2_2 := ef 2 he_2 up_h
  clear he_2 s1_1
  refine then_n ?_
  refine aw_ret ?_
  refine ret1 (.inr rfl) (by kernel_rfl) (resV_tmp s2_2) (.ro _ rfl) ?_
  clear s2_2  ml_0
  rfl
set_option maxRecDepth 100000 in
set_option maxHeartbeats 1000000 in
theorem itself1_ok (e : Int) : FnOk Try.prog 138 [.ref [mA e]] (fun q => q = fuA 0 0 e) := by
  refine fnOk_of (fn := Try.f138) 4 (by kernel_rfl) rfl (by kernel_rfl) (Nat.le_of_ble_eq_true rfl) ?_
  intro e_0 m_0 hA hm_0
  have s0_0 : evA e_0 (.tmp 0) = _ := hA 0 _ rfl
  have ml_0 : m_0.length = 0 := by rw [hm_0]; rfl
  clear hA hm_0
  refine aw_seq ?_
  refine aw_text (by kernel_rfl) ?_
  refine al_stm (st_alloc y2_az170 rfl ml_0) trivial rfl (fun m_1 hm_1 => ?_)
  have mo0_1 := m_push hm_1 ml_0
  simp only [packA_t, packA_f, iE, bE, setAt, cellsA, Value.cells, map_vc, map_vn, Nat.reduceAdd, qS] at mo0_1
  have ml_1 := m_push_l hm_1 ml_0
  have ml_1 : _ = 1 := ml_1
  clear hm_1
  refine al_end (fun e_2 he_2 => ?_)
  have s0_2 := ef 0 he_2 (up_m rfl s0_0)
  have s1_2 := ef 1 he_2 up_h
  clear he_2 s0_0
  refine then_n ?_
  refine aw_seq ?_
  refine aw_text (by kernel_rfl) ?_
  refine al_ro' (ro_eq (ro_ld_ref y2_ty30 rfl s0_2 (by exact Nat.le_of_ble_eq_true rfl)) (by simp only [packA_t, packA_f, iE, bE, setAt, cellsA, Value.cells, map_vc, map_vn, Nat.reduceAdd, qS] <;> rfl)) trivial rfl ?_
  refine al_ro' (ro_build (evP_cons up_h evP_nil) y2_bz170 y2_bu170 y2_bp170 rfl) trivial rfl ?_
  refine al_stm (st_store (u2 rfl s1_2) up_h rfl rfl mo0_1 y2_sz170 rfl (by exact Nat.le_of_ble_eq_true rfl)) trivial rfl (fun m_3 hm_3 => ?_)
  have mo0_3 := m_set hm_3 mo0_1
  simp only [packA_t, packA_f, iE, bE, setAt, cellsA, Value.cells, map_vc, map_vn, Nat.reduceAdd, qS] at mo0_3
  have ml_3 := m_set_l hm_3 ml_1
  clear hm_3 mo0_1
  refine al_end (fun e_4 he_4 => ?_)
  have s1_4 := ef 1 he_4 (up_n (u2 rfl s1_2))
  clear he_4 s0_2 s1_2
  refine then_n ?_
  refine aw_ret ?_
  refine ret1 (.inr rfl) (by kernel_rfl) (resV_cell s1_4 mo0_3 y2_ty170 (by exact Nat.le_of_ble_eq_true rfl) (by simp)) (vw_r (.ro _ rfl)) ?_
  clear s1_4 mo0_3 ml_3
  rfl
set_option maxRecDepth 100000 in
set_option maxHeartbeats 1000000 in
theorem each_ok (k n : Int) (fn : Fn) (m : List AV) (hm : roO.roL m = true) : FnOk Try.prog 139 [mA k, mA n, .clo fn [] m] (fun q => q = eaC k n (.clo fn [] m)) := by
  refine fnOk_of (fn := Try.f139) 8 (by kernel_rfl) rfl (by kernel_rfl) (Nat.le_of_ble_eq_true rfl) ?_
  intro e_0 m_0 hA hm_0
  have s0_0 : evA e_0 (.tmp 0) = _ := hA 0 _ rfl
  have s1_0 : evA e_0 (.tmp 1) = _ := hA 1 _ rfl
  have s2_0 : evA e_0 (.tmp 2) = _ := hA 2 _ rfl
  have ml_0 : m_0.length = 0 := by rw [hm_0]; rfl
  clear hA hm_0
  refine aw_seq ?_
  refine aw_text (by kernel_rfl) ?_
  refine al_ro' (ro_boxR s0_0 rfl (by first | rfl | (simp only [roO.roL, roO, Bool.and_true, Bool.true_and]; first | rfl | assumption) | (apply roL_flat; intro _; rfl))) trivial rfl ?_
  refine al_ro' (ro_boxR (up_m rfl s1_0) rfl (by first | rfl | (simp only [roO.roL, roO, Bool.and_true, Bool.true_and]; first | rfl | assumption) | (apply roL_flat; intro _; rfl))) trivial rfl ?_
  refine al_ro' (ro_boxR (u2 rfl s2_0) rfl (by first | rfl | (simp only [roO.roL, roO, Bool.and_true, Bool.true_and]; first | rfl | assumption) | (apply roL_flat; intro _; rfl))) trivial rfl ?_
  refine al_ro' (ro_assign ev_c) trivial rfl ?_
  refine al_end (fun e_1 he_1 => ?_)
  have s3_1 := ef 3 he_1 (up_m rfl (u2 rfl up_h))
  have s4_1 := ef 4 he_1 (u2 rfl up_h)
  have s5_1 := ef 5 he_1 (up_m rfl up_h)
  clear he_1 s0_0 s1_0 s2_0
  refine then_n ?_
  refine aw_seq ?_
  refine aw_text (by kernel_rfl) ?_
  refine al_ro' (ro_makeFunc evL_nil (evL_cons s4_1 (evL_cons s5_1 (evL_cons s3_1 evL_nil)))) trivial rfl ?_
  refine al_ro' (ro_assign up_h) trivial rfl ?_
  refine al_end (fun e_2 he_2 => ?_)
  have s6_2 := ef 6 he_2 up_h
  clear he_2 s3_1 s4_1 s5_1
  refine then_n ?_
  refine aw_ret ?_
  refine ret1 (.inr rfl) (by kernel_rfl) (resV_tmp s6_2) (.ro _ rfl) ?_
  clear s6_2  ml_0
  rfl
set_option maxRecDepth 100000 in
set_option maxHeartbeats 1000000 in
theorem look1_ok (l : Lin) (i : Int) (hi : 0 ≤ i ∧ i < l.js.length) : FnOk Try.prog 142 [mA i, .ref (lnC l)] (fun q => q = mA (jntE (l.js.getD i.toNat default))) := by
  refine fnOk_of (fn := Try.f142) 43 (by kernel_rfl) rfl (by kernel_rfl) (Nat.le_of_ble_eq_true rfl) ?_
  intro e_0 m_0 hA hm_0
  have s0_0 : evA e_0 (.tmp 0) = _ := hA 0 _ rfl
  have s1_0 : evA e_0 (.tmp 1) = _ := hA 1 _ rfl
  have ml_0 : m_0.length = 0 := by rw [hm_0]; rfl
  clear hA hm_0
  refine aw_seq ?_
  refine aw_text (by kernel_rfl) ?_
  refine al_ro' (ro_assign ev_c) trivial rfl ?_
  refine al_end (fun e_1 he_1 => ?_)
  have s0_1 := ef 0 he_1 (up_m rfl s0_0)
  have s1_1 := ef 1 he_1 (up_m rfl s1_0)
  clear he_1 s0_0 s1_0
  refine then_n ?_
  refine aw_seq ?_
  refine aw_text (by kernel_rfl) ?_
  refine al_ro' (ro_eq (ro_fld_ref y2_fl26_1 rfl s1_1) (by simp only [packA_t, packA_f, iE, bE, setAt, cellsA, Value.cells, map_vc, map_vn, Nat.reduceAdd, qS, jnE] <;> rfl)) trivial rfl ?_
  refine al_ro' (ro_eq (ro_ld_ref y2_ty22 rfl up_h (by exact Nat.le_of_ble_eq_true rfl)) (by simp only [packA_t, packA_f, iE, bE, setAt, cellsA, Value.cells, map_vc, map_vn, Nat.reduceAdd, qS, jnE] <;> rfl)) trivial rfl ?_
  refine al_ro' (ro_move (u2 rfl s0_1)) trivial rfl ?_
  refine al_ro' (ro_eq (ro_ix y2_sl22 (up_m rfl up_h) up_h (by omega) (by first | (refine idx_map ?_; first | omega | (simp only [lnS]; omega)) | (refine idx_mapI ?_; first | omega | (simp only [lnS]; omega)) | (refine idx_mapN ?_; first | omega | (simp only [lnS]; omega)) | rfl)) (by simp only [packA_t, packA_f, iE, bE, setAt, cellsA, Value.cells, map_vc, map_vn, Nat.reduceAdd, qS, jnE] <;> rfl)) trivial rfl ?_
  refine al_ro' (ro_eq (ro_ld_ref y2_ty42 rfl up_h (by exact Nat.le_of_ble_eq_true rfl)) (by simp only [packA_t, packA_f, iE, bE, setAt, cellsA, Value.cells, map_vc, map_vn, Nat.reduceAdd, qS, jnE] <;> rfl)) trivial rfl ?_
  refine al_stm (st_alloc y2_az42 rfl ml_0) trivial rfl (fun m_2 hm_2 => ?_)
  have mo0_2 := m_push hm_2 ml_0
  simp only [packA_t, packA_f, iE, bE, setAt, cellsA, Value.cells, map_vc, map_vn, Nat.reduceAdd, qS, jnE] at mo0_2
  have ml_2 := m_push_l hm_2 ml_0
  have ml_2 : _ = 1 := ml_2
  clear hm_2
  refine al_stm (st_store up_h (up_m rfl up_h) rfl rfl mo0_2 y2_sz42 rfl (by exact Nat.le_of_ble_eq_true rfl)) trivial rfl (fun m_3 hm_3 => ?_)
  have mo0_3 := m_set hm_3 mo0_2
  simp only [packA_t, packA_f, iE, bE, setAt, cellsA, Value.cells, map_vc, map_vn, Nat.reduceAdd, qS, jnE] at mo0_3
  have ml_3 := m_set_l hm_3 ml_2
  clear hm_3 mo0_2
  refine al_end (fun e_4 he_4 => ?_)
  have s4_4 := ef 4 he_4 (up_n up_h)
  clear he_4 s0_1 s1_1
  refine then_n ?_
  refine aw_seq ?_
  refine aw_cut (fun e mem => (evA e (.tmp 5) = .v (.bool (jntB (l.js.getD i.toNat default)))) ∧ (evA e (.tmp 4) = evA e_4 (.tmp 4)) ∧ m_3 = mem) ?_ ?_
  ·
    refine aw_text (by kernel_rfl) ?_
    refine al_ro' (ro_fld_ptr y2_fl42_0 rfl s4_4) trivial rfl ?_
    refine al_ro' (ro_eq (ro_ld_ptr y2_ty3 rfl mo0_3 up_h (by exact Nat.le_of_ble_eq_true rfl)) (by simp only [packA_t, packA_f, iE, bE, setAt, cellsA, Value.cells, map_vc, map_vn, Nat.reduceAdd, qS, jnE] <;> rfl)) trivial rfl ?_
    refine al_ro' (ro_call (evL_cons up_h evL_nil) rfl (isAcross_ok _) y2_hcf143) trivial rfl ?_
    refine al_ro' (ro_move up_h) trivial rfl ?_
    refine al_case up_h (fun hb_6 hq_6 => ?_) (fun hb_6 hq_6 => ?_)
    ·skip
     refine al_ro' (ro_fld_ptr y2_fl42_1 rfl (u4 rfl s4_4)) ⟨_, rfl, hb_6⟩ rfl ?_
     refine al_ro' (ro_eq (ro_ld_ptr y2_ty3 rfl mo0_3 up_h (by exact Nat.le_of_ble_eq_true rfl)) (by simp only [packA_t, packA_f, iE, bE, setAt, cellsA, Value.cells, map_vc, map_vn, Nat.reduceAdd, qS, jnE] <;> rfl)) ⟨_, rfl, (up_m rfl hb_6)⟩ rfl ?_
     refine al_ro' (ro_call (evL_cons up_h evL_nil) rfl (isAcross_ok _) y2_hcf143) ⟨_, rfl, (u2 rfl hb_6)⟩ rfl ?_
     refine al_ro' (ro_pickT (up_m rfl (u2 rfl hb_6)) up_h) trivial rfl ?_
     refine al_ro' (ro_move up_h) trivial rfl ?_
     refine al_case up_h (fun hb_7 hq_7 => ?_) (fun hb_7 hq_7 => ?_)
     ·skip
      refine al_ro' (ro_fld_ptr y2_fl42_2 rfl (up_m rfl (u8 rfl s4_4))) ⟨_, rfl, hb_7⟩ rfl ?_
      refine al_ro' (ro_fld_ptr y2_fl40_0 rfl up_h) ⟨_, rfl, (up_m rfl hb_7)⟩ rfl ?_
      refine al_ro' (ro_eq (ro_ld_ptr y2_ty3 rfl mo0_3 up_h (by exact Nat.le_of_ble_eq_true rfl)) (by simp only [packA_t, packA_f, iE, bE, setAt, cellsA, Value.cells, map_vc, map_vn, Nat.reduceAdd, qS, jnE] <;> rfl)) ⟨_, rfl, (u2 rfl hb_7)⟩ rfl ?_
      refine al_ro' (ro_call (evL_cons up_h (evL_cons ev_c evL_nil)) rfl (ySmall_ok _ _ (by decide)) y2_hcf102) ⟨_, rfl, (up_m rfl (u2 rfl hb_7))⟩ rfl ?_
      refine al_ro' (ro_pickT (u4 rfl hb_7) up_h) trivial rfl ?_
      refine al_ro' (ro_move up_h) trivial rfl ?_
      refine al_case up_h (fun hb_8 hq_8 => ?_) (fun hb_8 hq_8 => ?_)
      ·skip
       refine al_ro' (ro_fld_ptr y2_fl42_2 rfl (up_m rfl (u2 rfl (u4 rfl (u8 rfl s4_4))))) ⟨_, rfl, hb_8⟩ rfl ?_
       refine al_ro' (ro_fld_ptr y2_fl40_1 rfl up_h) ⟨_, rfl, (up_m rfl hb_8)⟩ rfl ?_
       refine al_ro' (ro_eq (ro_ld_ptr y2_ty3 rfl mo0_3 up_h (by exact Nat.le_of_ble_eq_true rfl)) (by simp only [packA_t, packA_f, iE, bE, setAt, cellsA, Value.cells, map_vc, map_vn, Nat.reduceAdd, qS, jnE] <;> rfl)) ⟨_, rfl, (u2 rfl hb_8)⟩ rfl ?_
       refine al_ro' (ro_call (evL_cons up_h (evL_cons ev_c evL_nil)) rfl (ySmall_ok _ _ (by decide)) y2_hcf102) ⟨_, rfl, (up_m rfl (u2 rfl hb_8))⟩ rfl ?_
       refine al_ro' (ro_pickT (u4 rfl hb_8) up_h) trivial rfl ?_
       refine al_ro' (ro_assign up_h) trivial rfl ?_
       refine al_end (fun e_9 he_9 => ?_)
       have s4_9 := ef 4 he_9 (up_m rfl (u4 rfl (u16 rfl s4_4)))
       have s5_9 := ef 5 he_9 up_h
       clear he_9
       refine then_n ⟨(s5_9).trans (by (refine avb ?_; unfold jntB; simp_all)), (s4_9).trans (s4_4).symm, rfl⟩
      refine al_skip' ⟨_, rfl, .inl hb_8⟩ rfl ?_
      refine al_skip' ⟨_, rfl, .inl (up_m rfl hb_8)⟩ rfl ?_
      refine al_skip' ⟨_, rfl, .inl (u2 rfl hb_8)⟩ rfl ?_
      refine al_skip' ⟨_, rfl, .inl (up_m rfl (u2 rfl hb_8))⟩ rfl ?_
      refine al_ro' (ro_pickF (u4 rfl hb_8) ev_c) trivial rfl ?_
      refine al_ro' (ro_assign up_h) trivial rfl ?_
      refine al_end (fun e_10 he_10 => ?_)
      have s4_10 := ef 4 he_10 (up_m rfl (u4 rfl (u16 rfl s4_4)))
      have s5_10 := ef 5 he_10 up_h
      clear he_10
      refine then_n ⟨(s5_10).trans (by (refine avb ?_; unfold jntB; simp_all)), (s4_10).trans (s4_4).symm, rfl⟩
     refine al_skip' ⟨_, rfl, .inl hb_7⟩ rfl ?_
     refine al_skip' ⟨_, rfl, .inl (up_m rfl hb_7)⟩ rfl ?_
     refine al_skip' ⟨_, rfl, .inl (u2 rfl hb_7)⟩ rfl ?_
     refine al_skip' ⟨_, rfl, .inl (up_m rfl (u2 rfl hb_7))⟩ rfl ?_
     refine al_ro' (ro_pickF (u4 rfl hb_7) ev_c) trivial rfl ?_
     refine al_ro' (ro_move up_h) trivial rfl ?_
     refine al_skip' ⟨_, rfl, .inl up_h⟩ rfl ?_
     refine al_skip' ⟨_, rfl, .inl (up_m rfl up_h)⟩ rfl ?_
     refine al_skip' ⟨_, rfl, .inl (u2 rfl up_h)⟩ rfl ?_
     refine al_skip' ⟨_, rfl, .inl (up_m rfl (u2 rfl up_h))⟩ rfl ?_
     refine al_ro' (ro_pickF (u4 rfl up_h) ev_c) trivial rfl ?_
     refine al_ro' (ro_assign up_h) trivial rfl ?_
     refine al_end (fun e_11 he_11 => ?_)
     have s4_11 := ef 4 he_11 (up_m rfl (u4 rfl (u16 rfl s4_4)))
     have s5_11 := ef 5 he_11 up_h
     clear he_11
     refine then_n ⟨(s5_11).trans (by (refine avb ?_; unfold jntB; simp_all)), (s4_11).trans (s4_4).symm, rfl⟩
    refine al_skip' ⟨_, rfl, .inl hb_6⟩ rfl ?_
    refine al_skip' ⟨_, rfl, .inl (up_m rfl hb_6)⟩ rfl ?_
    refine al_skip' ⟨_, rfl, .inl (u2 rfl hb_6)⟩ rfl ?_
    refine al_ro' (ro_pickF (up_m rfl (u2 rfl hb_6)) ev_c) trivial rfl ?_
    refine al_ro' (ro_move up_h) trivial rfl ?_
    refine al_skip' ⟨_, rfl, .inl up_h⟩ rfl ?_
    refine al_skip' ⟨_, rfl, .inl (up_m rfl up_h)⟩ rfl ?_
    refine al_skip' ⟨_, rfl, .inl (u2 rfl up_h)⟩ rfl ?_
    refine al_skip' ⟨_, rfl, .inl (up_m rfl (u2 rfl up_h))⟩ rfl ?_
    refine al_ro' (ro_pickF (u4 rfl up_h) ev_c) trivial rfl ?_
    refine al_ro' (ro_move up_h) trivial rfl ?_
    refine al_skip' ⟨_, rfl, .inl up_h⟩ rfl ?_
    refine al_skip' ⟨_, rfl, .inl (up_m rfl up_h)⟩ rfl ?_
    refine al_skip' ⟨_, rfl, .inl (u2 rfl up_h)⟩ rfl ?_
    refine al_skip' ⟨_, rfl, .inl (up_m rfl (u2 rfl up_h))⟩ rfl ?_
    refine al_ro' (ro_pickF (u4 rfl up_h) ev_c) trivial rfl ?_
    refine al_ro' (ro_assign up_h) trivial rfl ?_
    refine al_end (fun e_12 he_12 => ?_)
    have s4_12 := ef 4 he_12 (up_m rfl (u4 rfl (u16 rfl s4_4)))
    have s5_12 := ef 5 he_12 up_h
    clear he_12
    refine then_n ⟨(s5_12).trans (by (refine avb ?_; unfold jntB; simp_all)), (s4_12).trans (s4_4).symm, rfl⟩
  · rintro e_5 _ ⟨s5_5, k4_5, rfl⟩
    have s4_5 := k4_5.trans s4_4
    refine aw_seq ?_
    refine aw_draw 13 (by kernel_rfl) (by kernel_rfl) (by kernel_rfl) (by kernel_rfl) ?_
    refine ds_ro' (ro_move s5_5) trivial rfl ?_
    refine ds_ro' (ro_call (evL_cons up_h (evL_cons ev_c evL_nil)) rfl (yUnless_ok _ _) y2_hcf76) trivial rfl ?_
    refine ds_ro' (ro_fld_ptr y2_fl42_2 rfl (u2 rfl s4_5)) trivial rfl ?_
    refine ds_ro' (ro_fld_ptr y2_fl40_0 rfl up_h) trivial rfl ?_
    refine ds_ro' (ro_eq (ro_ld_ptr y2_ty3 rfl mo0_3 up_h (by exact Nat.le_of_ble_eq_true rfl)) (by simp only [packA_t, packA_f, iE, bE, setAt, cellsA, Value.cells, map_vc, map_vn, Nat.reduceAdd, qS, jnE] <;> rfl)) trivial rfl ?_
    refine ds_ro' (ro_fld_ptr y2_fl42_2 rfl (up_m rfl (u4 rfl s4_5))) trivial rfl ?_
    refine ds_ro' (ro_fld_ptr y2_fl40_1 rfl up_h) trivial rfl ?_
    refine ds_ro' (ro_eq (ro_ld_ptr y2_ty3 rfl mo0_3 up_h (by exact Nat.le_of_ble_eq_true rfl)) (by simp only [packA_t, packA_f, iE, bE, setAt, cellsA, Value.cells, map_vc, map_vn, Nat.reduceAdd, qS, jnE] <;> rfl)) trivial rfl ?_
    refine ds_ro' (ro_leq (up_m rfl (u2 rfl up_h)) up_h) trivial rfl ?_
    refine ds_ro' (ro_call (evL_cons up_h (evL_cons ev_c evL_nil)) rfl (yUnless_ok _ _) y2_hcf76) trivial rfl ?_
    refine ds_ro' (ro_lit y2_sl156 (evP_cons (u8 rfl up_h) (evP_cons up_h evP_nil)) rfl rfl rfl rfl) trivial rfl ?_
    refine ds_ro' (ro_call (evL_cons up_h evL_nil) rfl (yFirst_ok [_, _] (by simp)) y2_hcf86) trivial rfl ?_
    refine ds_ro' (ro_assign up_h) trivial rfl ?_
    refine ds_nil ?_
    refine al_end (fun e_13 he_13 => ?_)
    have s3_13 := ef 3 he_13 up_h
    clear he_13 s4_5 s5_5
    refine then_n ?_
    refine aw_ret ?_
    refine ret1 (.inr rfl) (by kernel_rfl) (resV_tmp s3_13) (.ro _ rfl) ?_
    clear s3_13 mo0_3 ml_3
    (refine avj ?_; unfold jntE; cases jntB (l.js.getD i.toNat default) <;> simp [firstE, unlessE])
set_option maxRecDepth 100000 in
set_option maxHeartbeats 1000000 in
theorem look2_ok (l : Lin) (i : Int) (hi : 0 ≤ i ∧ i < l.bs.length) : FnOk Try.prog 144 [mA i, .ref (lnC l)] (fun q => q = mA (beaE (l.bs.getD i.toNat default))) := by
  refine fnOk_of (fn := Try.f144) 19 (by kernel_rfl) rfl (by kernel_rfl) (Nat.le_of_ble_eq_true rfl) ?_
  intro e_0 m_0 hA hm_0
  have s0_0 : evA e_0 (.tmp 0) = _ := hA 0 _ rfl
  have s1_0 : evA e_0 (.tmp 1) = _ := hA 1 _ rfl
  have ml_0 : m_0.length = 0 := by rw [hm_0]; rfl
  clear hA hm_0
  refine aw_seq ?_
  refine aw_text (by kernel_rfl) ?_
  refine al_ro' (ro_assign ev_c) trivial rfl ?_
  refine al_end (fun e_1 he_1 => ?_)
  have s0_1 := ef 0 he_1 (up_m rfl s0_0)
  have s1_1 := ef 1 he_1 (up_m rfl s1_0)
  clear he_1 s0_0 s1_0
  refine then_n ?_
  refine aw_seq ?_
  refine aw_text (by kernel_rfl) ?_
  refine al_ro' (ro_eq (ro_fld_ref y2_fl26_2 rfl s1_1) (by simp only [packA_t, packA_f, iE, bE, setAt, cellsA, Value.cells, map_vc, map_vn, Nat.reduceAdd, qS, beE] <;> rfl)) trivial rfl ?_
  refine al_ro' (ro_eq (ro_ld_ref y2_ty23 rfl up_h (by exact Nat.le_of_ble_eq_true rfl)) (by simp only [packA_t, packA_f, iE, bE, setAt, cellsA, Value.cells, map_vc, map_vn, Nat.reduceAdd, qS, beE] <;> rfl)) trivial rfl ?_
  refine al_ro' (ro_move (u2 rfl s0_1)) trivial rfl ?_
  refine al_ro' (ro_eq (ro_ix y2_sl23 (up_m rfl up_h) up_h (by omega) (by first | (refine idx_map ?_; first | omega | (simp only [lnS]; omega)) | (refine idx_mapI ?_; first | omega | (simp only [lnS]; omega)) | (refine idx_mapN ?_; first | omega | (simp only [lnS]; omega)) | rfl)) (by simp only [packA_t, packA_f, iE, bE, setAt, cellsA, Value.cells, map_vc, map_vn, Nat.reduceAdd, qS, beE] <;> rfl)) trivial rfl ?_
  refine al_ro' (ro_eq (ro_ld_ref y2_ty47 rfl up_h (by exact Nat.le_of_ble_eq_true rfl)) (by simp only [packA_t, packA_f, iE, bE, setAt, cellsA, Value.cells, map_vc, map_vn, Nat.reduceAdd, qS, beE] <;> rfl)) trivial rfl ?_
  refine al_stm (st_alloc y2_az47 rfl ml_0) trivial rfl (fun m_2 hm_2 => ?_)
  have mo0_2 := m_push hm_2 ml_0
  simp only [packA_t, packA_f, iE, bE, setAt, cellsA, Value.cells, map_vc, map_vn, Nat.reduceAdd, qS, beE] at mo0_2
  have ml_2 := m_push_l hm_2 ml_0
  have ml_2 : _ = 1 := ml_2
  clear hm_2
  refine al_stm (st_store up_h (up_m rfl up_h) rfl rfl mo0_2 y2_sz47 rfl (by exact Nat.le_of_ble_eq_true rfl)) trivial rfl (fun m_3 hm_3 => ?_)
  have mo0_3 := m_set hm_3 mo0_2
  simp only [packA_t, packA_f, iE, bE, setAt, cellsA, Value.cells, map_vc, map_vn, Nat.reduceAdd, qS, beE] at mo0_3
  have ml_3 := m_set_l hm_3 ml_2
  clear hm_3 mo0_2
  refine al_end (fun e_4 he_4 => ?_)
  have s4_4 := ef 4 he_4 (up_n up_h)
  clear he_4 s0_1 s1_1
  refine then_n ?_
  refine aw_seq ?_
  refine aw_text (by kernel_rfl) ?_
  refine al_ro' (ro_fld_ptr y2_fl47_0 rfl s4_4) trivial rfl ?_
  refine al_ro' (ro_eq (ro_ld_ptr y2_ty3 rfl mo0_3 up_h (by exact Nat.le_of_ble_eq_true rfl)) (by simp only [packA_t, packA_f, iE, bE, setAt, cellsA, Value.cells, map_vc, map_vn, Nat.reduceAdd, qS, beE] <;> rfl)) trivial rfl ?_
  refine al_ro' (ro_call (evL_cons up_h (evL_cons ev_c (evL_cons ev_c evL_nil))) rfl (yWithin_ok _ _ _) y2_hcf77) trivial rfl ?_
  refine al_ro' (ro_move up_h) trivial rfl ?_
  refine al_case up_h (fun hb_5 hq_5 => ?_) (fun hb_5 hq_5 => ?_)
  ·skip
   refine al_ro' (ro_fld_ptr y2_fl47_1 rfl (u4 rfl s4_4)) ⟨_, rfl, hb_5⟩ rfl ?_
   refine al_ro' (ro_eq (ro_ld_ptr y2_ty3 rfl mo0_3 up_h (by exact Nat.le_of_ble_eq_true rfl)) (by simp only [packA_t, packA_f, iE, bE, setAt, cellsA, Value.cells, map_vc, map_vn, Nat.reduceAdd, qS, beE] <;> rfl)) ⟨_, rfl, (up_m rfl hb_5)⟩ rfl ?_
   refine al_ro' (ro_call (evL_cons up_h (evL_cons ev_c evL_nil)) rfl (ySmall_ok _ _ (by decide)) y2_hcf102) ⟨_, rfl, (u2 rfl hb_5)⟩ rfl ?_
   refine al_ro' (ro_pickT (up_m rfl (u2 rfl hb_5)) up_h) trivial rfl ?_
   refine al_ro' (ro_call (evL_cons up_h (evL_cons ev_c evL_nil)) rfl (yUnless_ok _ _) y2_hcf76) trivial rfl ?_
   refine al_ro' (ro_assign up_h) trivial rfl ?_
   refine al_end (fun e_6 he_6 => ?_)
   have s3_6 := ef 3 he_6 up_h
   clear he_6 hb_5 s4_4
   refine then_n ?_
   refine aw_ret ?_
   refine ret1 (.inr rfl) (by kernel_rfl) (resV_tmp s3_6) (.ro _ rfl) ?_
   clear s3_6 mo0_3 ml_3
   (refine avj ?_; unfold beaE beaB unlessE; simp_all)
  refine al_skip' ⟨_, rfl, .inl hb_5⟩ rfl ?_
  refine al_skip' ⟨_, rfl, .inl (up_m rfl hb_5)⟩ rfl ?_
  refine al_skip' ⟨_, rfl, .inl (u2 rfl hb_5)⟩ rfl ?_
  refine al_ro' (ro_pickF (up_m rfl (u2 rfl hb_5)) ev_c) trivial rfl ?_
  refine al_ro' (ro_call (evL_cons up_h (evL_cons ev_c evL_nil)) rfl (yUnless_ok _ _) y2_hcf76) trivial rfl ?_
  refine al_ro' (ro_assign up_h) trivial rfl ?_
  refine al_end (fun e_7 he_7 => ?_)
  have s3_7 := ef 3 he_7 up_h
  clear he_7 hb_5 s4_4
  refine then_n ?_
  refine aw_ret ?_
  refine ret1 (.inr rfl) (by kernel_rfl) (resV_tmp s3_7) (.ro _ rfl) ?_
  clear s3_7 mo0_3 ml_3
  (refine avj ?_; unfold beaE beaB unlessE; simp_all)
end Go.Proofs.Ytknclifdncmgpaa

/- Contracts of chapter 1: the checks of a line, in a row. No conditions on a program. -/
namespace Go.Proofs.Ytknclifdncmgpaa
open Go Go.RowKit Go.Proofs
set_option linter.unusedSimpArgs false
set_option linter.unusedVariables false
theorem y3_az170 : (Try.prog.info? 170).bind (·.zero) = some (.agg #[.int .i64 0, .int .i64 0, .int .i64 0]) := by kernel_rfl
theorem y3_bz108 : (Try.prog.info? 108).bind (·.zero) = some (.agg #[.int .i64 0, .int .i64 0]) := by kernel_rfl
theorem y3_bu108 : Try.prog.underlying 108 = some (.struct (fsOf Try.prog 108)) := by kernel_rfl
theorem y3_bp108 : ∀ w, ((fsOf Try.prog 108).mapM fun f => Prod.mk f.offset <$> sizeOf f.type : Sem (Array (Nat × Nat))).run Try.prog w = .ok (#[(0, 1), (1, 1)]) w := fun _ => by kernel_rfl
theorem y3_bz170 : (Try.prog.info? 170).bind (·.zero) = some (.agg #[.int .i64 0, .int .i64 0, .int .i64 0]) := by kernel_rfl
theorem y3_bu170 : Try.prog.underlying 170 = some (.struct (fsOf Try.prog 170)) := by kernel_rfl
theorem y3_bp170 : ∀ w, ((fsOf Try.prog 170).mapM fun f => Prod.mk f.offset <$> sizeOf f.type : Sem (Array (Nat × Nat))).run Try.prog w = .ok (#[(0, 2), (2, 1)]) w := fun _ => by kernel_rfl
theorem y3_fl26_0 : FldIs Try.prog 26 0 0 false 1 := by unfold FldIs; kernel_rfl
theorem y3_fl26_1 : FldIs Try.prog 26 1 1 false 1 := by unfold FldIs; kernel_rfl
theorem y3_fl26_2 : FldIs Try.prog 26 2 2 false 1 := by unfold FldIs; kernel_rfl
theorem y3_fl26_3 : FldIs Try.prog 26 3 3 false 1 := by unfold FldIs; kernel_rfl
theorem y3_hcf137 : ∀ args w, (callFunc 137 args).run Try.prog w = .ok (.enter 137 args) w := fun _ _ => by kernel_rfl
theorem y3_hcf139 : ∀ args w, (callFunc 139 args).run Try.prog w = .ok (.enter 139 args) w := fun _ _ => by kernel_rfl
theorem y3_hcf141 : ∀ args w, (callFunc 141 args).run Try.prog w = .ok (.enter 141 args) w := fun _ _ => by kernel_rfl
theorem y3_hcf76 : ∀ args w, (callFunc 76 args).run Try.prog w = .ok (.enter 76 args) w := fun _ _ => by kernel_rfl
theorem y3_sl166 : SlIs Try.prog 166 168 1 8 (.nilFunc) := ⟨by kernel_rfl, by kernel_rfl, by kernel_rfl⟩
theorem y3_sl22 : SlIs Try.prog 22 42 4 32 (.agg #[.int .i64 0, .int .i64 0, .int .i64 0, .int .i64 0]) := ⟨by kernel_rfl, by kernel_rfl, by kernel_rfl⟩
theorem y3_sl23 : SlIs Try.prog 23 47 2 16 (.agg #[.int .i64 0, .int .i64 0]) := ⟨by kernel_rfl, by kernel_rfl, by kernel_rfl⟩
theorem y3_sl24 : SlIs Try.prog 24 106 3 48 (.agg #[.string ByteArray.empty, .int .i64 0, .slice none 0 0]) := ⟨by kernel_rfl, by kernel_rfl, by kernel_rfl⟩
theorem y3_sl73 : SlIs Try.prog 73 5 1 1 (.int .u8 0) := ⟨by kernel_rfl, by kernel_rfl, by kernel_rfl⟩
theorem y3_sz170 : (Try.prog.info? 170).map (·.size) = some 3 := by kernel_rfl
theorem y3_ty114 : TyIs Try.prog 114 false 1 := ⟨by kernel_rfl, by kernel_rfl⟩
theorem y3_ty170 : TyIs Try.prog 170 true 3 := ⟨by kernel_rfl, by kernel_rfl⟩
theorem y3_ty22 : TyIs Try.prog 22 false 1 := ⟨by kernel_rfl, by kernel_rfl⟩
theorem y3_ty23 : TyIs Try.prog 23 false 1 := ⟨by kernel_rfl, by kernel_rfl⟩
theorem y3_ty24 : TyIs Try.prog 24 false 1 := ⟨by kernel_rfl, by kernel_rfl⟩
theorem y3_ty3 : TyIs Try.prog 3 false 1 := ⟨by kernel_rfl, by kernel_rfl⟩
theorem y3_ty5 : TyIs Try.prog 5 false 1 := ⟨by kernel_rfl, by kernel_rfl⟩
theorem y3_ty9 : TyIs Try.prog 9 false 1 := ⟨by kernel_rfl, by kernel_rfl⟩
theorem y3_u85 : Try.prog.underlying 5 = some (.int .u8) := by kernel_rfl
theorem y3_un9 : Try.prog.underlying 9 = some .string := by kernel_rfl
theorem y3_us73 : Try.prog.underlying 73 = some (.slice 5) := by kernel_rfl

/-- What a look at all items comes to. -/
def eaR (k : Int) (e : Nat → Int) (n : Nat) : (Int × Int) × Int := match firN e n with
  | some i => ((k, i), e i)
  | none => ((0, 0), 0)
abbrev fuR (r : (Int × Int) × Int) : AV := fuA r.1.1 r.1.2 r.2
set_option maxRecDepth 100000 in
set_option maxHeartbeats 4000000 in
theorem each1_ok (k n : Int) (f : FuncId) (m : List AV) (er : Nat → Int) (hn : 0 ≤ n ∧ n ≤ 1000000) (hro : roO.roL m = true) (hcf : ∀ args w, (callFunc f args).run Try.prog w = .ok (.enter f args) w) (hc : ∀ i : Int, 0 ≤ i → i < n → FnOk Try.prog f ([] ++ [mA i] ++ m) (fun q => q = mA (er i.toNat))) :
    FnOk Try.prog 140 [.ref [mA n], .ref [.clo (.func f) [] m], .ref [mA k]] (fun q => q = fuR (eaR k er n.toNat)) := by
  refine fnOk_of (fn := Try.f140) 22 (by kernel_rfl) rfl (by kernel_rfl) (Nat.le_of_ble_eq_true rfl) ?_
  intro e_0 m_0 hA hm_0
  have s0_0 : evA e_0 (.tmp 0) = _ := hA 0 _ rfl
  have s1_0 : evA e_0 (.tmp 1) = _ := hA 1 _ rfl
  have s2_0 : evA e_0 (.tmp 2) = _ := hA 2 _ rfl
  have ml_0 : m_0.length = 0 := by rw [hm_0]; rfl
  clear hA hm_0
  refine aw_seq ?_
  refine aw_text (by kernel_rfl) ?_
  refine al_stm (st_alloc y3_az170 rfl ml_0) trivial rfl (fun m_1 hm_1 => ?_)
  have mo0_1 := m_push hm_1 ml_0
  simp only [packA_t, packA_f, iE, bE, setAt, cellsA, Value.cells, map_vc, map_vn, Nat.reduceAdd, qS] at mo0_1
  have ml_1 := m_push_l hm_1 ml_0
  have ml_1 : _ = 1 := ml_1
  clear hm_1
  refine al_end (fun e_2 he_2 => ?_)
  have s0_2 := ef 0 he_2 (up_m rfl s0_0)
  have s1_2 := ef 1 he_2 (up_m rfl s1_0)
  have s2_2 := ef 2 he_2 (up_m rfl s2_0)
  have s3_2 := ef 3 he_2 up_h
  clear he_2 s0_0 s1_0 s2_0
  refine then_n ?_
  refine aw_seq ?_
  refine aw_seq ?_
  refine aw_text (by kernel_rfl) ?_
  refine al_ro' (ro_eq (ro_ld_ref y3_ty3 rfl s0_2 (by exact Nat.le_of_ble_eq_true rfl)) (by simp only [packA_t, packA_f, iE, bE, setAt, cellsA, Value.cells, map_vc, map_vn, Nat.reduceAdd, qS] <;> rfl)) trivial rfl ?_
  refine al_ro' (ro_move ev_c) trivial rfl ?_
  refine al_end (fun e_3 he_3 => ?_)
  have s1_3 := ef 1 he_3 (u2 rfl s1_2)
  have s2_3 := ef 2 he_3 (u2 rfl s2_2)
  have s3_3 := ef 3 he_3 (u2 rfl s3_2)
  have s6_3 := ef 6 he_3 (up_m rfl up_h)
  have s7_3 := ef 7 he_3 up_h
  clear he_3 s0_2 s1_2 s2_2 s3_2
  refine then_n ?_
  refine aw_block ?_
  refine aw_loop (S := Int) (fun i e mem => (evA e (.tmp 7) = .v (.int .i64 i)) ∧ (evA e (.tmp 1) = evA e_3 (.tmp 1)) ∧ (evA e (.tmp 2) = evA e_3 (.tmp 2)) ∧ (evA e (.tmp 3) = evA e_3 (.tmp 3)) ∧ (evA e (.tmp 6) = evA e_3 (.tmp 6)) ∧ (mem[0]? = m_1[0]?) ∧ (mem.length = 1) ∧ ((0 ≤ i ∧ i ≤ n ∧ ∀ j : Nat, j < i.toNat → er j = 0))) (fun i => (n - i).toNat) _ ⟨s7_3, rfl, rfl, rfl, rfl, rfl, ml_1, ?_⟩ ?_
  · (exact ⟨by omega, by omega, fun j h => absurd h (by omega)⟩)
  · rintro i e_4 m_4 ⟨s7_4, k1_4, k2_4, k3_4, k6_4, mk0_4, ml_4, hinv⟩
    have s1_4 := k1_4.trans s1_3
    have s2_4 := k2_4.trans s2_3
    have s3_4 := k3_4.trans s3_3
    have s6_4 := k6_4.trans s6_3
    have mo0_4 := mk0_4.trans mo0_1
    (obtain ⟨p1, p2, p3⟩ := hinv)
    refine aw_seq ?_
    refine aw_text (by kernel_rfl) ?_
    refine al_ro' (ro_lss s7_4 s6_4) trivial rfl ?_
    refine al_end (fun e_5 he_5 => ?_)
    have s1_5 := ef 1 he_5 (up_m rfl s1_4)
    have s2_5 := ef 2 he_5 (up_m rfl s2_4)
    have s3_5 := ef 3 he_5 (up_m rfl s3_4)
    have s6_5 := ef 6 he_5 (up_m rfl s6_4)
    have s7_5 := ef 7 he_5 (up_m rfl s7_4)
    have s8_5 := ef 8 he_5 up_h
    clear he_5 s1_4 s2_4 s3_4 s6_4 s7_4
    refine then_n ?_
    refine aw_seq ?_
    refine aw_case s8_5 (fun hq_6 => ?_) (fun hq_6 => ?_)
    ·replace hq_6 := bt hq_6
     refine aw_skip ?_
     refine then_n ?_
     refine aw_seq ?_
     refine aw_block ?_
     refine aw_seq ?_
     refine aw_text (by kernel_rfl) ?_
     refine al_ro' (ro_move s7_5) trivial rfl ?_
     refine al_ro' (ro_assign up_h) trivial rfl ?_
     refine al_end (fun e_7 he_7 => ?_)
     have s1_7 := ef 1 he_7 (u2 rfl s1_5)
     have s2_7 := ef 2 he_7 (u2 rfl s2_5)
     have s3_7 := ef 3 he_7 (u2 rfl s3_5)
     have s4_7 := ef 4 he_7 up_h
     have s6_7 := ef 6 he_7 (u2 rfl s6_5)
     have s7_7 := ef 7 he_7 (u2 rfl s7_5)
     clear he_7 s1_5 s2_5 s3_5 s6_5 s7_5 s8_5
     refine then_n ?_
     refine aw_seq ?_
     refine aw_text (by kernel_rfl) ?_
     refine al_ro' (ro_eq (ro_ld_ref y3_ty114 rfl s1_7 (by exact Nat.le_of_ble_eq_true rfl)) (by simp only [packA_t, packA_f, iE, bE, setAt, cellsA, Value.cells, map_vc, map_vn, Nat.reduceAdd, qS] <;> rfl)) trivial rfl ?_
     refine al_ro' (ro_move (up_m rfl s4_7)) trivial rfl ?_
     refine al_ro' (ro_callv (up_m rfl up_h) (evL_cons up_h evL_nil) rfl rfl hro (hc i (by omega) (by omega)) hcf) trivial rfl ?_
     refine al_ro' (ro_assign up_h) trivial rfl ?_
     refine al_end (fun e_8 he_8 => ?_)
     have s1_8 := ef 1 he_8 (u4 rfl s1_7)
     have s2_8 := ef 2 he_8 (u4 rfl s2_7)
     have s3_8 := ef 3 he_8 (u4 rfl s3_7)
     have s4_8 := ef 4 he_8 (u4 rfl s4_7)
     have s5_8 := ef 5 he_8 up_h
     have s6_8 := ef 6 he_8 (u4 rfl s6_7)
     have s7_8 := ef 7 he_8 (u4 rfl s7_7)
     clear he_8 s1_7 s2_7 s3_7 s4_7 s6_7 s7_7
     refine then_n ?_
     refine aw_seq ?_
     refine aw_text (by kernel_rfl) ?_
     refine al_ro' (ro_move s5_8) trivial rfl ?_
     refine al_ro' (ro_neq up_h ev_c) trivial rfl ?_
     refine al_end (fun e_9 he_9 => ?_)
     have s1_9 := ef 1 he_9 (u2 rfl s1_8)
     have s2_9 := ef 2 he_9 (u2 rfl s2_8)
     have s3_9 := ef 3 he_9 (u2 rfl s3_8)
     have s4_9 := ef 4 he_9 (u2 rfl s4_8)
     have s5_9 := ef 5 he_9 (u2 rfl s5_8)
     have s6_9 := ef 6 he_9 (u2 rfl s6_8)
     have s7_9 := ef 7 he_9 (u2 rfl s7_8)
     have s14_9 := ef 14 he_9 up_h
     clear he_9 s1_8 s2_8 s3_8 s4_8 s5_8 s6_8 s7_8
     refine then_n ?_
     refine aw_case s14_9 (fun hq_10 => ?_) (fun hq_10 => ?_)
     ·replace hq_10 := bnt hq_10
      refine aw_seq ?_
      refine aw_text (by kernel_rfl) ?_
      refine al_ro' (ro_eq (ro_ld_ref y3_ty3 rfl s2_9 (by exact Nat.le_of_ble_eq_true rfl)) (by simp only [packA_t, packA_f, iE, bE, setAt, cellsA, Value.cells, map_vc, map_vn, Nat.reduceAdd, qS] <;> rfl)) trivial rfl ?_
      refine al_ro' (ro_move (up_m rfl s4_9)) trivial rfl ?_
      refine al_ro' (ro_build (evP_cons (up_m rfl up_h) (evP_cons up_h evP_nil)) y3_bz108 y3_bu108 y3_bp108 rfl) trivial rfl ?_
      refine al_ro' (ro_move (up_m rfl (u2 rfl s5_9))) trivial rfl ?_
      refine al_ro' (ro_build (evP_cons (up_m rfl up_h) (evP_cons up_h evP_nil)) y3_bz170 y3_bu170 y3_bp170 rfl) trivial rfl ?_
      refine al_stm (st_store (up_m rfl (u4 rfl s3_9)) up_h rfl rfl mo0_4 y3_sz170 rfl (by exact Nat.le_of_ble_eq_true rfl)) trivial rfl (fun m_11 hm_11 => ?_)
      have mo0_11 := m_set hm_11 mo0_4
      simp only [packA_t, packA_f, iE, bE, setAt, cellsA, Value.cells, map_vc, map_vn, Nat.reduceAdd, qS] at mo0_11
      have ml_11 := m_set_l hm_11 ml_4
      clear hm_11 mo0_4
      refine al_end (fun e_12 he_12 => ?_)
      have s3_12 := ef 3 he_12 (up_n (up_m rfl (u4 rfl s3_9)))
      clear he_12 s14_9 s1_9 s2_9 s3_9 s4_9 s5_9 s6_9 s7_9
      refine then_n ?_
      refine aw_ret ?_
      refine block_r ?_
      refine then_r ?_
      refine then_r ?_
      refine block_r ?_
      refine then_r ?_
      refine ret1 (.inr rfl) (by kernel_rfl) (resV_cell s3_12 mo0_11 y3_ty170 (by exact Nat.le_of_ble_eq_true rfl) (by simp)) (vw_r (.ro _ rfl)) ?_
      clear s3_12 mo0_11 ml_11
      (have h := firN_some p3 (by assumption) (n := n.toNat) (by omega); rw [show eaR k er n.toNat = ((k, i), er i.toNat) by unfold eaR; rw [h]; simp only [Int.toNat_of_nonneg p1]]; rfl)
     replace hq_10 := bnf hq_10
     refine aw_skip ?_
     refine block_n ?_
     refine then_n ?_
     refine aw_text (by kernel_rfl) ?_
     (refine al_ro' (ro_add' s7_9 ev_c ?_) trivial rfl ?_; · (unfold In64; omega))
     refine al_ro' (ro_move up_h) trivial rfl ?_
     refine al_end (fun e_13 he_13 => ?_)
     have s1_13 := ef 1 he_13 (u2 rfl s1_9)
     have s2_13 := ef 2 he_13 (u2 rfl s2_9)
     have s3_13 := ef 3 he_13 (u2 rfl s3_9)
     have s6_13 := ef 6 he_13 (u2 rfl s6_9)
     have s7_13 := ef 7 he_13 up_h
     clear he_13 s14_9 s1_9 s2_9 s3_9 s4_9 s5_9 s6_9 s7_9
     refine then_n ?_
     refine ⟨_, ⟨s7_13, (s1_13.trans s1_3.symm), (s2_13.trans s2_3.symm), (s3_13.trans s3_3.symm), (s6_13.trans s6_3.symm), (mo0_4.trans mo0_1.symm), ml_4, ?_⟩, ?_⟩
     · (refine ⟨by omega, by omega, fun j hj => ?_⟩; by_cases hji : j < i.toNat; (exact p3 j hji); (rw [show j = i.toNat by omega]; assumption))
     · ((try dsimp only); omega)
    replace hq_6 := bf hq_6
    refine aw_exit ?_
    refine then_x ?_
    refine then_x ?_
    refine block_hit ?_
    refine then_n ?_
    refine aw_seq ?_
    refine aw_text (by kernel_rfl) ?_
    refine al_ro' (ro_build evP_nil y3_bz170 y3_bu170 y3_bp170 rfl) trivial rfl ?_
    refine al_stm (st_store (up_m rfl s3_5) up_h rfl rfl mo0_4 y3_sz170 rfl (by exact Nat.le_of_ble_eq_true rfl)) trivial rfl (fun m_14 hm_14 => ?_)
    have mo0_14 := m_set hm_14 mo0_4
    simp only [packA_t, packA_f, iE, bE, setAt, cellsA, Value.cells, map_vc, map_vn, Nat.reduceAdd, qS] at mo0_14
    have ml_14 := m_set_l hm_14 ml_4
    clear hm_14 mo0_4
    refine al_end (fun e_15 he_15 => ?_)
    have s3_15 := ef 3 he_15 (up_n (up_m rfl s3_5))
    clear he_15 s1_5 s2_5 s3_5 s6_5 s7_5 s8_5
    refine then_n ?_
    refine aw_ret ?_
    refine ret1 (.inr rfl) (by kernel_rfl) (resV_cell s3_15 mo0_14 y3_ty170 (by exact Nat.le_of_ble_eq_true rfl) (by simp)) (vw_r (.ro _ rfl)) ?_
    clear s3_15 mo0_14 ml_14
    (have h := firN_none (f := er) (n := n.toNat) (fun j hj => p3 j (by omega)); rw [show eaR k er n.toNat = ((0, 0), 0) by unfold eaR; rw [h]]; rfl)
/-- The row of checks. -/
def ckV (l : Lin) : List (List AV) := [[itC (unlessE (isNameB l.nam) 4)], [itC (unlessE (decide ((0 : Int) < l.bs.length ∧ (l.js.length : Int) = l.bs.length + 1)) 10)], [itC (unlessE (decide ((l.bs.length : Int) ≤ 40)) 8)],
  [eaC 1 l.js.length (.clo (.func 142) [] [.ref (lnC l)])], [eaC 2 l.bs.length (.clo (.func 144) [] [.ref (lnC l)])], [itC (unlessE (decide ((l.ss.length : Int) ≤ 4)) 8)], [eaC 3 l.ss.length (.clo (.func 145) [] [.ref (lnC l)])]]
set_option maxRecDepth 100000 in
set_option maxHeartbeats 4000000 in
theorem yIsName_ok (s : ByteArray) (hs : s.size ≤ 1000000000) : FnOk Try.prog 141 [.v (.string s)] (fun q => q = .v (.bool (isNameB s))) := by
  refine fnOk_of (fn := Try.f141) 54 (by kernel_rfl) rfl (by kernel_rfl) (Nat.le_of_ble_eq_true rfl) ?_
  intro e_0 m_0 hA hm_0
  have s0_0 : evA e_0 (.tmp 0) = _ := hA 0 _ rfl
  have ml_0 : m_0.length = 0 := by rw [hm_0]; rfl
  clear hA hm_0
  have hsl := sz_list s
  refine aw_seq ?_
  refine aw_text (by kernel_rfl) ?_
  refine al_ro' (ro_assign ev_c) trivial rfl ?_
  refine al_end (fun e_1 he_1 => ?_)
  have s0_1 := ef 0 he_1 (up_m rfl s0_0)
  clear he_1 s0_0
  refine then_n ?_
  refine aw_seq ?_
  refine aw_seq ?_
  refine aw_text (by kernel_rfl) ?_
  refine al_ro' (ro_move s0_1) trivial rfl ?_
  refine al_ro' (ro_s2b y3_un9 y3_us73 y3_u85 up_h) trivial rfl ?_
  refine al_ro' (ro_eq (ro_len_row up_h rfl y3_sl73.1) (by simp only [lnS] <;> rfl)) trivial rfl ?_
  refine al_ro' (ro_move ev_c) trivial rfl ?_
  refine al_end (fun e_2 he_2 => ?_)
  have s0_2 := ef 0 he_2 (u4 rfl s0_1)
  have s7_2 := ef 7 he_2 (u2 rfl up_h)
  have s8_2 := ef 8 he_2 (up_m rfl up_h)
  have s9_2 := ef 9 he_2 up_h
  clear he_2 s0_1
  refine then_n ?_
  refine aw_block ?_
  refine aw_loop (S := Int) (fun i e mem => (evA e (.tmp 9) = .v (.int .i64 i)) ∧ (evA e (.tmp 0) = evA e_2 (.tmp 0)) ∧ (evA e (.tmp 7) = evA e_2 (.tmp 7)) ∧ (evA e (.tmp 8) = evA e_2 (.tmp 8)) ∧ (mem.length = 0) ∧ ((0 ≤ i ∧ i ≤ s.data.toList.length ∧ ∀ j : Nat, j < i.toNat → okB j (s.data.toList.getD j default) = true))) (fun i => (s.data.toList.length - i).toNat) _ ⟨s9_2, rfl, rfl, rfl, ml_0, ?_⟩ ?_
  · exact ⟨by omega, by omega, fun j hj => by omega⟩
  · rintro i e_3 m_3 ⟨s9_3, k0_3, k7_3, k8_3, ml_3, hinv⟩
    have s0_3 := k0_3.trans s0_2
    have s7_3 := k7_3.trans s7_2
    have s8_3 := k8_3.trans s8_2
    refine aw_seq ?_
    refine aw_text (by kernel_rfl) ?_
    refine al_ro' (ro_lss s9_3 s8_3) trivial rfl ?_
    refine al_end (fun e_4 he_4 => ?_)
    have s0_4 := ef 0 he_4 (up_m rfl s0_3)
    have s7_4 := ef 7 he_4 (up_m rfl s7_3)
    have s8_4 := ef 8 he_4 (up_m rfl s8_3)
    have s9_4 := ef 9 he_4 (up_m rfl s9_3)
    have s10_4 := ef 10 he_4 up_h
    clear he_4 s0_3 s7_3 s8_3 s9_3
    refine then_n ?_
    refine aw_seq ?_
    refine aw_case s10_4 (fun hq_5 => ?_) (fun hq_5 => ?_)
    ·replace hq_5 := bt hq_5
     refine aw_skip ?_
     refine then_n ?_
     refine aw_seq ?_
     refine aw_block ?_
     refine aw_seq ?_
     refine aw_text (by kernel_rfl) ?_
     refine al_ro' (ro_move s9_4) trivial rfl ?_
     refine al_ro' (ro_eq (ro_ix y3_sl73 (up_m rfl s7_4) (up_m rfl s9_4) (by omega) (by first | (refine idx_map ?_; first | omega | (simp only [lnS]; omega)) | (refine idx_mapI ?_; first | omega | (simp only [lnS]; omega)) | (refine idx_mapN ?_; first | omega | (simp only [lnS]; omega)) | rfl)) (by simp only [packA_t, packA_f, iE, bE, setAt, cellsA, Value.cells, map_vc, map_vn, Nat.reduceAdd, qS] <;> rfl)) trivial rfl ?_
     refine al_ro' (ro_eq (ro_ld_ref y3_ty5 rfl up_h (by exact Nat.le_of_ble_eq_true rfl)) (by simp only [packA_t, packA_f, iE, bE, setAt, cellsA, Value.cells, map_vc, map_vn, Nat.reduceAdd, qS] <;> rfl)) trivial rfl ?_
     refine al_ro' (ro_assign (u2 rfl up_h)) trivial rfl ?_
     refine al_ro' (ro_assign (up_m rfl up_h)) trivial rfl ?_
     refine al_end (fun e_6 he_6 => ?_)
     have s0_6 := ef 0 he_6 (up_m rfl (u4 rfl s0_4))
     have s3_6 := ef 3 he_6 (up_m rfl up_h)
     have s4_6 := ef 4 he_6 up_h
     have s7_6 := ef 7 he_6 (up_m rfl (u4 rfl s7_4))
     have s8_6 := ef 8 he_6 (up_m rfl (u4 rfl s8_4))
     have s9_6 := ef 9 he_6 (up_m rfl (u4 rfl s9_4))
     clear he_6 s0_4 s10_4 s7_4 s8_4 s9_4
     refine then_n ?_
     refine aw_seq ?_
     refine aw_cut (fun e mem => (evA e (.tmp 5) = .v (.bool (letB (s.data.toList.getD i.toNat default).toNat))) ∧ (evA e (.tmp 0) = evA e_6 (.tmp 0)) ∧ (evA e (.tmp 3) = evA e_6 (.tmp 3)) ∧ (evA e (.tmp 4) = evA e_6 (.tmp 4)) ∧ (evA e (.tmp 7) = evA e_6 (.tmp 7)) ∧ (evA e (.tmp 8) = evA e_6 (.tmp 8)) ∧ (evA e (.tmp 9) = evA e_6 (.tmp 9)) ∧ m_3 = mem) ?_ ?_
     ·
       refine aw_text (by kernel_rfl) ?_
       refine al_ro' (ro_move s4_6) trivial rfl ?_
       refine al_ro' (ro_geq up_h ev_c) trivial rfl ?_
       refine al_ro' (ro_move up_h) trivial rfl ?_
       refine al_case up_h (fun hb_8 hq_8 => ?_) (fun hb_8 hq_8 => ?_)
       ·replace hq_8 := bt hq_8
        refine al_ro' (ro_move (up_m rfl (u2 rfl s4_6))) ⟨_, rfl, hb_8⟩ rfl ?_
        refine al_ro' (ro_leq up_h ev_c) ⟨_, rfl, (up_m rfl hb_8)⟩ rfl ?_
        refine al_ro' (ro_pickT (u2 rfl hb_8) up_h) trivial rfl ?_
        refine al_ro' (ro_move up_h) trivial rfl ?_
        refine al_case up_h (fun hb_9 hq_9 => ?_) (fun hb_9 hq_9 => ?_)
        ·replace hq_9 := bt hq_9
         refine al_skip' ⟨_, rfl, .inl hb_9⟩ rfl ?_
         refine al_skip' ⟨_, rfl, .inl (up_m rfl hb_9)⟩ rfl ?_
         refine al_skip' ⟨_, rfl, .inl (u2 rfl hb_9)⟩ rfl ?_
         refine al_skip' ⟨_, rfl, .inr up_h⟩ rfl ?_
         refine al_skip' ⟨_, rfl, .inr (up_m rfl up_h)⟩ rfl ?_
         refine al_skip' ⟨_, rfl, .inl (up_m rfl (u4 rfl hb_9))⟩ rfl ?_
         refine al_ro' (ro_pickT (u2 rfl (u4 rfl hb_9)) ev_c) trivial rfl ?_
         refine al_ro' (ro_assign up_h) trivial rfl ?_
         refine al_end (fun e_10 he_10 => ?_)
         have s0_10 := ef 0 he_10 (up_m rfl (u2 rfl (u4 rfl (u8 rfl s0_6))))
         have s3_10 := ef 3 he_10 (up_m rfl (u2 rfl (u4 rfl (u8 rfl s3_6))))
         have s4_10 := ef 4 he_10 (up_m rfl (u2 rfl (u4 rfl (u8 rfl s4_6))))
         have s5_10 := ef 5 he_10 up_h
         have s7_10 := ef 7 he_10 (up_m rfl (u2 rfl (u4 rfl (u8 rfl s7_6))))
         have s8_10 := ef 8 he_10 (up_m rfl (u2 rfl (u4 rfl (u8 rfl s8_6))))
         have s9_10 := ef 9 he_10 (up_m rfl (u2 rfl (u4 rfl (u8 rfl s9_6))))
         clear he_10
         refine then_n ⟨(s5_10).trans (by (refine avb ?_; simp only [letB, decide_eq_true_eq, Bool.false_eq_true, true_iff, false_iff]; omega)), (s0_10).trans (s0_6).symm, (s3_10).trans (s3_6).symm, (s4_10).trans (s4_6).symm, (s7_10).trans (s7_6).symm, (s8_10).trans (s8_6).symm, (s9_10).trans (s9_6).symm, rfl⟩
        replace hq_9 := bf hq_9
        refine al_ro' (ro_move (up_m rfl (u2 rfl (u4 rfl s4_6)))) ⟨_, rfl, hb_9⟩ rfl ?_
        refine al_ro' (ro_geq up_h ev_c) ⟨_, rfl, (up_m rfl hb_9)⟩ rfl ?_
        refine al_ro' (ro_move up_h) ⟨_, rfl, (u2 rfl hb_9)⟩ rfl ?_
        refine al_case up_h (fun hb_11 hq_11 => ?_) (fun hb_11 hq_11 => ?_)
        ·replace hq_11 := bt hq_11
         refine al_ro' (ro_move (u2 rfl (u8 rfl s4_6))) ⟨_, rfl, hb_11⟩ rfl ?_
         refine al_ro' (ro_leq up_h ev_c) ⟨_, rfl, (up_m rfl hb_11)⟩ rfl ?_
         refine al_ro' (ro_pickT (u2 rfl hb_11) up_h) ⟨_, rfl, (up_m rfl (u4 rfl hb_9))⟩ rfl ?_
         refine al_ro' (ro_pickF (u2 rfl (u4 rfl hb_9)) up_h) trivial rfl ?_
         refine al_ro' (ro_assign up_h) trivial rfl ?_
         refine al_end (fun e_12 he_12 => ?_)
         have s0_12 := ef 0 he_12 (up_m rfl (u2 rfl (u4 rfl (u8 rfl s0_6))))
         have s3_12 := ef 3 he_12 (up_m rfl (u2 rfl (u4 rfl (u8 rfl s3_6))))
         have s4_12 := ef 4 he_12 (up_m rfl (u2 rfl (u4 rfl (u8 rfl s4_6))))
         have s5_12 := ef 5 he_12 up_h
         have s7_12 := ef 7 he_12 (up_m rfl (u2 rfl (u4 rfl (u8 rfl s7_6))))
         have s8_12 := ef 8 he_12 (up_m rfl (u2 rfl (u4 rfl (u8 rfl s8_6))))
         have s9_12 := ef 9 he_12 (up_m rfl (u2 rfl (u4 rfl (u8 rfl s9_6))))
         clear he_12
         refine then_n ⟨(s5_12).trans (by (refine avb ?_; simp only [letB, decide_eq_true_eq, Bool.false_eq_true, true_iff, false_iff]; omega)), (s0_12).trans (s0_6).symm, (s3_12).trans (s3_6).symm, (s4_12).trans (s4_6).symm, (s7_12).trans (s7_6).symm, (s8_12).trans (s8_6).symm, (s9_12).trans (s9_6).symm, rfl⟩
        · replace hq_11 := bf hq_11; exfalso; omega
       replace hq_8 := bf hq_8
       refine al_skip' ⟨_, rfl, .inl hb_8⟩ rfl ?_
       refine al_skip' ⟨_, rfl, .inl (up_m rfl hb_8)⟩ rfl ?_
       refine al_ro' (ro_pickF (u2 rfl hb_8) ev_c) trivial rfl ?_
       refine al_ro' (ro_move up_h) trivial rfl ?_
       refine al_ro' (ro_move (up_m rfl (u2 rfl (u4 rfl s4_6)))) ⟨_, rfl, up_h⟩ rfl ?_
       refine al_ro' (ro_geq up_h ev_c) ⟨_, rfl, (up_m rfl up_h)⟩ rfl ?_
       refine al_ro' (ro_move up_h) ⟨_, rfl, (u2 rfl up_h)⟩ rfl ?_
       refine al_case up_h (fun hb_14 hq_14 => ?_) (fun hb_14 hq_14 => ?_)
       ·replace hq_14 := bt hq_14
        refine al_ro' (ro_move (u2 rfl (u8 rfl s4_6))) ⟨_, rfl, hb_14⟩ rfl ?_
        refine al_ro' (ro_leq up_h ev_c) ⟨_, rfl, (up_m rfl hb_14)⟩ rfl ?_
        refine al_ro' (ro_pickT (u2 rfl hb_14) up_h) ⟨_, rfl, (up_m rfl (u4 rfl up_h))⟩ rfl ?_
        refine al_ro' (ro_pickF (u2 rfl (u4 rfl up_h)) up_h) trivial rfl ?_
        refine al_ro' (ro_assign up_h) trivial rfl ?_
        refine al_end (fun e_15 he_15 => ?_)
        have s0_15 := ef 0 he_15 (up_m rfl (u2 rfl (u4 rfl (u8 rfl s0_6))))
        have s3_15 := ef 3 he_15 (up_m rfl (u2 rfl (u4 rfl (u8 rfl s3_6))))
        have s4_15 := ef 4 he_15 (up_m rfl (u2 rfl (u4 rfl (u8 rfl s4_6))))
        have s5_15 := ef 5 he_15 up_h
        have s7_15 := ef 7 he_15 (up_m rfl (u2 rfl (u4 rfl (u8 rfl s7_6))))
        have s8_15 := ef 8 he_15 (up_m rfl (u2 rfl (u4 rfl (u8 rfl s8_6))))
        have s9_15 := ef 9 he_15 (up_m rfl (u2 rfl (u4 rfl (u8 rfl s9_6))))
        clear he_15
        refine then_n ⟨(s5_15).trans (by (refine avb ?_; simp only [letB, decide_eq_true_eq, Bool.false_eq_true, true_iff, false_iff]; omega)), (s0_15).trans (s0_6).symm, (s3_15).trans (s3_6).symm, (s4_15).trans (s4_6).symm, (s7_15).trans (s7_6).symm, (s8_15).trans (s8_6).symm, (s9_15).trans (s9_6).symm, rfl⟩
       replace hq_14 := bf hq_14
       refine al_skip' ⟨_, rfl, .inl hb_14⟩ rfl ?_
       refine al_skip' ⟨_, rfl, .inl (up_m rfl hb_14)⟩ rfl ?_
       refine al_ro' (ro_pickF (u2 rfl hb_14) ev_c) ⟨_, rfl, (up_m rfl (u4 rfl up_h))⟩ rfl ?_
       refine al_ro' (ro_pickF (u2 rfl (u4 rfl up_h)) up_h) trivial rfl ?_
       refine al_ro' (ro_assign up_h) trivial rfl ?_
       refine al_end (fun e_16 he_16 => ?_)
       have s0_16 := ef 0 he_16 (up_m rfl (u2 rfl (u4 rfl (u8 rfl s0_6))))
       have s3_16 := ef 3 he_16 (up_m rfl (u2 rfl (u4 rfl (u8 rfl s3_6))))
       have s4_16 := ef 4 he_16 (up_m rfl (u2 rfl (u4 rfl (u8 rfl s4_6))))
       have s5_16 := ef 5 he_16 up_h
       have s7_16 := ef 7 he_16 (up_m rfl (u2 rfl (u4 rfl (u8 rfl s7_6))))
       have s8_16 := ef 8 he_16 (up_m rfl (u2 rfl (u4 rfl (u8 rfl s8_6))))
       have s9_16 := ef 9 he_16 (up_m rfl (u2 rfl (u4 rfl (u8 rfl s9_6))))
       clear he_16
       refine then_n ⟨(s5_16).trans (by (refine avb ?_; simp only [letB, decide_eq_true_eq, Bool.false_eq_true, true_iff, false_iff]; omega)), (s0_16).trans (s0_6).symm, (s3_16).trans (s3_6).symm, (s4_16).trans (s4_6).symm, (s7_16).trans (s7_6).symm, (s8_16).trans (s8_6).symm, (s9_16).trans (s9_6).symm, rfl⟩
     · rintro e_7 _ ⟨s5_7, k0_7, k3_7, k4_7, k7_7, k8_7, k9_7, rfl⟩
       have s0_7 := k0_7.trans s0_6
       have s3_7 := k3_7.trans s3_6
       have s4_7 := k4_7.trans s4_6
       have s7_7 := k7_7.trans s7_6
       have s8_7 := k8_7.trans s8_6
       have s9_7 := k9_7.trans s9_6
       refine aw_seq ?_
       refine aw_cut (fun e mem => (evA e (.tmp 45) = .v (.bool (!okB i.toNat (s.data.toList.getD i.toNat default)))) ∧ (evA e (.tmp 0) = evA e_7 (.tmp 0)) ∧ (evA e (.tmp 7) = evA e_7 (.tmp 7)) ∧ (evA e (.tmp 8) = evA e_7 (.tmp 8)) ∧ (evA e (.tmp 9) = evA e_7 (.tmp 9)) ∧ m_3 = mem) ?_ ?_
       ·
         refine aw_text (by kernel_rfl) ?_
         refine al_ro' (ro_move s5_7) trivial rfl ?_
         refine al_ro' (ro_not up_h) trivial rfl ?_
         refine al_ro' (ro_move up_h) trivial rfl ?_
         refine al_case up_h (fun hb_18 hq_18 => ?_) (fun hb_18 hq_18 => ?_)
         ·replace hq_18 := bnt hq_18
          refine al_ro' (ro_move (up_m rfl (u2 rfl s3_7))) ⟨_, rfl, hb_18⟩ rfl ?_
          refine al_ro' (ro_eql up_h ev_c) ⟨_, rfl, (up_m rfl hb_18)⟩ rfl ?_
          refine al_ro' (ro_move up_h) ⟨_, rfl, (u2 rfl hb_18)⟩ rfl ?_
          refine al_case up_h (fun hb_19 hq_19 => ?_) (fun hb_19 hq_19 => ?_)
          ·replace hq_19 := bt hq_19
           refine al_skip' ⟨_, rfl, .inl hb_19⟩ rfl ?_
           refine al_skip' ⟨_, rfl, .inl (up_m rfl hb_19)⟩ rfl ?_
           refine al_skip' ⟨_, rfl, .inl (u2 rfl hb_19)⟩ rfl ?_
           refine al_skip' ⟨_, rfl, .inr up_h⟩ rfl ?_
           refine al_skip' ⟨_, rfl, .inr (up_m rfl up_h)⟩ rfl ?_
           refine al_skip' ⟨_, rfl, .inr (u2 rfl up_h)⟩ rfl ?_
           refine al_skip' ⟨_, rfl, .inr up_h⟩ rfl ?_
           refine al_skip' ⟨_, rfl, .inr (up_m rfl up_h)⟩ rfl ?_
           refine al_skip' ⟨_, rfl, .inr (up_m rfl (u4 rfl up_h))⟩ rfl ?_
           refine al_skip' ⟨_, rfl, .inl (up_m rfl (u8 rfl hb_19))⟩ rfl ?_
           refine al_ro' (ro_pickT (u2 rfl (u8 rfl hb_19)) ev_c) ⟨_, rfl, (up_m rfl (u4 rfl (u8 rfl hb_18)))⟩ rfl ?_
           refine al_ro' (ro_pickT (u2 rfl (u4 rfl (u8 rfl hb_18))) up_h) trivial rfl ?_
           refine al_end (fun e_20 he_20 => ?_)
           have s0_20 := ef 0 he_20 (u2 rfl (u16 rfl s0_7))
           have s7_20 := ef 7 he_20 (u2 rfl (u16 rfl s7_7))
           have s8_20 := ef 8 he_20 (u2 rfl (u16 rfl s8_7))
           have s9_20 := ef 9 he_20 (u2 rfl (u16 rfl s9_7))
           have s45_20 := ef 45 he_20 up_h
           clear he_20
           refine then_n ⟨(s45_20).trans (by (refine avb ?_; simp only [letB, okB, decide_eq_true_eq, decide_eq_false_iff_not, Bool.false_eq_true, true_iff, false_iff, Bool.not_eq_true'] at *; omega)), (s0_20).trans (s0_7).symm, (s7_20).trans (s7_7).symm, (s8_20).trans (s8_7).symm, (s9_20).trans (s9_7).symm, rfl⟩
          replace hq_19 := bf hq_19
          refine al_ro' (ro_move (u2 rfl (u4 rfl s4_7))) ⟨_, rfl, hb_19⟩ rfl ?_
          refine al_ro' (ro_neq up_h ev_c) ⟨_, rfl, (up_m rfl hb_19)⟩ rfl ?_
          refine al_ro' (ro_move up_h) ⟨_, rfl, (u2 rfl hb_19)⟩ rfl ?_
          refine al_case up_h (fun hb_21 hq_21 => ?_) (fun hb_21 hq_21 => ?_)
          ·replace hq_21 := bnt hq_21
           refine al_ro' (ro_move (up_m rfl (u8 rfl s4_7))) ⟨_, rfl, hb_21⟩ rfl ?_
           refine al_ro' (ro_lss up_h ev_c) ⟨_, rfl, (up_m rfl hb_21)⟩ rfl ?_
           refine al_ro' (ro_move up_h) ⟨_, rfl, (u2 rfl hb_21)⟩ rfl ?_
           refine al_case up_h (fun hb_22 hq_22 => ?_) (fun hb_22 hq_22 => ?_)
           ·replace hq_22 := bt hq_22
            refine al_skip' ⟨_, rfl, .inl hb_22⟩ rfl ?_
            refine al_skip' ⟨_, rfl, .inl (up_m rfl hb_22)⟩ rfl ?_
            refine al_ro' (ro_pickT (u2 rfl hb_22) ev_c) ⟨_, rfl, (up_m rfl (u4 rfl hb_21))⟩ rfl ?_
            refine al_ro' (ro_pickT (u2 rfl (u4 rfl hb_21)) up_h) ⟨_, rfl, (up_m rfl (u8 rfl hb_19))⟩ rfl ?_
            refine al_ro' (ro_pickF (u2 rfl (u8 rfl hb_19)) up_h) ⟨_, rfl, (up_m rfl (u4 rfl (u8 rfl hb_18)))⟩ rfl ?_
            refine al_ro' (ro_pickT (u2 rfl (u4 rfl (u8 rfl hb_18))) up_h) trivial rfl ?_
            refine al_end (fun e_23 he_23 => ?_)
            have s0_23 := ef 0 he_23 (u2 rfl (u16 rfl s0_7))
            have s7_23 := ef 7 he_23 (u2 rfl (u16 rfl s7_7))
            have s8_23 := ef 8 he_23 (u2 rfl (u16 rfl s8_7))
            have s9_23 := ef 9 he_23 (u2 rfl (u16 rfl s9_7))
            have s45_23 := ef 45 he_23 up_h
            clear he_23
            refine then_n ⟨(s45_23).trans (by (refine avb ?_; simp only [letB, okB, decide_eq_true_eq, decide_eq_false_iff_not, Bool.false_eq_true, true_iff, false_iff, Bool.not_eq_true'] at *; omega)), (s0_23).trans (s0_7).symm, (s7_23).trans (s7_7).symm, (s8_23).trans (s8_7).symm, (s9_23).trans (s9_7).symm, rfl⟩
           replace hq_22 := bf hq_22
           refine al_ro' (ro_move (u4 rfl (u8 rfl s4_7))) ⟨_, rfl, hb_22⟩ rfl ?_
           refine al_ro' (ro_gtr up_h ev_c) ⟨_, rfl, (up_m rfl hb_22)⟩ rfl ?_
           refine al_ro' (ro_pickF (u2 rfl hb_22) up_h) ⟨_, rfl, (up_m rfl (u4 rfl hb_21))⟩ rfl ?_
           refine al_ro' (ro_pickT (u2 rfl (u4 rfl hb_21)) up_h) ⟨_, rfl, (up_m rfl (u8 rfl hb_19))⟩ rfl ?_
           refine al_ro' (ro_pickF (u2 rfl (u8 rfl hb_19)) up_h) ⟨_, rfl, (up_m rfl (u4 rfl (u8 rfl hb_18)))⟩ rfl ?_
           refine al_ro' (ro_pickT (u2 rfl (u4 rfl (u8 rfl hb_18))) up_h) trivial rfl ?_
           refine al_end (fun e_24 he_24 => ?_)
           have s0_24 := ef 0 he_24 (u2 rfl (u16 rfl s0_7))
           have s7_24 := ef 7 he_24 (u2 rfl (u16 rfl s7_7))
           have s8_24 := ef 8 he_24 (u2 rfl (u16 rfl s8_7))
           have s9_24 := ef 9 he_24 (u2 rfl (u16 rfl s9_7))
           have s45_24 := ef 45 he_24 up_h
           clear he_24
           refine then_n ⟨(s45_24).trans (by (refine avb ?_; simp only [letB, okB, decide_eq_true_eq, decide_eq_false_iff_not, Bool.false_eq_true, true_iff, false_iff, Bool.not_eq_true'] at *; omega)), (s0_24).trans (s0_7).symm, (s7_24).trans (s7_7).symm, (s8_24).trans (s8_7).symm, (s9_24).trans (s9_7).symm, rfl⟩
          replace hq_21 := bnf hq_21
          refine al_skip' ⟨_, rfl, .inl hb_21⟩ rfl ?_
          refine al_skip' ⟨_, rfl, .inl (up_m rfl hb_21)⟩ rfl ?_
          refine al_skip' ⟨_, rfl, .inl (u2 rfl hb_21)⟩ rfl ?_
          refine al_skip' ⟨_, rfl, .inr up_h⟩ rfl ?_
          refine al_skip' ⟨_, rfl, .inr (up_m rfl up_h)⟩ rfl ?_
          refine al_skip' ⟨_, rfl, .inl (up_m rfl (u4 rfl hb_21))⟩ rfl ?_
          refine al_ro' (ro_pickF (u2 rfl (u4 rfl hb_21)) ev_c) ⟨_, rfl, (up_m rfl (u8 rfl hb_19))⟩ rfl ?_
          refine al_ro' (ro_pickF (u2 rfl (u8 rfl hb_19)) up_h) ⟨_, rfl, (up_m rfl (u4 rfl (u8 rfl hb_18)))⟩ rfl ?_
          refine al_ro' (ro_pickT (u2 rfl (u4 rfl (u8 rfl hb_18))) up_h) trivial rfl ?_
          refine al_end (fun e_25 he_25 => ?_)
          have s0_25 := ef 0 he_25 (u2 rfl (u16 rfl s0_7))
          have s7_25 := ef 7 he_25 (u2 rfl (u16 rfl s7_7))
          have s8_25 := ef 8 he_25 (u2 rfl (u16 rfl s8_7))
          have s9_25 := ef 9 he_25 (u2 rfl (u16 rfl s9_7))
          have s45_25 := ef 45 he_25 up_h
          clear he_25
          refine then_n ⟨(s45_25).trans (by (refine avb ?_; simp only [letB, okB, decide_eq_true_eq, decide_eq_false_iff_not, Bool.false_eq_true, true_iff, false_iff, Bool.not_eq_true'] at *; omega)), (s0_25).trans (s0_7).symm, (s7_25).trans (s7_7).symm, (s8_25).trans (s8_7).symm, (s9_25).trans (s9_7).symm, rfl⟩
         replace hq_18 := bnf hq_18
         refine al_skip' ⟨_, rfl, .inl hb_18⟩ rfl ?_
         refine al_skip' ⟨_, rfl, .inl (up_m rfl hb_18)⟩ rfl ?_
         refine al_skip' ⟨_, rfl, .inl (u2 rfl hb_18)⟩ rfl ?_
         refine al_skip' ⟨_, rfl, .inr up_h⟩ rfl ?_
         refine al_skip' ⟨_, rfl, .inr (up_m rfl up_h)⟩ rfl ?_
         refine al_skip' ⟨_, rfl, .inr (u2 rfl up_h)⟩ rfl ?_
         refine al_skip' ⟨_, rfl, .inr up_h⟩ rfl ?_
         refine al_skip' ⟨_, rfl, .inr (up_m rfl up_h)⟩ rfl ?_
         refine al_skip' ⟨_, rfl, .inr (u2 rfl up_h)⟩ rfl ?_
         refine al_skip' ⟨_, rfl, .inr up_h⟩ rfl ?_
         refine al_skip' ⟨_, rfl, .inr (up_m rfl up_h)⟩ rfl ?_
         refine al_skip' ⟨_, rfl, .inr (up_m rfl (u4 rfl up_h))⟩ rfl ?_
         refine al_skip' ⟨_, rfl, .inr (up_m rfl (u8 rfl up_h))⟩ rfl ?_
         refine al_skip' ⟨_, rfl, .inl (up_m rfl (u4 rfl (u8 rfl hb_18)))⟩ rfl ?_
         refine al_ro' (ro_pickF (u2 rfl (u4 rfl (u8 rfl hb_18))) ev_c) trivial rfl ?_
         refine al_end (fun e_26 he_26 => ?_)
         have s0_26 := ef 0 he_26 (u2 rfl (u16 rfl s0_7))
         have s7_26 := ef 7 he_26 (u2 rfl (u16 rfl s7_7))
         have s8_26 := ef 8 he_26 (u2 rfl (u16 rfl s8_7))
         have s9_26 := ef 9 he_26 (u2 rfl (u16 rfl s9_7))
         have s45_26 := ef 45 he_26 up_h
         clear he_26
         refine then_n ⟨(s45_26).trans (by (refine avb ?_; simp only [letB, okB, decide_eq_true_eq, decide_eq_false_iff_not, Bool.false_eq_true, true_iff, false_iff, Bool.not_eq_true'] at *; omega)), (s0_26).trans (s0_7).symm, (s7_26).trans (s7_7).symm, (s8_26).trans (s8_7).symm, (s9_26).trans (s9_7).symm, rfl⟩
       · rintro e_17 _ ⟨s45_17, k0_17, k7_17, k8_17, k9_17, rfl⟩
         have s0_17 := k0_17.trans s0_7
         have s7_17 := k7_17.trans s7_7
         have s8_17 := k8_17.trans s8_7
         have s9_17 := k9_17.trans s9_7
         refine aw_case s45_17 (fun hq_27 => ?_) (fun hq_27 => ?_)
         ·replace hq_27 := bnt hq_27
          refine aw_seq ?_
          refine aw_text (by kernel_rfl) ?_
          refine al_ro' (ro_assign ev_c) trivial rfl ?_
          refine al_end (fun e_28 he_28 => ?_)
          have s2_28 := ef 2 he_28 up_h
          clear he_28 s0_17 s45_17 s7_17 s8_17 s9_17
          refine then_n ?_
          refine aw_ret ?_
          refine block_r ?_
          refine then_r ?_
          refine then_r ?_
          refine block_r ?_
          refine then_r ?_
          refine ret1 (.inr rfl) (by kernel_rfl) (resV_tmp s2_28) (.ro _ rfl) ?_
          clear s2_28  ml_3
          (obtain ⟨h1, h2, h3⟩ := hinv; have hn : namB s.data.toList = false := namB_f (i := i.toNat) (by omega) (by first | assumption | exact okB_f (by assumption)); simp [isNameB, hn])
         replace hq_27 := bnf hq_27
         refine aw_skip ?_
         refine block_n ?_
         refine then_n ?_
         refine aw_text (by kernel_rfl) ?_
         (refine al_ro' (ro_add' s9_17 ev_c ?_) trivial rfl ?_; · (unfold In64; omega))
         refine al_ro' (ro_move up_h) trivial rfl ?_
         refine al_end (fun e_29 he_29 => ?_)
         have s0_29 := ef 0 he_29 (u2 rfl s0_17)
         have s7_29 := ef 7 he_29 (u2 rfl s7_17)
         have s8_29 := ef 8 he_29 (u2 rfl s8_17)
         have s9_29 := ef 9 he_29 up_h
         clear he_29 s0_17 s45_17 s7_17 s8_17 s9_17
         refine then_n ?_
         refine ⟨_, ⟨s9_29, (s0_29.trans s0_2.symm), (s7_29.trans s7_2.symm), (s8_29.trans s8_2.symm), ml_3, ?_⟩, ?_⟩
         · (obtain ⟨h1, h2, h3⟩ := hinv; refine ⟨by omega, by omega, fun j hj => ?_⟩; by_cases hj' : j < i.toNat; exact h3 j hj'; have hji : j = i.toNat := (by omega); rw [hji]; first | assumption | exact okB_t (by omega))
         · ((try dsimp only); omega)
    replace hq_5 := bf hq_5
    refine aw_exit ?_
    refine then_x ?_
    refine then_x ?_
    refine block_hit ?_
    refine then_n ?_
    refine aw_seq ?_
    refine aw_text (by kernel_rfl) ?_
    refine al_ro' (ro_move s0_4) trivial rfl ?_
    refine al_ro' (ro_sneq up_h ev_c) trivial rfl ?_
    refine al_ro' (ro_move up_h) trivial rfl ?_
    refine al_case up_h (fun hb_30 hq_30 => ?_) (fun hb_30 hq_30 => ?_)
    ·replace hq_30 := bt' hq_30
     refine al_ro' (ro_move (up_m rfl (u2 rfl s0_4))) ⟨_, rfl, hb_30⟩ rfl ?_
     refine al_ro' (ro_len_str up_h rfl y3_un9) ⟨_, rfl, (up_m rfl hb_30)⟩ rfl ?_
     refine al_ro' (ro_leq up_h ev_c) ⟨_, rfl, (u2 rfl hb_30)⟩ rfl ?_
     refine al_ro' (ro_pickT (up_m rfl (u2 rfl hb_30)) up_h) trivial rfl ?_
     refine al_ro' (ro_assign up_h) trivial rfl ?_
     refine al_end (fun e_31 he_31 => ?_)
     have s2_31 := ef 2 he_31 up_h
     clear he_31 hb_30 s0_4 s10_4 s7_4 s8_4 s9_4
     refine then_n ?_
     refine aw_ret ?_
     refine ret1 (.inr rfl) (by kernel_rfl) (resV_tmp s2_31) (.ro _ rfl) ?_
     clear s2_31  ml_3
     (obtain ⟨h1, h2, h3⟩ := hinv; have hn : namB s.data.toList = true := (namB_t fun j hj => h3 j (by omega)); refine avb ?_; simp only [empty_size, isNameB, hn, Bool.true_and, Bool.and_eq_true, decide_eq_true_eq, Bool.not_eq_true', decide_eq_false_iff_not, Bool.false_eq_true, false_iff, true_iff, Bool.not_eq_false'] at *; omega)
    replace hq_30 := bf' hq_30
    refine al_skip' ⟨_, rfl, .inl hb_30⟩ rfl ?_
    refine al_skip' ⟨_, rfl, .inl (up_m rfl hb_30)⟩ rfl ?_
    refine al_skip' ⟨_, rfl, .inl (u2 rfl hb_30)⟩ rfl ?_
    refine al_ro' (ro_pickF (up_m rfl (u2 rfl hb_30)) ev_c) trivial rfl ?_
    refine al_ro' (ro_assign up_h) trivial rfl ?_
    refine al_end (fun e_32 he_32 => ?_)
    have s2_32 := ef 2 he_32 up_h
    clear he_32 hb_30 s0_4 s10_4 s7_4 s8_4 s9_4
    refine then_n ?_
    refine aw_ret ?_
    refine ret1 (.inr rfl) (by kernel_rfl) (resV_tmp s2_32) (.ro _ rfl) ?_
    clear s2_32  ml_3
    (obtain ⟨h1, h2, h3⟩ := hinv; have hn : namB s.data.toList = true := (namB_t fun j hj => h3 j (by omega)); refine avb ?_; simp only [empty_size, isNameB, hn, Bool.true_and, Bool.and_eq_true, decide_eq_true_eq, Bool.not_eq_true', decide_eq_false_iff_not, Bool.false_eq_true, false_iff, true_iff, Bool.not_eq_false'] at *; omega)
set_option maxRecDepth 100000 in
set_option maxHeartbeats 4000000 in
theorem checks_ok (l : Lin) (hl : Sho l) : FnOk Try.prog 129 [lnA l] (fun q => q = .row 1 (ckV l)) := by
  obtain ⟨h1, h2, h3, h4, h5⟩ := id hl
  refine fnOk_of (fn := Try.f129) 61 (by kernel_rfl) rfl (by kernel_rfl) (Nat.le_of_ble_eq_true rfl) ?_
  intro e_0 m_0 hA hm_0
  have s0_0 : evA e_0 (.tmp 0) = _ := hA 0 _ rfl
  have ml_0 : m_0.length = 0 := by rw [hm_0]; rfl
  clear hA hm_0
  refine aw_seq ?_
  refine aw_text (by kernel_rfl) ?_
  refine al_ro' (ro_boxR s0_0 rfl (by first | rfl | (simp only [roO.roL, roO, Bool.and_true, Bool.true_and]; first | rfl | assumption) | (apply roL_flat; intro _; rfl))) trivial rfl ?_
  refine al_ro' (ro_assign ev_c) trivial rfl ?_
  refine al_end (fun e_1 he_1 => ?_)
  have s1_1 := ef 1 he_1 (up_m rfl up_h)
  clear he_1 s0_0
  refine then_n ?_
  refine aw_seq ?_
  refine aw_text (by kernel_rfl) ?_
  refine al_ro' (ro_assign ev_f) trivial rfl ?_
  refine al_end (fun e_2 he_2 => ?_)
  have s1_2 := ef 1 he_2 (up_m rfl s1_1)
  have s3_2 := ef 3 he_2 up_h
  clear he_2 s1_1
  refine then_n ?_
  refine aw_seq ?_
  refine aw_text (by kernel_rfl) ?_
  refine al_ro' (ro_assign ev_f) trivial rfl ?_
  refine al_end (fun e_3 he_3 => ?_)
  have s1_3 := ef 1 he_3 (up_m rfl s1_2)
  have s3_3 := ef 3 he_3 (up_m rfl s3_2)
  have s4_3 := ef 4 he_3 up_h
  clear he_3 s1_2 s3_2
  refine then_n ?_
  refine aw_seq ?_
  refine aw_draw 57 (by kernel_rfl) (by kernel_rfl) (by kernel_rfl) (by kernel_rfl) ?_
  refine ds_ro' (ro_move s3_3) trivial rfl ?_
  refine ds_ro' (ro_eq (ro_fld_ref y3_fl26_0 rfl (up_m rfl s1_3)) (by simp only [packA_t, packA_f, iE, bE, setAt, cellsA, Value.cells, map_vc, map_vn, Nat.reduceAdd, qS] <;> rfl)) trivial rfl ?_
  refine ds_ro' (ro_eq (ro_ld_ref y3_ty9 rfl up_h (by exact Nat.le_of_ble_eq_true rfl)) (by simp only [packA_t, packA_f, iE, bE, setAt, cellsA, Value.cells, map_vc, map_vn, Nat.reduceAdd, qS] <;> rfl)) trivial rfl ?_
  refine ds_ro' (ro_call (evL_cons up_h evL_nil) rfl (yIsName_ok l.nam (by omega)) y3_hcf141) trivial rfl ?_
  refine ds_ro' (ro_call (evL_cons up_h (evL_cons ev_c evL_nil)) rfl (yUnless_ok _ _) y3_hcf76) trivial rfl ?_
  refine ds_ro' (ro_callf (u4 rfl up_h) (evL_cons up_h evL_nil) rfl (itself_ok _) y3_hcf137) trivial rfl ?_
  refine ds_ro' (ro_move (u2 rfl (u4 rfl s3_3))) trivial rfl ?_
  refine ds_ro' (ro_eq (ro_fld_ref y3_fl26_2 rfl (up_m rfl (u2 rfl (u4 rfl s1_3)))) (by simp only [packA_t, packA_f, iE, bE, setAt, cellsA, Value.cells, map_vc, map_vn, Nat.reduceAdd, qS] <;> rfl)) trivial rfl ?_
  refine ds_ro' (ro_eq (ro_ld_ref y3_ty23 rfl up_h (by exact Nat.le_of_ble_eq_true rfl)) (by simp only [packA_t, packA_f, iE, bE, setAt, cellsA, Value.cells, map_vc, map_vn, Nat.reduceAdd, qS] <;> rfl)) trivial rfl ?_
  refine ds_ro' (ro_eq (ro_len_row up_h rfl y3_sl23.1) (by simp only [lnS] <;> rfl)) trivial rfl ?_
  refine ds_ro' (ro_gtr up_h ev_c) trivial rfl ?_
  refine ds_ro' (ro_move up_h) trivial rfl ?_
  refine ds_case up_h (fun hb_4 hq_4 => ?_) (fun hb_4 hq_4 => ?_)
  ·replace hq_4 := bt hq_4
   refine ds_ro' (ro_eq (ro_fld_ref y3_fl26_1 rfl (u4 rfl (u8 rfl s1_3))) (by simp only [packA_t, packA_f, iE, bE, setAt, cellsA, Value.cells, map_vc, map_vn, Nat.reduceAdd, qS] <;> rfl)) ⟨_, rfl, hb_4⟩ rfl ?_
   refine ds_ro' (ro_eq (ro_ld_ref y3_ty22 rfl up_h (by exact Nat.le_of_ble_eq_true rfl)) (by simp only [packA_t, packA_f, iE, bE, setAt, cellsA, Value.cells, map_vc, map_vn, Nat.reduceAdd, qS] <;> rfl)) ⟨_, rfl, (up_m rfl hb_4)⟩ rfl ?_
   refine ds_ro' (ro_eq (ro_len_row up_h rfl y3_sl22.1) (by simp only [lnS] <;> rfl)) ⟨_, rfl, (u2 rfl hb_4)⟩ rfl ?_
   refine ds_ro' (ro_eq (ro_fld_ref y3_fl26_2 rfl (up_m rfl (u2 rfl (u4 rfl (u8 rfl s1_3))))) (by simp only [packA_t, packA_f, iE, bE, setAt, cellsA, Value.cells, map_vc, map_vn, Nat.reduceAdd, qS] <;> rfl)) ⟨_, rfl, (up_m rfl (u2 rfl hb_4))⟩ rfl ?_
   refine ds_ro' (ro_eq (ro_ld_ref y3_ty23 rfl up_h (by exact Nat.le_of_ble_eq_true rfl)) (by simp only [packA_t, packA_f, iE, bE, setAt, cellsA, Value.cells, map_vc, map_vn, Nat.reduceAdd, qS] <;> rfl)) ⟨_, rfl, (u4 rfl hb_4)⟩ rfl ?_
   refine ds_ro' (ro_eq (ro_len_row up_h rfl y3_sl23.1) (by simp only [lnS] <;> rfl)) ⟨_, rfl, (up_m rfl (u4 rfl hb_4))⟩ rfl ?_
   (refine ds_ro' (ro_add' up_h ev_c ?_) ⟨_, rfl, (u2 rfl (u4 rfl hb_4))⟩ rfl ?_; · (unfold In64; omega))
   refine ds_ro' (ro_eql (u4 rfl up_h) up_h) ⟨_, rfl, (up_m rfl (u2 rfl (u4 rfl hb_4)))⟩ rfl ?_
   refine ds_ro' (ro_pickT (u8 rfl hb_4) up_h) trivial rfl ?_
   refine ds_ro' (ro_call (evL_cons up_h (evL_cons ev_c evL_nil)) rfl (yUnless_ok _ _) y3_hcf76) trivial rfl ?_
   refine ds_ro' (ro_callf (up_m rfl (u2 rfl (u4 rfl (u8 rfl up_h)))) (evL_cons up_h evL_nil) rfl (itself_ok _) y3_hcf137) trivial rfl ?_
   refine ds_ro' (ro_move (up_m rfl (u2 rfl (u4 rfl (u16 rfl s3_3))))) trivial rfl ?_
   refine ds_ro' (ro_eq (ro_fld_ref y3_fl26_2 rfl (u8 rfl (u16 rfl s1_3))) (by simp only [packA_t, packA_f, iE, bE, setAt, cellsA, Value.cells, map_vc, map_vn, Nat.reduceAdd, qS] <;> rfl)) trivial rfl ?_
   refine ds_ro' (ro_eq (ro_ld_ref y3_ty23 rfl up_h (by exact Nat.le_of_ble_eq_true rfl)) (by simp only [packA_t, packA_f, iE, bE, setAt, cellsA, Value.cells, map_vc, map_vn, Nat.reduceAdd, qS] <;> rfl)) trivial rfl ?_
   refine ds_ro' (ro_eq (ro_len_row up_h rfl y3_sl23.1) (by simp only [lnS] <;> rfl)) trivial rfl ?_
   refine ds_ro' (ro_leq up_h ev_c) trivial rfl ?_
   refine ds_ro' (ro_call (evL_cons up_h (evL_cons ev_c evL_nil)) rfl (yUnless_ok _ _) y3_hcf76) trivial rfl ?_
   refine ds_ro' (ro_callf (up_m rfl (u4 rfl up_h)) (evL_cons up_h evL_nil) rfl (itself_ok _) y3_hcf137) trivial rfl ?_
   refine ds_ro' (ro_move (u2 rfl (u4 rfl (u8 rfl (u16 rfl s4_3))))) trivial rfl ?_
   refine ds_ro' (ro_eq (ro_fld_ref y3_fl26_1 rfl (up_m rfl (u2 rfl (u4 rfl (u8 rfl (u16 rfl s1_3)))))) (by simp only [packA_t, packA_f, iE, bE, setAt, cellsA, Value.cells, map_vc, map_vn, Nat.reduceAdd, qS] <;> rfl)) trivial rfl ?_
   refine ds_ro' (ro_eq (ro_ld_ref y3_ty22 rfl up_h (by exact Nat.le_of_ble_eq_true rfl)) (by simp only [packA_t, packA_f, iE, bE, setAt, cellsA, Value.cells, map_vc, map_vn, Nat.reduceAdd, qS] <;> rfl)) trivial rfl ?_
   refine ds_ro' (ro_eq (ro_len_row up_h rfl y3_sl22.1) (by simp only [lnS] <;> rfl)) trivial rfl ?_
   refine ds_ro' (ro_makeFunc evL_nil (evL_cons (u2 rfl (u16 rfl (u16 rfl s1_3))) evL_nil)) trivial rfl ?_
   refine ds_ro' (ro_callf (u4 rfl up_h) (evL_cons ev_c (evL_cons (up_m rfl up_h) (evL_cons up_h evL_nil))) rfl (each_ok _ _ _ _ rfl) y3_hcf139) trivial rfl ?_
   refine ds_ro' (ro_move (u4 rfl (u16 rfl (u16 rfl s4_3)))) trivial rfl ?_
   refine ds_ro' (ro_eq (ro_fld_ref y3_fl26_2 rfl (up_m rfl (u4 rfl (u16 rfl (u16 rfl s1_3))))) (by simp only [packA_t, packA_f, iE, bE, setAt, cellsA, Value.cells, map_vc, map_vn, Nat.reduceAdd, qS] <;> rfl)) trivial rfl ?_
   refine ds_ro' (ro_eq (ro_ld_ref y3_ty23 rfl up_h (by exact Nat.le_of_ble_eq_true rfl)) (by simp only [packA_t, packA_f, iE, bE, setAt, cellsA, Value.cells, map_vc, map_vn, Nat.reduceAdd, qS] <;> rfl)) trivial rfl ?_
   refine ds_ro' (ro_eq (ro_len_row up_h rfl y3_sl23.1) (by simp only [lnS] <;> rfl)) trivial rfl ?_
   refine ds_ro' (ro_makeFunc evL_nil (evL_cons (u8 rfl (u16 rfl (u16 rfl s1_3))) evL_nil)) trivial rfl ?_
   refine ds_ro' (ro_callf (u4 rfl up_h) (evL_cons ev_c (evL_cons (up_m rfl up_h) (evL_cons up_h evL_nil))) rfl (each_ok _ _ _ _ rfl) y3_hcf139) trivial rfl ?_
   refine ds_ro' (ro_move (u2 rfl (u8 rfl (u16 rfl (u16 rfl s3_3))))) trivial rfl ?_
   refine ds_ro' (ro_eq (ro_fld_ref y3_fl26_3 rfl (up_m rfl (u2 rfl (u8 rfl (u16 rfl (u16 rfl s1_3)))))) (by simp only [packA_t, packA_f, iE, bE, setAt, cellsA, Value.cells, map_vc, map_vn, Nat.reduceAdd, qS] <;> rfl)) trivial rfl ?_
   refine ds_ro' (ro_eq (ro_ld_ref y3_ty24 rfl up_h (by exact Nat.le_of_ble_eq_true rfl)) (by simp only [packA_t, packA_f, iE, bE, setAt, cellsA, Value.cells, map_vc, map_vn, Nat.reduceAdd, qS] <;> rfl)) trivial rfl ?_
   refine ds_ro' (ro_eq (ro_len_row up_h rfl y3_sl24.1) (by simp only [lnS] <;> rfl)) trivial rfl ?_
   refine ds_ro' (ro_leq up_h ev_c) trivial rfl ?_
   refine ds_ro' (ro_call (evL_cons up_h (evL_cons ev_c evL_nil)) rfl (yUnless_ok _ _) y3_hcf76) trivial rfl ?_
   refine ds_ro' (ro_callf (up_m rfl (u4 rfl up_h)) (evL_cons up_h evL_nil) rfl (itself_ok _) y3_hcf137) trivial rfl ?_
   refine ds_ro' (ro_move (up_m rfl (u16 rfl (u16 rfl (u16 rfl s4_3))))) trivial rfl ?_
   refine ds_ro' (ro_eq (ro_fld_ref y3_fl26_3 rfl (u2 rfl (u16 rfl (u16 rfl (u16 rfl s1_3))))) (by simp only [packA_t, packA_f, iE, bE, setAt, cellsA, Value.cells, map_vc, map_vn, Nat.reduceAdd, qS] <;> rfl)) trivial rfl ?_
   refine ds_ro' (ro_eq (ro_ld_ref y3_ty24 rfl up_h (by exact Nat.le_of_ble_eq_true rfl)) (by simp only [packA_t, packA_f, iE, bE, setAt, cellsA, Value.cells, map_vc, map_vn, Nat.reduceAdd, qS] <;> rfl)) trivial rfl ?_
   refine ds_ro' (ro_eq (ro_len_row up_h rfl y3_sl24.1) (by simp only [lnS] <;> rfl)) trivial rfl ?_
   refine ds_ro' (ro_makeFunc evL_nil (evL_cons (up_m rfl (u4 rfl (u16 rfl (u16 rfl (u16 rfl s1_3))))) evL_nil)) trivial rfl ?_
   refine ds_ro' (ro_callf (u4 rfl up_h) (evL_cons ev_c (evL_cons (up_m rfl up_h) (evL_cons up_h evL_nil))) rfl (each_ok _ _ _ _ rfl) y3_hcf139) trivial rfl ?_
   refine ds_ro' (ro_lit y3_sl166 (evP_cons (up_m rfl (u16 rfl (u16 rfl (u16 rfl up_h)))) (evP_cons (u16 rfl (u16 rfl up_h)) (evP_cons (up_m rfl (u8 rfl (u16 rfl up_h))) (evP_cons (up_m rfl (u2 rfl (u16 rfl up_h))) (evP_cons (up_m rfl (u4 rfl (u8 rfl up_h))) (evP_cons (u2 rfl (u4 rfl up_h)) (evP_cons up_h evP_nil))))))) rfl rfl rfl rfl) trivial rfl ?_
   refine ds_ro' (ro_assign up_h) trivial rfl ?_
   refine ds_nil ?_
   refine al_end (fun e_5 he_5 => ?_)
   have s2_5 := ef 2 he_5 up_h
   clear he_5 hb_4 s1_3 s3_3 s4_3
   refine then_n ?_
   refine aw_ret ?_
   refine ret1 (.inr rfl) (by kernel_rfl) (resV_tmp s2_5) (.ro _ rfl) ?_
   clear s2_5  ml_0
   (have hp : (0 : Int) < l.bs.length := (by assumption); have hd : decide ((0 : Int) < l.bs.length ∧ (l.js.length : Int) = l.bs.length + 1) = decide ((l.js.length : Int) = l.bs.length + 1) := decide_eq_decide.2 ⟨fun h => h.2, fun h => ⟨hp, h⟩⟩; unfold ckV; rw [hd])
  replace hq_4 := bf hq_4
  refine ds_skip' ⟨_, rfl, .inl hb_4⟩ rfl ?_
  refine ds_skip' ⟨_, rfl, .inl (up_m rfl hb_4)⟩ rfl ?_
  refine ds_skip' ⟨_, rfl, .inl (u2 rfl hb_4)⟩ rfl ?_
  refine ds_skip' ⟨_, rfl, .inl (up_m rfl (u2 rfl hb_4))⟩ rfl ?_
  refine ds_skip' ⟨_, rfl, .inl (u4 rfl hb_4)⟩ rfl ?_
  refine ds_skip' ⟨_, rfl, .inl (up_m rfl (u4 rfl hb_4))⟩ rfl ?_
  refine ds_skip' ⟨_, rfl, .inl (u2 rfl (u4 rfl hb_4))⟩ rfl ?_
  refine ds_skip' ⟨_, rfl, .inl (up_m rfl (u2 rfl (u4 rfl hb_4)))⟩ rfl ?_
  refine ds_ro' (ro_pickF (u8 rfl hb_4) ev_c) trivial rfl ?_
  refine ds_ro' (ro_call (evL_cons up_h (evL_cons ev_c evL_nil)) rfl (yUnless_ok _ _) y3_hcf76) trivial rfl ?_
  refine ds_ro' (ro_callf (up_m rfl (u2 rfl (u4 rfl (u8 rfl up_h)))) (evL_cons up_h evL_nil) rfl (itself_ok _) y3_hcf137) trivial rfl ?_
  refine ds_ro' (ro_move (up_m rfl (u2 rfl (u4 rfl (u16 rfl s3_3))))) trivial rfl ?_
  refine ds_ro' (ro_eq (ro_fld_ref y3_fl26_2 rfl (u8 rfl (u16 rfl s1_3))) (by simp only [packA_t, packA_f, iE, bE, setAt, cellsA, Value.cells, map_vc, map_vn, Nat.reduceAdd, qS] <;> rfl)) trivial rfl ?_
  refine ds_ro' (ro_eq (ro_ld_ref y3_ty23 rfl up_h (by exact Nat.le_of_ble_eq_true rfl)) (by simp only [packA_t, packA_f, iE, bE, setAt, cellsA, Value.cells, map_vc, map_vn, Nat.reduceAdd, qS] <;> rfl)) trivial rfl ?_
  refine ds_ro' (ro_eq (ro_len_row up_h rfl y3_sl23.1) (by simp only [lnS] <;> rfl)) trivial rfl ?_
  refine ds_ro' (ro_leq up_h ev_c) trivial rfl ?_
  refine ds_ro' (ro_call (evL_cons up_h (evL_cons ev_c evL_nil)) rfl (yUnless_ok _ _) y3_hcf76) trivial rfl ?_
  refine ds_ro' (ro_callf (up_m rfl (u4 rfl up_h)) (evL_cons up_h evL_nil) rfl (itself_ok _) y3_hcf137) trivial rfl ?_
  refine ds_ro' (ro_move (u2 rfl (u4 rfl (u8 rfl (u16 rfl s4_3))))) trivial rfl ?_
  refine ds_ro' (ro_eq (ro_fld_ref y3_fl26_1 rfl (up_m rfl (u2 rfl (u4 rfl (u8 rfl (u16 rfl s1_3)))))) (by simp only [packA_t, packA_f, iE, bE, setAt, cellsA, Value.cells, map_vc, map_vn, Nat.reduceAdd, qS] <;> rfl)) trivial rfl ?_
  refine ds_ro' (ro_eq (ro_ld_ref y3_ty22 rfl up_h (by exact Nat.le_of_ble_eq_true rfl)) (by simp only [packA_t, packA_f, iE, bE, setAt, cellsA, Value.cells, map_vc, map_vn, Nat.reduceAdd, qS] <;> rfl)) trivial rfl ?_
  refine ds_ro' (ro_eq (ro_len_row up_h rfl y3_sl22.1) (by simp only [lnS] <;> rfl)) trivial rfl ?_
  refine ds_ro' (ro_makeFunc evL_nil (evL_cons (u2 rfl (u16 rfl (u16 rfl s1_3))) evL_nil)) trivial rfl ?_
  refine ds_ro' (ro_callf (u4 rfl up_h) (evL_cons ev_c (evL_cons (up_m rfl up_h) (evL_cons up_h evL_nil))) rfl (each_ok _ _ _ _ rfl) y3_hcf139) trivial rfl ?_
  refine ds_ro' (ro_move (u4 rfl (u16 rfl (u16 rfl s4_3)))) trivial rfl ?_
  refine ds_ro' (ro_eq (ro_fld_ref y3_fl26_2 rfl (up_m rfl (u4 rfl (u16 rfl (u16 rfl s1_3))))) (by simp only [packA_t, packA_f, iE, bE, setAt, cellsA, Value.cells, map_vc, map_vn, Nat.reduceAdd, qS] <;> rfl)) trivial rfl ?_
  refine ds_ro' (ro_eq (ro_ld_ref y3_ty23 rfl up_h (by exact Nat.le_of_ble_eq_true rfl)) (by simp only [packA_t, packA_f, iE, bE, setAt, cellsA, Value.cells, map_vc, map_vn, Nat.reduceAdd, qS] <;> rfl)) trivial rfl ?_
  refine ds_ro' (ro_eq (ro_len_row up_h rfl y3_sl23.1) (by simp only [lnS] <;> rfl)) trivial rfl ?_
  refine ds_ro' (ro_makeFunc evL_nil (evL_cons (u8 rfl (u16 rfl (u16 rfl s1_3))) evL_nil)) trivial rfl ?_
  refine ds_ro' (ro_callf (u4 rfl up_h) (evL_cons ev_c (evL_cons (up_m rfl up_h) (evL_cons up_h evL_nil))) rfl (each_ok _ _ _ _ rfl) y3_hcf139) trivial rfl ?_
  refine ds_ro' (ro_move (u2 rfl (u8 rfl (u16 rfl (u16 rfl s3_3))))) trivial rfl ?_
  refine ds_ro' (ro_eq (ro_fld_ref y3_fl26_3 rfl (up_m rfl (u2 rfl (u8 rfl (u16 rfl (u16 rfl s1_3)))))) (by simp only [packA_t, packA_f, iE, bE, setAt, cellsA, Value.cells, map_vc, map_vn, Nat.reduceAdd, qS] <;> rfl)) trivial rfl ?_
  refine ds_ro' (ro_eq (ro_ld_ref y3_ty24 rfl up_h (by exact Nat.le_of_ble_eq_true rfl)) (by simp only [packA_t, packA_f, iE, bE, setAt, cellsA, Value.cells, map_vc, map_vn, Nat.reduceAdd, qS] <;> rfl)) trivial rfl ?_
  refine ds_ro' (ro_eq (ro_len_row up_h rfl y3_sl24.1) (by simp only [lnS] <;> rfl)) trivial rfl ?_
  refine ds_ro' (ro_leq up_h ev_c) trivial rfl ?_
  refine ds_ro' (ro_call (evL_cons up_h (evL_cons ev_c evL_nil)) rfl (yUnless_ok _ _) y3_hcf76) trivial rfl ?_
  refine ds_ro' (ro_callf (up_m rfl (u4 rfl up_h)) (evL_cons up_h evL_nil) rfl (itself_ok _) y3_hcf137) trivial rfl ?_
  refine ds_ro' (ro_move (up_m rfl (u16 rfl (u16 rfl (u16 rfl s4_3))))) trivial rfl ?_
  refine ds_ro' (ro_eq (ro_fld_ref y3_fl26_3 rfl (u2 rfl (u16 rfl (u16 rfl (u16 rfl s1_3))))) (by simp only [packA_t, packA_f, iE, bE, setAt, cellsA, Value.cells, map_vc, map_vn, Nat.reduceAdd, qS] <;> rfl)) trivial rfl ?_
  refine ds_ro' (ro_eq (ro_ld_ref y3_ty24 rfl up_h (by exact Nat.le_of_ble_eq_true rfl)) (by simp only [packA_t, packA_f, iE, bE, setAt, cellsA, Value.cells, map_vc, map_vn, Nat.reduceAdd, qS] <;> rfl)) trivial rfl ?_
  refine ds_ro' (ro_eq (ro_len_row up_h rfl y3_sl24.1) (by simp only [lnS] <;> rfl)) trivial rfl ?_
  refine ds_ro' (ro_makeFunc evL_nil (evL_cons (up_m rfl (u4 rfl (u16 rfl (u16 rfl (u16 rfl s1_3))))) evL_nil)) trivial rfl ?_
  refine ds_ro' (ro_callf (u4 rfl up_h) (evL_cons ev_c (evL_cons (up_m rfl up_h) (evL_cons up_h evL_nil))) rfl (each_ok _ _ _ _ rfl) y3_hcf139) trivial rfl ?_
  refine ds_ro' (ro_lit y3_sl166 (evP_cons (up_m rfl (u16 rfl (u16 rfl (u16 rfl up_h)))) (evP_cons (u16 rfl (u16 rfl up_h)) (evP_cons (up_m rfl (u8 rfl (u16 rfl up_h))) (evP_cons (up_m rfl (u2 rfl (u16 rfl up_h))) (evP_cons (up_m rfl (u4 rfl (u8 rfl up_h))) (evP_cons (u2 rfl (u4 rfl up_h)) (evP_cons up_h evP_nil))))))) rfl rfl rfl rfl) trivial rfl ?_
  refine ds_ro' (ro_assign up_h) trivial rfl ?_
  refine ds_nil ?_
  refine al_end (fun e_6 he_6 => ?_)
  have s2_6 := ef 2 he_6 up_h
  clear he_6 hb_4 s1_3 s3_3 s4_3
  refine then_n ?_
  refine aw_ret ?_
  refine ret1 (.inr rfl) (by kernel_rfl) (resV_tmp s2_6) (.ro _ rfl) ?_
  clear s2_6  ml_0
  (have hd : decide ((0 : Int) < l.bs.length ∧ (l.js.length : Int) = l.bs.length + 1) = false := decide_eq_false (fun h => absurd h.1 (by omega)); unfold ckV; rw [hd])
end Go.Proofs.Ytknclifdncmgpaa

