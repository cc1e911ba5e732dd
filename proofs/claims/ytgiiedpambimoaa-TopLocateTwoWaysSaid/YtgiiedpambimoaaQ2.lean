/- Contracts of chapter 4: right tracks, opened. No conditions on a program. -/
import Derived.Test.YtgiiedpambimoaaQ1
import Derived.Test.YtgiiedpambimoaaA17
namespace Go.Proofs.Ytgiiedpambimoaa
open Go Go.RowKit Go.Proofs
set_option linter.unusedSimpArgs false
set_option linter.unusedVariables false
theorem q2_az42 : (Try.prog.info? 42).bind (·.zero) = some (.agg #[.int .i64 0, .int .i64 0]) := by kernel_rfl
theorem q2_az90 : (Try.prog.info? 90).bind (·.zero) = some (.agg #[.slice none 0 0, .int .i64 0, .int .i64 0, .int .i64 0, .int .i64 0, .int .i64 0, .int .i64 0, .int .i64 0, .bool false]) := by kernel_rfl
theorem q2_bz42 : (Try.prog.info? 42).bind (·.zero) = some (.agg #[.int .i64 0, .int .i64 0]) := by kernel_rfl
theorem q2_bu42 : Try.prog.underlying 42 = some (.struct (fsOf Try.prog 42)) := by kernel_rfl
theorem q2_bp42 : ∀ w, ((fsOf Try.prog 42).mapM fun f => Prod.mk f.offset <$> sizeOf f.type : Sem (Array (Nat × Nat))).run Try.prog w = .ok (#[(0, 1), (1, 1)]) w := fun _ => by kernel_rfl
theorem q2_bz90 : (Try.prog.info? 90).bind (·.zero) = some (.agg #[.slice none 0 0, .int .i64 0, .int .i64 0, .int .i64 0, .int .i64 0, .int .i64 0, .int .i64 0, .int .i64 0, .bool false]) := by kernel_rfl
theorem q2_bu90 : Try.prog.underlying 90 = some (.struct (fsOf Try.prog 90)) := by kernel_rfl
theorem q2_bp90 : ∀ w, ((fsOf Try.prog 90).mapM fun f => Prod.mk f.offset <$> sizeOf f.type : Sem (Array (Nat × Nat))).run Try.prog w = .ok (#[(0, 9)]) w := fun _ => by kernel_rfl
theorem q2_fl24_0 : FldIs Try.prog 24 0 0 false 1 := by unfold FldIs; kernel_rfl
theorem q2_fl24_1 : FldIs Try.prog 24 1 1 false 1 := by unfold FldIs; kernel_rfl
theorem q2_fl24_2 : FldIs Try.prog 24 2 2 false 1 := by unfold FldIs; kernel_rfl
theorem q2_fl24_3 : FldIs Try.prog 24 3 3 false 1 := by unfold FldIs; kernel_rfl
theorem q2_fl24_4 : FldIs Try.prog 24 4 4 false 1 := by unfold FldIs; kernel_rfl
theorem q2_fl24_5 : FldIs Try.prog 24 5 5 false 1 := by unfold FldIs; kernel_rfl
theorem q2_fl24_6 : FldIs Try.prog 24 6 6 false 1 := by unfold FldIs; kernel_rfl
theorem q2_fl24_7 : FldIs Try.prog 24 7 7 false 1 := by unfold FldIs; kernel_rfl
theorem q2_fl24_8 : FldIs Try.prog 24 8 8 false 1 := by unfold FldIs; kernel_rfl
theorem q2_fl90_0 : FldIs Try.prog 90 0 0 true 9 := by unfold FldIs; kernel_rfl
theorem q2_hcf40 : ∀ args w, (callFunc 40 args).run Try.prog w = .ok (.enter 40 args) w := fun _ _ => by kernel_rfl
theorem q2_hcf41 : ∀ args w, (callFunc 41 args).run Try.prog w = .ok (.enter 41 args) w := fun _ _ => by kernel_rfl
theorem q2_hcf42 : ∀ args w, (callFunc 42 args).run Try.prog w = .ok (.enter 42 args) w := fun _ _ => by kernel_rfl
theorem q2_hcf44 : ∀ args w, (callFunc 44 args).run Try.prog w = .ok (.enter 44 args) w := fun _ _ => by kernel_rfl
theorem q2_hcf45 : ∀ args w, (callFunc 45 args).run Try.prog w = .ok (.enter 45 args) w := fun _ _ => by kernel_rfl
theorem q2_hcf46 : ∀ args w, (callFunc 46 args).run Try.prog w = .ok (.enter 46 args) w := fun _ _ => by kernel_rfl
theorem q2_hcf47 : ∀ args w, (callFunc 47 args).run Try.prog w = .ok (.enter 47 args) w := fun _ _ => by kernel_rfl
theorem q2_hcf51 : ∀ args w, (callFunc 51 args).run Try.prog w = .ok (.enter 51 args) w := fun _ _ => by kernel_rfl
theorem q2_hcf75 : ∀ args w, (callFunc 75 args).run Try.prog w = .ok (.enter 75 args) w := fun _ _ => by kernel_rfl
theorem q2_hcf91 : ∀ args w, (callFunc 91 args).run Try.prog w = .ok (.enter 91 args) w := fun _ _ => by kernel_rfl
theorem q2_hcf92 : ∀ args w, (callFunc 92 args).run Try.prog w = .ok (.enter 92 args) w := fun _ _ => by kernel_rfl
theorem q2_hcf93 : ∀ args w, (callFunc 93 args).run Try.prog w = .ok (.enter 93 args) w := fun _ _ => by kernel_rfl
theorem q2_sl126 : SlIs Try.prog 126 33 1 8 (.int .i64 0) := ⟨by kernel_rfl, by kernel_rfl, by kernel_rfl⟩
theorem q2_sl22 : SlIs Try.prog 22 3 1 8 (.int .i64 0) := ⟨by kernel_rfl, by kernel_rfl, by kernel_rfl⟩
theorem q2_sz42 : (Try.prog.info? 42).map (·.size) = some 2 := by kernel_rfl
theorem q2_sz90 : (Try.prog.info? 90).map (·.size) = some 9 := by kernel_rfl
theorem q2_ty22 : TyIs Try.prog 22 false 1 := ⟨by kernel_rfl, by kernel_rfl⟩
theorem q2_ty24 : TyIs Try.prog 24 true 9 := ⟨by kernel_rfl, by kernel_rfl⟩
theorem q2_ty3 : TyIs Try.prog 3 false 1 := ⟨by kernel_rfl, by kernel_rfl⟩
theorem q2_ty33 : TyIs Try.prog 33 false 1 := ⟨by kernel_rfl, by kernel_rfl⟩
theorem q2_ty4 : TyIs Try.prog 4 false 1 := ⟨by kernel_rfl, by kernel_rfl⟩
theorem q2_ty42 : TyIs Try.prog 42 true 2 := ⟨by kernel_rfl, by kernel_rfl⟩
theorem q2_ty90 : TyIs Try.prog 90 true 9 := ⟨by kernel_rfl, by kernel_rfl⟩

set_option maxRecDepth 100000 in
set_option maxHeartbeats 1000000 in
theorem qWithin_ok (n lo hi : Int) : FnOk Try.prog 42 [zA n, zA lo, zA hi] (fun q => q = yA (withinB n lo hi)) := by
  refine fnOk_of (fn := Try.f42) 15 (by kernel_rfl) rfl (by kernel_rfl) (Nat.le_of_ble_eq_true rfl) ?_
  intro e_0 m_0 hA hm_0
  have s0_0 : evA e_0 (.tmp 0) = _ := hA 0 _ rfl
  have s1_0 : evA e_0 (.tmp 1) = _ := hA 1 _ rfl
  have s2_0 : evA e_0 (.tmp 2) = _ := hA 2 _ rfl
  have ml_0 : m_0.length = 0 := by rw [hm_0]; rfl
  clear hA hm_0
  refine aw_seq ?_
  refine aw_text (by kernel_rfl) ?_
  refine al_ro' (ro_assign ev_c) trivial rfl ?_
  refine al_end (fun e_1 he_1 => ?_)
  have s0_1 := ef 0 he_1 (up_m rfl s0_0)
  have s1_1 := ef 1 he_1 (up_m rfl s1_0)
  have s2_1 := ef 2 he_1 (up_m rfl s2_0)
  clear he_1 s0_0 s1_0 s2_0
  refine then_n ?_
  refine aw_seq ?_
  refine aw_text (by kernel_rfl) ?_
  refine al_ro' (ro_move s1_1) trivial rfl ?_
  refine al_ro' (ro_move (up_m rfl s0_1)) trivial rfl ?_
  refine al_ro' (ro_leq (up_m rfl up_h) up_h) trivial rfl ?_
  refine al_ro' (ro_move up_h) trivial rfl ?_
  refine al_case up_h (fun hb_2 hq_2 => ?_) (fun hb_2 hq_2 => ?_)
  · (first | replace hq_2 := bnt hq_2 | replace hq_2 := bnf hq_2 | replace hq_2 := bt hq_2 | replace hq_2 := bf hq_2 | replace hq_2 := bt' hq_2 | replace hq_2 := bf' hq_2 | skip)
    first
    | (cases hq_2; done) | (exfalso; omega)
    | (
       refine al_ro' (ro_move (u4 rfl s0_1)) ⟨_, rfl, hb_2⟩ rfl ?_
       refine al_ro' (ro_move (up_m rfl (u4 rfl s2_1))) ⟨_, rfl, (up_m rfl hb_2)⟩ rfl ?_
       refine al_ro' (ro_leq (up_m rfl up_h) up_h) ⟨_, rfl, (u2 rfl hb_2)⟩ rfl ?_
       refine al_ro' (ro_pickT (up_m rfl (u2 rfl hb_2)) up_h) trivial rfl ?_
       refine al_ro' (ro_assign up_h) trivial rfl ?_
       refine al_end (fun e_3 he_3 => ?_)
       have s6_3 := ef 6 he_3 up_h
       clear he_3 hb_2 s0_1 s1_1 s2_1
       refine then_n ?_
       refine aw_ret ?_
       refine ret1 (.inr rfl) (by kernel_rfl) (resV_tmp s6_3) (.ro _ rfl) ?_
       clear s6_3  ml_0
       (first | rfl | (simp [withinB, *]; done) | (simp [withinB, *] <;> omega) | (simp_all [withinB]; done) | (simp_all [withinB] <;> omega)))
  · (first | replace hq_2 := bnt hq_2 | replace hq_2 := bnf hq_2 | replace hq_2 := bt hq_2 | replace hq_2 := bf hq_2 | replace hq_2 := bt' hq_2 | replace hq_2 := bf' hq_2 | skip)
    first
    | (cases hq_2; done) | (exfalso; omega)
    | (
       refine al_skip' ⟨_, rfl, .inl hb_2⟩ rfl ?_
       refine al_skip' ⟨_, rfl, .inl (up_m rfl hb_2)⟩ rfl ?_
       refine al_skip' ⟨_, rfl, .inl (u2 rfl hb_2)⟩ rfl ?_
       refine al_ro' (ro_pickF (up_m rfl (u2 rfl hb_2)) ev_c) trivial rfl ?_
       refine al_ro' (ro_assign up_h) trivial rfl ?_
       refine al_end (fun e_4 he_4 => ?_)
       have s6_4 := ef 6 he_4 up_h
       clear he_4 hb_2 s0_1 s1_1 s2_1
       refine then_n ?_
       refine aw_ret ?_
       refine ret1 (.inr rfl) (by kernel_rfl) (resV_tmp s6_4) (.ro _ rfl) ?_
       clear s6_4  ml_0
       (first | rfl | (simp [withinB, *]; done) | (simp [withinB, *] <;> omega) | (simp_all [withinB]; done) | (simp_all [withinB] <;> omega)))
set_option maxRecDepth 100000 in
set_option maxHeartbeats 1000000 in
theorem qUnless_ok (ok : Bool) (e : Int) : FnOk Try.prog 41 [yA ok, zA e] (fun q => q = zA (unlessE ok e)) := by
  refine fnOk_of (fn := Try.f41) 7 (by kernel_rfl) rfl (by kernel_rfl) (Nat.le_of_ble_eq_true rfl) ?_
  intro e_0 m_0 hA hm_0
  have s0_0 : evA e_0 (.tmp 0) = _ := hA 0 _ rfl
  have s1_0 : evA e_0 (.tmp 1) = _ := hA 1 _ rfl
  have ml_0 : m_0.length = 0 := by rw [hm_0]; rfl
  clear hA hm_0
  refine aw_seq ?_
  refine aw_text (by kernel_rfl) ?_
  refine al_ro' (ro_assign ev_c) trivial rfl ?_
  refine al_end (fun e_1 he_1 => ?_)
  have s0_1 := ef 0 he_1 (up_m rfl s0_0)
  have s1_1 := ef 1 he_1 (up_m rfl s1_0)
  clear he_1 s0_0 s1_0
  refine then_n ?_
  refine aw_seq ?_
  refine aw_seq ?_
  refine aw_text (by kernel_rfl) ?_
  refine al_ro' (ro_move s0_1) trivial rfl ?_
  refine al_end (fun e_2 he_2 => ?_)
  have s1_2 := ef 1 he_2 (up_m rfl s1_1)
  have s5_2 := ef 5 he_2 up_h
  clear he_2 s0_1 s1_1
  refine then_n ?_
  refine aw_case s5_2 (fun hq_3 => ?_) (fun hq_3 => ?_)
  · (first | replace hq_3 := bnt hq_3 | replace hq_3 := bnf hq_3 | replace hq_3 := bt hq_3 | replace hq_3 := bf hq_3 | replace hq_3 := bt' hq_3 | replace hq_3 := bf' hq_3 | skip)
    first
    | (cases hq_3; done) | (exfalso; omega)
    | (
       refine aw_seq ?_
       refine aw_text (by kernel_rfl) ?_
       refine al_ro' (ro_assign ev_c) trivial rfl ?_
       refine al_end (fun e_4 he_4 => ?_)
       have s4_4 := ef 4 he_4 up_h
       clear he_4 s1_2 s5_2
       refine then_n ?_
       refine aw_ret ?_
       refine then_r ?_
       refine ret1 (.inr rfl) (by kernel_rfl) (resV_tmp s4_4) (.ro _ rfl) ?_
       clear s4_4  ml_0
       (first | rfl | (simp [unlessE, *]; done) | (simp [unlessE, *] <;> omega) | (simp_all [unlessE]; done) | (simp_all [unlessE] <;> omega)))
  · (first | replace hq_3 := bnt hq_3 | replace hq_3 := bnf hq_3 | replace hq_3 := bt hq_3 | replace hq_3 := bf hq_3 | replace hq_3 := bt' hq_3 | replace hq_3 := bf' hq_3 | skip)
    first
    | (cases hq_3; done) | (exfalso; omega)
    | (
       refine aw_skip ?_
       refine then_n ?_
       refine aw_seq ?_
       refine aw_text (by kernel_rfl) ?_
       refine al_ro' (ro_move s1_2) trivial rfl ?_
       refine al_ro' (ro_assign up_h) trivial rfl ?_
       refine al_end (fun e_5 he_5 => ?_)
       have s4_5 := ef 4 he_5 up_h
       clear he_5 s1_2 s5_2
       refine then_n ?_
       refine aw_ret ?_
       refine ret1 (.inr rfl) (by kernel_rfl) (resV_tmp s4_5) (.ro _ rfl) ?_
       clear s4_5  ml_0
       (first | rfl | (simp [unlessE, *]; done) | (simp [unlessE, *] <;> omega) | (simp_all [unlessE]; done) | (simp_all [unlessE] <;> omega)))
set_option maxRecDepth 100000 in
set_option maxHeartbeats 1000000 in
theorem qFirst_ok (l : List Int) (hl : l.length ≤ 1000) : FnOk Try.prog 40 [.row 1 (l.map iE)] (fun q => q = zA (firstE l)) := by
  refine fnOk_of (fn := Try.f40) 15 (by kernel_rfl) rfl (by kernel_rfl) (Nat.le_of_ble_eq_true rfl) ?_
  intro e_0 m_0 hA hm_0
  have s0_0 : evA e_0 (.tmp 0) = _ := hA 0 _ rfl
  have ml_0 : m_0.length = 0 := by rw [hm_0]; rfl
  clear hA hm_0
  refine aw_seq ?_
  refine aw_text (by kernel_rfl) ?_
  refine al_ro' (ro_assign ev_c) trivial rfl ?_
  refine al_end (fun e_1 he_1 => ?_)
  have s0_1 := ef 0 he_1 (up_m rfl s0_0)
  clear he_1 s0_0
  refine then_n ?_
  refine aw_seq ?_
  refine aw_seq ?_
  refine aw_text (by kernel_rfl) ?_
  refine al_ro' (ro_move s0_1) trivial rfl ?_
  refine al_ro' (ro_eq (ro_len_row up_h rfl q2_sl126.1) (by first | (simp only [lnS] <;> rfl) | rfl)) trivial rfl ?_
  refine al_ro' (ro_move ev_c) trivial rfl ?_
  refine al_end (fun e_2 he_2 => ?_)
  have s5_2 := ef 5 he_2 (u2 rfl up_h)
  have s6_2 := ef 6 he_2 (up_m rfl up_h)
  have s7_2 := ef 7 he_2 up_h
  clear he_2 s0_1
  refine then_n ?_
  refine aw_block ?_
  refine aw_loop (S := Int) (fun i e mem => (evA e (.tmp 7) = .v (.int .i64 i)) ∧ (evA e (.tmp 5) = evA e_2 (.tmp 5)) ∧ (evA e (.tmp 6) = evA e_2 (.tmp 6)) ∧ (mem.length = 0) ∧ ((0 ≤ i ∧ i ≤ l.length ∧ firstE (l.drop i.toNat) = firstE l))) (fun i => (l.length - i).toNat) _ ⟨s7_2, rfl, rfl, ml_0, ?_⟩ ?_
  · exact ⟨by omega, by omega, rfl⟩
  · rintro i e_3 m_3 ⟨s7_3, k5_3, k6_3, ml_3, hinv⟩
    have s5_3 := k5_3.trans s5_2
    have s6_3 := k6_3.trans s6_2
    refine aw_seq ?_
    refine aw_text (by kernel_rfl) ?_
    refine al_ro' (ro_lss s7_3 s6_3) trivial rfl ?_
    refine al_end (fun e_4 he_4 => ?_)
    have s5_4 := ef 5 he_4 (up_m rfl s5_3)
    have s6_4 := ef 6 he_4 (up_m rfl s6_3)
    have s7_4 := ef 7 he_4 (up_m rfl s7_3)
    have s8_4 := ef 8 he_4 up_h
    clear he_4 s5_3 s6_3 s7_3
    refine then_n ?_
    refine aw_seq ?_
    refine aw_case s8_4 (fun hq_5 => ?_) (fun hq_5 => ?_)
    · (first | replace hq_5 := bnt hq_5 | replace hq_5 := bnf hq_5 | replace hq_5 := bt hq_5 | replace hq_5 := bf hq_5 | replace hq_5 := bt' hq_5 | replace hq_5 := bf' hq_5 | skip)
      first
      | (cases hq_5; done) | (exfalso; omega)
      | (
         refine aw_skip ?_
         refine then_n ?_
         refine aw_seq ?_
         refine aw_block ?_
         refine aw_seq ?_
         refine aw_text (by kernel_rfl) ?_
         refine al_ro' (ro_eq (ro_ix q2_sl126 s5_4 s7_4 (by first | decide | omega | (simp <;> omega)) (by first | (refine idx_map ?_; first | omega | (simp only [lnS]; omega)) | (refine idx_mapI ?_; first | omega | (simp only [lnS]; omega)) | (refine idx_mapN ?_; first | omega | (simp only [lnS]; omega)) | rfl)) (by first | (simp only [packA_t, packA_f, iE, bE, setAt, cellsA, Value.cells, map_vc, map_vn, Nat.reduceAdd, qS] <;> rfl) | rfl)) trivial rfl ?_
         refine al_ro' (ro_eq (ro_ld_ref q2_ty33 rfl up_h (by first | exact Nat.le_of_ble_eq_true rfl | omega | (simp only [lnS] <;> omega) | (simp <;> omega))) (by first | (simp only [packA_t, packA_f, iE, bE, setAt, cellsA, Value.cells, map_vc, map_vn, Nat.reduceAdd, qS] <;> rfl) | rfl)) trivial rfl ?_
         refine al_ro' (ro_assign up_h) trivial rfl ?_
         refine al_end (fun e_6 he_6 => ?_)
         have s4_6 := ef 4 he_6 up_h
         have s5_6 := ef 5 he_6 (up_m rfl (u2 rfl s5_4))
         have s6_6 := ef 6 he_6 (up_m rfl (u2 rfl s6_4))
         have s7_6 := ef 7 he_6 (up_m rfl (u2 rfl s7_4))
         clear he_6 s5_4 s6_4 s7_4 s8_4
         refine then_n ?_
         refine aw_seq ?_
         refine aw_text (by kernel_rfl) ?_
         refine al_ro' (ro_move s4_6) trivial rfl ?_
         refine al_ro' (ro_neq up_h ev_c) trivial rfl ?_
         refine al_end (fun e_7 he_7 => ?_)
         have s4_7 := ef 4 he_7 (u2 rfl s4_6)
         have s5_7 := ef 5 he_7 (u2 rfl s5_6)
         have s6_7 := ef 6 he_7 (u2 rfl s6_6)
         have s7_7 := ef 7 he_7 (u2 rfl s7_6)
         have s12_7 := ef 12 he_7 up_h
         clear he_7 s4_6 s5_6 s6_6 s7_6
         refine then_n ?_
         refine aw_case s12_7 (fun hq_8 => ?_) (fun hq_8 => ?_)
         · (first | replace hq_8 := bnt hq_8 | replace hq_8 := bnf hq_8 | replace hq_8 := bt hq_8 | replace hq_8 := bf hq_8 | replace hq_8 := bt' hq_8 | replace hq_8 := bf' hq_8 | skip)
           first
           | (cases hq_8; done) | (exfalso; omega)
           | (
              refine aw_seq ?_
              refine aw_text (by kernel_rfl) ?_
              refine al_ro' (ro_move s4_7) trivial rfl ?_
              refine al_ro' (ro_assign up_h) trivial rfl ?_
              refine al_end (fun e_9 he_9 => ?_)
              have s2_9 := ef 2 he_9 up_h
              clear he_9 s12_7 s4_7 s5_7 s6_7 s7_7
              refine then_n ?_
              refine aw_ret ?_
              refine block_r ?_
              refine then_r ?_
              refine then_r ?_
              refine block_r ?_
              refine then_r ?_
              refine ret1 (.inr rfl) (by kernel_rfl) (resV_tmp s2_9) (.ro _ rfl) ?_
              clear s2_9  ml_3
              obtain ⟨h1, h2, h3⟩ := hinv; rw [← h3, firstE_drop (i := i.toNat) (by omega), if_neg (by assumption)]; rfl)
         · (first | replace hq_8 := bnt hq_8 | replace hq_8 := bnf hq_8 | replace hq_8 := bt hq_8 | replace hq_8 := bf hq_8 | replace hq_8 := bt' hq_8 | replace hq_8 := bf' hq_8 | skip)
           first
           | (cases hq_8; done) | (exfalso; omega)
           | (
              refine aw_skip ?_
              refine block_n ?_
              refine then_n ?_
              refine aw_text (by kernel_rfl) ?_
              first | (refine al_ro' (ro_add' s7_7 ev_c ?_) trivial rfl ?_; · (unfold In64; omega)) | refine al_ro' (ro_add s7_7 ev_c) trivial rfl ?_
              refine al_ro' (ro_move up_h) trivial rfl ?_
              refine al_end (fun e_10 he_10 => ?_)
              have s5_10 := ef 5 he_10 (u2 rfl s5_7)
              have s6_10 := ef 6 he_10 (u2 rfl s6_7)
              have s7_10 := ef 7 he_10 up_h
              clear he_10 s12_7 s4_7 s5_7 s6_7 s7_7
              refine then_n ?_
              refine ⟨_, ⟨s7_10, (s5_10.trans s5_2.symm), (s6_10.trans s6_2.symm), ml_3, ?_⟩, ?_⟩
              · (obtain ⟨h1, h2, h3⟩ := hinv; refine ⟨by omega, by omega, ?_⟩; rw [← h3, firstE_drop (i := i.toNat) (by omega), if_pos (by assumption)]; congr 2; omega)
              · ((try dsimp only); omega)))
    · (first | replace hq_5 := bnt hq_5 | replace hq_5 := bnf hq_5 | replace hq_5 := bt hq_5 | replace hq_5 := bf hq_5 | replace hq_5 := bt' hq_5 | replace hq_5 := bf' hq_5 | skip)
      first
      | (cases hq_5; done) | (exfalso; omega)
      | (
         refine aw_exit ?_
         refine then_x ?_
         refine then_x ?_
         refine block_hit ?_
         refine then_n ?_
         refine aw_seq ?_
         refine aw_text (by kernel_rfl) ?_
         refine al_ro' (ro_assign ev_c) trivial rfl ?_
         refine al_end (fun e_11 he_11 => ?_)
         have s2_11 := ef 2 he_11 up_h
         clear he_11 s5_4 s6_4 s7_4 s8_4
         refine then_n ?_
         refine aw_ret ?_
         refine ret1 (.inr rfl) (by kernel_rfl) (resV_tmp s2_11) (.ro _ rfl) ?_
         clear s2_11  ml_3
         obtain ⟨h1, h2, h3⟩ := hinv; rw [← h3, List.drop_eq_nil_of_le (by omega)]; rfl)
def bitB (n : Int) : Bool := decide (n = 0 ∨ n = 1)
set_option maxRecDepth 100000 in
set_option maxHeartbeats 1000000 in
theorem isBit_ok (n : Int) : FnOk Try.prog 93 [zA n] (fun q => q = yA (bitB n)) := by
  refine fnOk_of (fn := Try.f93) 9 (by kernel_rfl) rfl (by kernel_rfl) (Nat.le_of_ble_eq_true rfl) ?_
  intro e_0 m_0 hA hm_0
  have s0_0 : evA e_0 (.tmp 0) = _ := hA 0 _ rfl
  have ml_0 : m_0.length = 0 := by rw [hm_0]; rfl
  clear hA hm_0
  refine aw_seq ?_
  refine aw_text (by kernel_rfl) ?_
  refine al_ro' (ro_assign ev_c) trivial rfl ?_
  refine al_end (fun e_1 he_1 => ?_)
  have s0_1 := ef 0 he_1 (up_m rfl s0_0)
  clear he_1 s0_0
  refine then_n ?_
  refine aw_seq ?_
  refine aw_text (by kernel_rfl) ?_
  refine al_ro' (ro_move s0_1) trivial rfl ?_
  refine al_ro' (ro_eql up_h ev_c) trivial rfl ?_
  refine al_ro' (ro_move up_h) trivial rfl ?_
  refine al_case up_h (fun hb_2 hq_2 => ?_) (fun hb_2 hq_2 => ?_)
  · (first | replace hq_2 := bnt hq_2 | replace hq_2 := bnf hq_2 | replace hq_2 := bt hq_2 | replace hq_2 := bf hq_2 | replace hq_2 := bt' hq_2 | replace hq_2 := bf' hq_2 | skip)
    first
    | (cases hq_2; done) | (exfalso; omega)
    | (
       refine al_skip' ⟨_, rfl, .inl hb_2⟩ rfl ?_
       refine al_skip' ⟨_, rfl, .inl (up_m rfl hb_2)⟩ rfl ?_
       refine al_ro' (ro_pickT (u2 rfl hb_2) ev_c) trivial rfl ?_
       refine al_ro' (ro_assign up_h) trivial rfl ?_
       refine al_end (fun e_3 he_3 => ?_)
       have s2_3 := ef 2 he_3 up_h
       clear he_3 hb_2 s0_1
       refine then_n ?_
       refine aw_ret ?_
       refine ret1 (.inr rfl) (by kernel_rfl) (resV_tmp s2_3) (.ro _ rfl) ?_
       clear s2_3  ml_0
       (refine avb ?_; simp only [bitB, decide_eq_true_eq, Bool.false_eq_true, true_iff, false_iff]; omega))
  · (first | replace hq_2 := bnt hq_2 | replace hq_2 := bnf hq_2 | replace hq_2 := bt hq_2 | replace hq_2 := bf hq_2 | replace hq_2 := bt' hq_2 | replace hq_2 := bf' hq_2 | skip)
    first
    | (cases hq_2; done) | (exfalso; omega)
    | (
       refine al_ro' (ro_move (up_m rfl (u2 rfl s0_1))) ⟨_, rfl, hb_2⟩ rfl ?_
       refine al_ro' (ro_eql up_h ev_c) ⟨_, rfl, (up_m rfl hb_2)⟩ rfl ?_
       refine al_ro' (ro_pickF (u2 rfl hb_2) up_h) trivial rfl ?_
       refine al_ro' (ro_assign up_h) trivial rfl ?_
       refine al_end (fun e_4 he_4 => ?_)
       have s2_4 := ef 2 he_4 up_h
       clear he_4 hb_2 s0_1
       refine then_n ?_
       refine aw_ret ?_
       refine ret1 (.inr rfl) (by kernel_rfl) (resV_tmp s2_4) (.ro _ rfl) ?_
       clear s2_4  ml_0
       (refine avb ?_; simp only [bitB, decide_eq_true_eq, Bool.false_eq_true, true_iff, false_iff]; omega))
set_option maxRecDepth 100000 in
set_option maxHeartbeats 1000000 in
theorem notBit_ok (n : Int) : FnOk Try.prog 92 [zA n] (fun q => q = yA (!bitB n)) := by
  refine fnOk_of (fn := Try.f92) 6 (by kernel_rfl) rfl (by kernel_rfl) (Nat.le_of_ble_eq_true rfl) ?_
  intro e_0 m_0 hA hm_0
  have s0_0 : evA e_0 (.tmp 0) = _ := hA 0 _ rfl
  have ml_0 : m_0.length = 0 := by rw [hm_0]; rfl
  clear hA hm_0
  refine aw_seq ?_
  refine aw_text (by kernel_rfl) ?_
  refine al_ro' (ro_assign ev_c) trivial rfl ?_
  refine al_end (fun e_1 he_1 => ?_)
  have s0_1 := ef 0 he_1 (up_m rfl s0_0)
  clear he_1 s0_0
  refine then_n ?_
  refine aw_seq ?_
  refine aw_text (by kernel_rfl) ?_
  refine al_ro' (ro_move s0_1) trivial rfl ?_
  refine al_ro' (ro_call (evL_cons up_h evL_nil) rfl (isBit_ok n) q2_hcf93) trivial rfl ?_
  refine al_ro' (ro_not up_h) trivial rfl ?_
  refine al_ro' (ro_assign up_h) trivial rfl ?_
  refine al_end (fun e_2 he_2 => ?_)
  have s2_2 := ef 2 he_2 up_h
  clear he_2 s0_1
  refine then_n ?_
  refine aw_ret ?_
  refine ret1 (.inr rfl) (by kernel_rfl) (resV_tmp s2_2) (.ro _ rfl) ?_
  clear s2_2  ml_0
  rfl
theorem bit_of {t : Trk} (h : RT t) (j : Nat) : bitB (t.van.getD j default) = true := by
  have := h.van j
  simp only [bitB, decide_eq_true_eq]; omega
set_option maxRecDepth 100000 in
set_option maxHeartbeats 4000000 in
theorem indexBit_ok (l : List Int) (hl : l.length ≤ 1000000) (h : ∀ j : Nat, bitB (l.getD j default) = true) : FnOk Try.prog 91 [.row 1 (l.map iE), .v (.func (.func 92) #[] #[])] (fun q => q = zA (-1)) := by
  refine fnOk_of (fn := Try.f91) 19 (by kernel_rfl) rfl (by kernel_rfl) (Nat.le_of_ble_eq_true rfl) ?_
  intro e_0 m_0 hA hm_0
  have s0_0 : evA e_0 (.tmp 0) = _ := hA 0 _ rfl
  have s1_0 : evA e_0 (.tmp 1) = _ := hA 1 _ rfl
  have ml_0 : m_0.length = 0 := by rw [hm_0]; rfl
  clear hA hm_0
  refine aw_seq ?_
  refine aw_text (by kernel_rfl) ?_
  refine al_ro' (ro_assign ev_c) trivial rfl ?_
  refine al_end (fun e_1 he_1 => ?_)
  have s0_1 := ef 0 he_1 (up_m rfl s0_0)
  have s1_1 := ef 1 he_1 (up_m rfl s1_0)
  clear he_1 s0_0 s1_0
  refine then_n ?_
  refine aw_seq ?_
  refine aw_seq ?_
  refine aw_text (by kernel_rfl) ?_
  refine al_ro' (ro_move s0_1) trivial rfl ?_
  refine al_ro' (ro_eq (ro_len_row up_h rfl q2_sl22.1) (by first | (simp only [lnS] <;> rfl) | rfl)) trivial rfl ?_
  refine al_ro' (ro_move ev_c) trivial rfl ?_
  refine al_end (fun e_2 he_2 => ?_)
  have s0_2 := ef 0 he_2 (up_m rfl (u2 rfl s0_1))
  have s1_2 := ef 1 he_2 (up_m rfl (u2 rfl s1_1))
  have s7_2 := ef 7 he_2 (up_m rfl up_h)
  have s8_2 := ef 8 he_2 up_h
  clear he_2 s0_1 s1_1
  refine then_n ?_
  refine aw_block ?_
  refine aw_loop (S := Int) (fun i e mem => (evA e (.tmp 8) = .v (.int .i64 i)) ∧ (evA e (.tmp 0) = evA e_2 (.tmp 0)) ∧ (evA e (.tmp 1) = evA e_2 (.tmp 1)) ∧ (evA e (.tmp 7) = evA e_2 (.tmp 7)) ∧ (mem.length = 0) ∧ ((0 ≤ i ∧ i ≤ l.length))) (fun i => (l.length - i).toNat) _ ⟨s8_2, rfl, rfl, rfl, ml_0, ?_⟩ ?_
  · (exact ⟨by omega, by omega⟩)
  · rintro i e_3 m_3 ⟨s8_3, k0_3, k1_3, k7_3, ml_3, hinv⟩
    have s0_3 := k0_3.trans s0_2
    have s1_3 := k1_3.trans s1_2
    have s7_3 := k7_3.trans s7_2
    (obtain ⟨p1, p2⟩ := hinv; have hb := h i.toNat)
    refine aw_seq ?_
    refine aw_text (by kernel_rfl) ?_
    refine al_ro' (ro_lss s8_3 s7_3) trivial rfl ?_
    refine al_end (fun e_4 he_4 => ?_)
    have s0_4 := ef 0 he_4 (up_m rfl s0_3)
    have s1_4 := ef 1 he_4 (up_m rfl s1_3)
    have s7_4 := ef 7 he_4 (up_m rfl s7_3)
    have s8_4 := ef 8 he_4 (up_m rfl s8_3)
    have s9_4 := ef 9 he_4 up_h
    clear he_4 s0_3 s1_3 s7_3 s8_3
    refine then_n ?_
    refine aw_seq ?_
    refine aw_case s9_4 (fun hq_5 => ?_) (fun hq_5 => ?_)
    · (first | replace hq_5 := bnt hq_5 | replace hq_5 := bnf hq_5 | replace hq_5 := bt hq_5 | replace hq_5 := bf hq_5 | replace hq_5 := bt' hq_5 | replace hq_5 := bf' hq_5 | skip)
      first
      | (cases hq_5; done) | (exfalso; omega)
      | (
         refine aw_skip ?_
         refine then_n ?_
         refine aw_seq ?_
         refine aw_block ?_
         refine aw_seq ?_
         refine aw_text (by kernel_rfl) ?_
         refine al_ro' (ro_move s8_4) trivial rfl ?_
         refine al_ro' (ro_assign up_h) trivial rfl ?_
         refine al_end (fun e_6 he_6 => ?_)
         have s0_6 := ef 0 he_6 (u2 rfl s0_4)
         have s1_6 := ef 1 he_6 (u2 rfl s1_4)
         have s5_6 := ef 5 he_6 up_h
         have s7_6 := ef 7 he_6 (u2 rfl s7_4)
         have s8_6 := ef 8 he_6 (u2 rfl s8_4)
         clear he_6 s0_4 s1_4 s7_4 s8_4 s9_4
         refine then_n ?_
         refine aw_seq ?_
         refine aw_text (by kernel_rfl) ?_
         refine al_ro' (ro_move s1_6) trivial rfl ?_
         refine al_ro' (ro_move (up_m rfl s0_6)) trivial rfl ?_
         refine al_ro' (ro_move (u2 rfl s5_6)) trivial rfl ?_
         refine al_ro' (ro_eq (ro_ix q2_sl22 (up_m rfl up_h) up_h (by first | decide | omega | (simp <;> omega)) (by first | (refine idx_map ?_; first | omega | (simp only [lnS]; omega)) | (refine idx_mapI ?_; first | omega | (simp only [lnS]; omega)) | (refine idx_mapN ?_; first | omega | (simp only [lnS]; omega)) | rfl)) (by first | (simp only [packA_t, packA_f, iE, bE, setAt, cellsA, Value.cells, map_vc, map_vn, Nat.reduceAdd, qS] <;> rfl) | rfl)) trivial rfl ?_
         refine al_ro' (ro_eq (ro_ld_ref q2_ty3 rfl up_h (by first | exact Nat.le_of_ble_eq_true rfl | omega | (simp only [lnS] <;> omega) | (simp <;> omega))) (by first | (simp only [packA_t, packA_f, iE, bE, setAt, cellsA, Value.cells, map_vc, map_vn, Nat.reduceAdd, qS] <;> rfl) | rfl)) trivial rfl ?_
         refine al_ro' (ro_callf (u4 rfl up_h) (evL_cons up_h evL_nil) rfl (notBit_ok _) q2_hcf92) trivial rfl ?_
         refine al_end (fun e_7 he_7 => ?_)
         have s0_7 := ef 0 he_7 (u2 rfl (u4 rfl s0_6))
         have s1_7 := ef 1 he_7 (u2 rfl (u4 rfl s1_6))
         have s5_7 := ef 5 he_7 (u2 rfl (u4 rfl s5_6))
         have s7_7 := ef 7 he_7 (u2 rfl (u4 rfl s7_6))
         have s8_7 := ef 8 he_7 (u2 rfl (u4 rfl s8_6))
         have s16_7 := ef 16 he_7 up_h
         clear he_7 s0_6 s1_6 s5_6 s7_6 s8_6
         refine then_n ?_
         refine aw_case s16_7 (fun hq_8 => ?_) (fun hq_8 => ?_)
         · (first | replace hq_8 := bnt hq_8 | replace hq_8 := bnf hq_8 | replace hq_8 := bt hq_8 | replace hq_8 := bf hq_8 | replace hq_8 := bt' hq_8 | replace hq_8 := bf' hq_8 | skip)
           first
           | (cases hq_8; done) | (exfalso; omega)
           | (
              refine aw_seq ?_
              refine aw_text (by kernel_rfl) ?_
              refine al_ro' (ro_move s5_7) trivial rfl ?_
              refine al_ro' (ro_assign up_h) trivial rfl ?_
              refine al_end (fun e_9 he_9 => ?_)
              have s4_9 := ef 4 he_9 up_h
              clear he_9 s0_7 s16_7 s1_7 s5_7 s7_7 s8_7
              refine then_n ?_
              refine aw_ret ?_
              refine block_r ?_
              refine then_r ?_
              refine then_r ?_
              refine block_r ?_
              refine then_r ?_
              refine ret1 (.inr rfl) (by kernel_rfl) (resV_tmp s4_9) (.ro _ rfl) ?_
              clear s4_9  ml_3
              (first | rfl | (exfalso; simp only [bitB, decide_eq_true_eq] at hb; omega)))
         · (first | replace hq_8 := bnt hq_8 | replace hq_8 := bnf hq_8 | replace hq_8 := bt hq_8 | replace hq_8 := bf hq_8 | replace hq_8 := bt' hq_8 | replace hq_8 := bf' hq_8 | skip)
           first
           | (cases hq_8; done) | (exfalso; omega)
           | (
              refine aw_skip ?_
              refine block_n ?_
              refine then_n ?_
              refine aw_text (by kernel_rfl) ?_
              first | (refine al_ro' (ro_add' s8_7 ev_c ?_) trivial rfl ?_; · (unfold In64; omega)) | refine al_ro' (ro_add s8_7 ev_c) trivial rfl ?_
              refine al_ro' (ro_move up_h) trivial rfl ?_
              refine al_end (fun e_10 he_10 => ?_)
              have s0_10 := ef 0 he_10 (u2 rfl s0_7)
              have s1_10 := ef 1 he_10 (u2 rfl s1_7)
              have s7_10 := ef 7 he_10 (u2 rfl s7_7)
              have s8_10 := ef 8 he_10 up_h
              clear he_10 s0_7 s16_7 s1_7 s5_7 s7_7 s8_7
              refine then_n ?_
              refine ⟨_, ⟨s8_10, (s0_10.trans s0_2.symm), (s1_10.trans s1_2.symm), (s7_10.trans s7_2.symm), ml_3, ?_⟩, ?_⟩
              · (exact ⟨by omega, by omega⟩)
              · ((try dsimp only); omega)))
    · (first | replace hq_5 := bnt hq_5 | replace hq_5 := bnf hq_5 | replace hq_5 := bt hq_5 | replace hq_5 := bf hq_5 | replace hq_5 := bt' hq_5 | replace hq_5 := bf' hq_5 | skip)
      first
      | (cases hq_5; done) | (exfalso; omega)
      | (
         refine aw_exit ?_
         refine then_x ?_
         refine then_x ?_
         refine block_hit ?_
         refine then_n ?_
         refine aw_seq ?_
         refine aw_text (by kernel_rfl) ?_
         refine al_ro' (ro_assign ev_c) trivial rfl ?_
         refine al_end (fun e_11 he_11 => ?_)
         have s4_11 := ef 4 he_11 up_h
         clear he_11 s0_4 s1_4 s7_4 s8_4 s9_4
         refine then_n ?_
         refine aw_ret ?_
         refine ret1 (.inr rfl) (by kernel_rfl) (resV_tmp s4_11) (.ro _ rfl) ?_
         clear s4_11  ml_3
         (first | rfl | (exfalso; simp only [bitB, decide_eq_true_eq] at hb; omega)))
set_option maxRecDepth 100000 in
set_option maxHeartbeats 4000000 in
theorem qCheckTrack_ok (t : Trk) (h : RT t) : FnOk Try.prog 75 [qA t] (fun q => q = .tuple [zA 0, zA 0]) := by
  have h1 := h.win
  have h2 := h.len
  have e1 : firstE [unlessE (withinB t.win 1 12) 2, unlessE (decide (t.win ≤ (t.van.length : Int))) 10, unlessE (decide ((t.van.length : Int) ≤ 40)) 8] = 0 := by
    rw [show withinB t.win 1 12 = true by simp [withinB]; omega, decide_eq_true (by omega), decide_eq_true (by omega)]; rfl
  have b1 : withinB t.too 1 1000 = true := by have := h.too; simp [withinB]; omega
  have b2 : withinB t.per 1 12 = true := by have := h.per; simp [withinB]; omega
  have b3 : withinB t.fst 0 999000000 = true := by have := h.fst; simp [withinB]; omega
  have b4 : withinB t.mod 1 1000 = true := by have := h.mod; simp [withinB]; omega
  have b5 : withinB t.sla 0 t.mod = true := by have := h.sla; simp [withinB]; omega
  have b6 : withinB t.err 0 t.win = true := by have := h.err; simp [withinB]; omega
  refine fnOk_of (fn := Try.f75) 68 (by kernel_rfl) rfl (by kernel_rfl) (Nat.le_of_ble_eq_true rfl) ?_
  intro e_0 m_0 hA hm_0
  have s0_0 : evA e_0 (.tmp 0) = _ := hA 0 _ rfl
  have ml_0 : m_0.length = 0 := by rw [hm_0]; rfl
  clear hA hm_0
  refine aw_seq ?_
  refine aw_text (by kernel_rfl) ?_
  refine al_stm (st_box s0_0 rfl ml_0) trivial rfl (fun m_1 hm_1 => ?_)
  have mo0_1 := m_push hm_1 ml_0
  (try simp only [packA_t, packA_f, iE, bE, setAt, cellsA, Value.cells, map_vc, map_vn, Nat.reduceAdd, qS] at mo0_1)
  have ml_1 := m_push_l hm_1 ml_0
  have ml_1 : _ = 1 := ml_1
  clear hm_1
  refine al_ro' (ro_assign ev_c) trivial rfl ?_
  refine al_ro' (ro_assign ev_c) trivial rfl ?_
  refine al_end (fun e_2 he_2 => ?_)
  have s1_2 := ef 1 he_2 (u2 rfl up_h)
  clear he_2 s0_0
  refine then_n ?_
  refine aw_seq ?_
  refine aw_draw 19 (by kernel_rfl) (by kernel_rfl) (by kernel_rfl) (by kernel_rfl) ?_
  refine ds_ro' (ro_fld_ptr q2_fl24_1 rfl s1_2) trivial rfl ?_
  refine ds_ro' (ro_eq (ro_ld_ptr q2_ty3 rfl mo0_1 up_h (by first | exact Nat.le_of_ble_eq_true rfl | omega | (simp only [lnS] <;> omega) | (simp <;> omega))) (by first | (simp only [packA_t, packA_f, iE, bE, setAt, cellsA, Value.cells, map_vc, map_vn, Nat.reduceAdd, qS] <;> rfl) | rfl)) trivial rfl ?_
  refine ds_ro' (ro_call (evL_cons up_h (evL_cons ev_c (evL_cons ev_c evL_nil))) rfl (qWithin_ok _ _ _) q2_hcf42) trivial rfl ?_
  refine ds_ro' (ro_call (evL_cons up_h (evL_cons ev_c evL_nil)) rfl (qUnless_ok _ _) q2_hcf41) trivial rfl ?_
  refine ds_ro' (ro_fld_ptr q2_fl24_0 rfl (u4 rfl s1_2)) trivial rfl ?_
  refine ds_ro' (ro_eq (ro_ld_ptr q2_ty22 rfl mo0_1 up_h (by first | exact Nat.le_of_ble_eq_true rfl | omega | (simp only [lnS] <;> omega) | (simp <;> omega))) (by first | (simp only [packA_t, packA_f, iE, bE, setAt, cellsA, Value.cells, map_vc, map_vn, Nat.reduceAdd, qS] <;> rfl) | rfl)) trivial rfl ?_
  refine ds_ro' (ro_eq (ro_len_row up_h rfl q2_sl22.1) (by first | (simp only [lnS] <;> rfl) | rfl)) trivial rfl ?_
  refine ds_ro' (ro_fld_ptr q2_fl24_1 rfl (up_m rfl (u2 rfl (u4 rfl s1_2)))) trivial rfl ?_
  refine ds_ro' (ro_eq (ro_ld_ptr q2_ty3 rfl mo0_1 up_h (by first | exact Nat.le_of_ble_eq_true rfl | omega | (simp only [lnS] <;> omega) | (simp <;> omega))) (by first | (simp only [packA_t, packA_f, iE, bE, setAt, cellsA, Value.cells, map_vc, map_vn, Nat.reduceAdd, qS] <;> rfl) | rfl)) trivial rfl ?_
  refine ds_ro' (ro_geq (u2 rfl up_h) up_h) trivial rfl ?_
  refine ds_ro' (ro_call (evL_cons up_h (evL_cons ev_c evL_nil)) rfl (qUnless_ok _ _) q2_hcf41) trivial rfl ?_
  refine ds_ro' (ro_fld_ptr q2_fl24_0 rfl (up_m rfl (u2 rfl (u8 rfl s1_2)))) trivial rfl ?_
  refine ds_ro' (ro_eq (ro_ld_ptr q2_ty22 rfl mo0_1 up_h (by first | exact Nat.le_of_ble_eq_true rfl | omega | (simp only [lnS] <;> omega) | (simp <;> omega))) (by first | (simp only [packA_t, packA_f, iE, bE, setAt, cellsA, Value.cells, map_vc, map_vn, Nat.reduceAdd, qS] <;> rfl) | rfl)) trivial rfl ?_
  refine ds_ro' (ro_eq (ro_len_row up_h rfl q2_sl22.1) (by first | (simp only [lnS] <;> rfl) | rfl)) trivial rfl ?_
  refine ds_ro' (ro_leq up_h ev_c) trivial rfl ?_
  refine ds_ro' (ro_call (evL_cons up_h (evL_cons ev_c evL_nil)) rfl (qUnless_ok _ _) q2_hcf41) trivial rfl ?_
  refine ds_ro' (ro_lit q2_sl126 (evP_cons (u4 rfl (u8 rfl up_h)) (evP_cons (up_m rfl (u4 rfl up_h)) (evP_cons up_h evP_nil))) rfl rfl rfl rfl) trivial rfl ?_
  refine ds_ro' (ro_call (evL_cons up_h evL_nil) rfl ((qFirst_ok [_, _, _] (by simp)).mono (fun q h => h.trans (by rw [e1]))) q2_hcf40) trivial rfl ?_
  refine ds_ro' (ro_assign up_h) trivial rfl ?_
  refine ds_nil ?_
  refine al_end (fun e_3 he_3 => ?_)
  have s1_3 := ef 1 he_3 (up_m rfl (u2 rfl (u16 rfl s1_2)))
  have s4_3 := ef 4 he_3 up_h
  clear he_3 s1_2
  refine then_n ?_
  refine aw_seq ?_
  refine aw_seq ?_
  refine aw_text (by kernel_rfl) ?_
  refine al_ro' (ro_move s4_3) trivial rfl ?_
  refine al_ro' (ro_neq up_h ev_c) trivial rfl ?_
  refine al_end (fun e_4 he_4 => ?_)
  have s1_4 := ef 1 he_4 (u2 rfl s1_3)
  have s4_4 := ef 4 he_4 (u2 rfl s4_3)
  have s26_4 := ef 26 he_4 up_h
  clear he_4 s1_3 s4_3
  refine then_n ?_
  refine aw_case s26_4 (fun hq_5 => ?_) (fun hq_5 => ?_)
  · (first | replace hq_5 := bnt hq_5 | replace hq_5 := bnf hq_5 | replace hq_5 := bt hq_5 | replace hq_5 := bf hq_5 | replace hq_5 := bt' hq_5 | replace hq_5 := bf' hq_5 | skip)
    first
    | (cases hq_5; done) | (exfalso; omega)
    | (
       refine aw_seq ?_
       refine aw_text (by kernel_rfl) ?_
       refine al_ro' (ro_move s4_4) trivial rfl ?_
       refine al_ro' (ro_assign ev_c) trivial rfl ?_
       refine al_ro' (ro_assign (up_m rfl up_h)) trivial rfl ?_
       refine al_end (fun e_6 he_6 => ?_)
       have s2_6 := ef 2 he_6 (up_m rfl up_h)
       have s3_6 := ef 3 he_6 up_h
       clear he_6 s1_4 s26_4 s4_4
       refine then_n ?_
       refine aw_ret ?_
       refine then_r ?_
       refine ret2 (.inr rfl) (by kernel_rfl) (resV_tmp s2_6) (resV_tmp s3_6) (.ro _ rfl) (.ro _ rfl) ?_
       clear s2_6 s3_6 mo0_1 ml_1
       rfl)
  · (first | replace hq_5 := bnt hq_5 | replace hq_5 := bnf hq_5 | replace hq_5 := bt hq_5 | replace hq_5 := bf hq_5 | replace hq_5 := bt' hq_5 | replace hq_5 := bf' hq_5 | skip)
    first
    | (cases hq_5; done) | (exfalso; omega)
    | (
       refine aw_skip ?_
       refine then_n ?_
       refine aw_seq ?_
       refine aw_seq ?_
       refine aw_text (by kernel_rfl) ?_
       refine al_ro' (ro_fld_ptr q2_fl24_0 rfl s1_4) trivial rfl ?_
       refine al_ro' (ro_eq (ro_ld_ptr q2_ty22 rfl mo0_1 up_h (by first | exact Nat.le_of_ble_eq_true rfl | omega | (simp only [lnS] <;> omega) | (simp <;> omega))) (by first | (simp only [packA_t, packA_f, iE, bE, setAt, cellsA, Value.cells, map_vc, map_vn, Nat.reduceAdd, qS] <;> rfl) | rfl)) trivial rfl ?_
       refine al_ro' (ro_call (evL_cons up_h (evL_cons ev_f evL_nil)) rfl (indexBit_ok t.van (by omega) (bit_of h)) q2_hcf91) trivial rfl ?_
       refine al_ro' (ro_assign up_h) trivial rfl ?_
       refine al_end (fun e_7 he_7 => ?_)
       have s1_7 := ef 1 he_7 (u4 rfl s1_4)
       have s5_7 := ef 5 he_7 up_h
       clear he_7 s1_4 s26_4 s4_4
       refine then_n ?_
       refine aw_seq ?_
       refine aw_text (by kernel_rfl) ?_
       refine al_ro' (ro_move s5_7) trivial rfl ?_
       refine al_ro' (ro_geq up_h ev_c) trivial rfl ?_
       refine al_end (fun e_8 he_8 => ?_)
       have s1_8 := ef 1 he_8 (u2 rfl s1_7)
       have s5_8 := ef 5 he_8 (u2 rfl s5_7)
       have s32_8 := ef 32 he_8 up_h
       clear he_8 s1_7 s5_7
       refine then_n ?_
       refine aw_case s32_8 (fun hq_9 => ?_) (fun hq_9 => ?_)
       · (first | replace hq_9 := bnt hq_9 | replace hq_9 := bnf hq_9 | replace hq_9 := bt hq_9 | replace hq_9 := bf hq_9 | replace hq_9 := bt' hq_9 | replace hq_9 := bf' hq_9 | skip)
         first
         | (cases hq_9; done) | (exfalso; omega)
         | (
            refine aw_seq ?_
            refine aw_text (by kernel_rfl) ?_
            refine al_ro' (ro_move s5_8) trivial rfl ?_
            refine al_ro' (ro_assign up_h) trivial rfl ?_
            refine al_ro' (ro_assign ev_c) trivial rfl ?_
            refine al_end (fun e_10 he_10 => ?_)
            have s2_10 := ef 2 he_10 (up_m rfl up_h)
            have s3_10 := ef 3 he_10 up_h
            clear he_10 s1_8 s32_8 s5_8
            refine then_n ?_
            refine aw_ret ?_
            refine then_r ?_
            refine ret2 (.inr rfl) (by kernel_rfl) (resV_tmp s2_10) (resV_tmp s3_10) (.ro _ rfl) (.ro _ rfl) ?_
            clear s2_10 s3_10 mo0_1 ml_1
            rfl)
       · (first | replace hq_9 := bnt hq_9 | replace hq_9 := bnf hq_9 | replace hq_9 := bt hq_9 | replace hq_9 := bf hq_9 | replace hq_9 := bt' hq_9 | replace hq_9 := bf' hq_9 | skip)
         first
         | (cases hq_9; done) | (exfalso; omega)
         | (
            refine aw_skip ?_
            refine then_n ?_
            refine aw_seq ?_
            refine aw_cut (fun e mem => (evA e (.tmp 6) = .v (.bool true)) ∧ m_1 = mem) ?_ ?_
            ·
              refine aw_text (by kernel_rfl) ?_
              refine al_ro' (ro_fld_ptr q2_fl24_2 rfl s1_8) trivial rfl ?_
              refine al_ro' (ro_eq (ro_ld_ptr q2_ty3 rfl mo0_1 up_h (by first | exact Nat.le_of_ble_eq_true rfl | omega | (simp only [lnS] <;> omega) | (simp <;> omega))) (by first | (simp only [packA_t, packA_f, iE, bE, setAt, cellsA, Value.cells, map_vc, map_vn, Nat.reduceAdd, qS] <;> rfl) | rfl)) trivial rfl ?_
              refine al_ro' (ro_call (evL_cons up_h (evL_cons ev_c (evL_cons ev_c evL_nil))) rfl (qWithin_ok _ _ _) q2_hcf42) trivial rfl ?_
              refine al_ro' (ro_move up_h) trivial rfl ?_
              refine al_case up_h (fun hb_12 hq_12 => ?_) (fun hb_12 hq_12 => ?_)
              · (first | replace hq_12 := bnt hq_12 | replace hq_12 := bnf hq_12 | replace hq_12 := bt hq_12 | replace hq_12 := bf hq_12 | replace hq_12 := bt' hq_12 | replace hq_12 := bf' hq_12 | skip)
                first
                | (cases hq_12; done) | (exfalso; omega)
                | (
                   refine al_ro' (ro_fld_ptr q2_fl24_3 rfl (u4 rfl s1_8)) ⟨_, rfl, hb_12⟩ rfl ?_
                   refine al_ro' (ro_eq (ro_ld_ptr q2_ty3 rfl mo0_1 up_h (by first | exact Nat.le_of_ble_eq_true rfl | omega | (simp only [lnS] <;> omega) | (simp <;> omega))) (by first | (simp only [packA_t, packA_f, iE, bE, setAt, cellsA, Value.cells, map_vc, map_vn, Nat.reduceAdd, qS] <;> rfl) | rfl)) ⟨_, rfl, (up_m rfl hb_12)⟩ rfl ?_
                   refine al_ro' (ro_call (evL_cons up_h (evL_cons ev_c (evL_cons ev_c evL_nil))) rfl (qWithin_ok _ _ _) q2_hcf42) ⟨_, rfl, (u2 rfl hb_12)⟩ rfl ?_
                   refine al_ro' (ro_pickT (up_m rfl (u2 rfl hb_12)) up_h) trivial rfl ?_
                   refine al_ro' (ro_move up_h) trivial rfl ?_
                   refine al_case up_h (fun hb_13 hq_13 => ?_) (fun hb_13 hq_13 => ?_)
                   · (first | replace hq_13 := bnt hq_13 | replace hq_13 := bnf hq_13 | replace hq_13 := bt hq_13 | replace hq_13 := bf hq_13 | replace hq_13 := bt' hq_13 | replace hq_13 := bf' hq_13 | skip)
                     first
                     | (cases hq_13; done) | (exfalso; omega)
                     | (
                        refine al_ro' (ro_fld_ptr q2_fl24_4 rfl (up_m rfl (u8 rfl s1_8))) ⟨_, rfl, hb_13⟩ rfl ?_
                        refine al_ro' (ro_eq (ro_ld_ptr q2_ty3 rfl mo0_1 up_h (by first | exact Nat.le_of_ble_eq_true rfl | omega | (simp only [lnS] <;> omega) | (simp <;> omega))) (by first | (simp only [packA_t, packA_f, iE, bE, setAt, cellsA, Value.cells, map_vc, map_vn, Nat.reduceAdd, qS] <;> rfl) | rfl)) ⟨_, rfl, (up_m rfl hb_13)⟩ rfl ?_
                        refine al_ro' (ro_call (evL_cons up_h (evL_cons ev_c (evL_cons ev_c evL_nil))) rfl (qWithin_ok _ _ _) q2_hcf42) ⟨_, rfl, (u2 rfl hb_13)⟩ rfl ?_
                        refine al_ro' (ro_pickT (up_m rfl (u2 rfl hb_13)) up_h) trivial rfl ?_
                        refine al_ro' (ro_move up_h) trivial rfl ?_
                        refine al_case up_h (fun hb_14 hq_14 => ?_) (fun hb_14 hq_14 => ?_)
                        · (first | replace hq_14 := bnt hq_14 | replace hq_14 := bnf hq_14 | replace hq_14 := bt hq_14 | replace hq_14 := bf hq_14 | replace hq_14 := bt' hq_14 | replace hq_14 := bf' hq_14 | skip)
                          first
                          | (cases hq_14; done) | (exfalso; omega)
                          | (
                             refine al_ro' (ro_fld_ptr q2_fl24_5 rfl (u2 rfl (u4 rfl (u8 rfl s1_8)))) ⟨_, rfl, hb_14⟩ rfl ?_
                             refine al_ro' (ro_eq (ro_ld_ptr q2_ty3 rfl mo0_1 up_h (by first | exact Nat.le_of_ble_eq_true rfl | omega | (simp only [lnS] <;> omega) | (simp <;> omega))) (by first | (simp only [packA_t, packA_f, iE, bE, setAt, cellsA, Value.cells, map_vc, map_vn, Nat.reduceAdd, qS] <;> rfl) | rfl)) ⟨_, rfl, (up_m rfl hb_14)⟩ rfl ?_
                             refine al_ro' (ro_call (evL_cons up_h (evL_cons ev_c (evL_cons ev_c evL_nil))) rfl (qWithin_ok _ _ _) q2_hcf42) ⟨_, rfl, (u2 rfl hb_14)⟩ rfl ?_
                             refine al_ro' (ro_pickT (up_m rfl (u2 rfl hb_14)) up_h) trivial rfl ?_
                             refine al_ro' (ro_move up_h) trivial rfl ?_
                             refine al_case up_h (fun hb_15 hq_15 => ?_) (fun hb_15 hq_15 => ?_)
                             · (first | replace hq_15 := bnt hq_15 | replace hq_15 := bnf hq_15 | replace hq_15 := bt hq_15 | replace hq_15 := bf hq_15 | replace hq_15 := bt' hq_15 | replace hq_15 := bf' hq_15 | skip)
                               first
                               | (cases hq_15; done) | (exfalso; omega)
                               | (
                                  refine al_ro' (ro_fld_ptr q2_fl24_6 rfl (up_m rfl (u2 rfl (u16 rfl s1_8)))) ⟨_, rfl, hb_15⟩ rfl ?_
                                  refine al_ro' (ro_eq (ro_ld_ptr q2_ty3 rfl mo0_1 up_h (by first | exact Nat.le_of_ble_eq_true rfl | omega | (simp only [lnS] <;> omega) | (simp <;> omega))) (by first | (simp only [packA_t, packA_f, iE, bE, setAt, cellsA, Value.cells, map_vc, map_vn, Nat.reduceAdd, qS] <;> rfl) | rfl)) ⟨_, rfl, (up_m rfl hb_15)⟩ rfl ?_
                                  refine al_ro' (ro_fld_ptr q2_fl24_5 rfl (up_m rfl (u4 rfl (u16 rfl s1_8)))) ⟨_, rfl, (u2 rfl hb_15)⟩ rfl ?_
                                  refine al_ro' (ro_eq (ro_ld_ptr q2_ty3 rfl mo0_1 up_h (by first | exact Nat.le_of_ble_eq_true rfl | omega | (simp only [lnS] <;> omega) | (simp <;> omega))) (by first | (simp only [packA_t, packA_f, iE, bE, setAt, cellsA, Value.cells, map_vc, map_vn, Nat.reduceAdd, qS] <;> rfl) | rfl)) ⟨_, rfl, (up_m rfl (u2 rfl hb_15))⟩ rfl ?_
                                  refine al_ro' (ro_call (evL_cons (u2 rfl up_h) (evL_cons ev_c (evL_cons up_h evL_nil))) rfl (qWithin_ok _ _ _) q2_hcf42) ⟨_, rfl, (u4 rfl hb_15)⟩ rfl ?_
                                  refine al_ro' (ro_pickT (up_m rfl (u4 rfl hb_15)) up_h) trivial rfl ?_
                                  refine al_ro' (ro_move up_h) trivial rfl ?_
                                  refine al_case up_h (fun hb_16 hq_16 => ?_) (fun hb_16 hq_16 => ?_)
                                  · (first | replace hq_16 := bnt hq_16 | replace hq_16 := bnf hq_16 | replace hq_16 := bt hq_16 | replace hq_16 := bf hq_16 | replace hq_16 := bt' hq_16 | replace hq_16 := bf' hq_16 | skip)
                                    first
                                    | (cases hq_16; done) | (exfalso; omega)
                                    | (
                                       refine al_ro' (ro_fld_ptr q2_fl24_7 rfl (u2 rfl (u8 rfl (u16 rfl s1_8)))) ⟨_, rfl, hb_16⟩ rfl ?_
                                       refine al_ro' (ro_eq (ro_ld_ptr q2_ty3 rfl mo0_1 up_h (by first | exact Nat.le_of_ble_eq_true rfl | omega | (simp only [lnS] <;> omega) | (simp <;> omega))) (by first | (simp only [packA_t, packA_f, iE, bE, setAt, cellsA, Value.cells, map_vc, map_vn, Nat.reduceAdd, qS] <;> rfl) | rfl)) ⟨_, rfl, (up_m rfl hb_16)⟩ rfl ?_
                                       refine al_ro' (ro_fld_ptr q2_fl24_1 rfl (u4 rfl (u8 rfl (u16 rfl s1_8)))) ⟨_, rfl, (u2 rfl hb_16)⟩ rfl ?_
                                       refine al_ro' (ro_eq (ro_ld_ptr q2_ty3 rfl mo0_1 up_h (by first | exact Nat.le_of_ble_eq_true rfl | omega | (simp only [lnS] <;> omega) | (simp <;> omega))) (by first | (simp only [packA_t, packA_f, iE, bE, setAt, cellsA, Value.cells, map_vc, map_vn, Nat.reduceAdd, qS] <;> rfl) | rfl)) ⟨_, rfl, (up_m rfl (u2 rfl hb_16))⟩ rfl ?_
                                       refine al_ro' (ro_call (evL_cons (u2 rfl up_h) (evL_cons ev_c (evL_cons up_h evL_nil))) rfl (qWithin_ok _ _ _) q2_hcf42) ⟨_, rfl, (u4 rfl hb_16)⟩ rfl ?_
                                       refine al_ro' (ro_pickT (up_m rfl (u4 rfl hb_16)) up_h) trivial rfl ?_
                                       refine al_ro' (ro_assign up_h) trivial rfl ?_
                                       refine al_end (fun e_17 he_17 => ?_)
                                       have s6_17 := ef 6 he_17 up_h
                                       clear he_17
                                       refine then_n ⟨(s6_17).trans (by (first | rfl | (refine avb ?_; simp_all))), rfl⟩)
                                  · (first | replace hq_16 := bnt hq_16 | replace hq_16 := bnf hq_16 | replace hq_16 := bt hq_16 | replace hq_16 := bf hq_16 | replace hq_16 := bt' hq_16 | replace hq_16 := bf' hq_16 | skip)
                                    first
                                    | (cases hq_16; done) | (exfalso; omega)
                                    | (
                                       refine al_skip' ⟨_, rfl, .inl hb_16⟩ rfl ?_
                                       refine al_skip' ⟨_, rfl, .inl (up_m rfl hb_16)⟩ rfl ?_
                                       refine al_skip' ⟨_, rfl, .inl (u2 rfl hb_16)⟩ rfl ?_
                                       refine al_skip' ⟨_, rfl, .inl (up_m rfl (u2 rfl hb_16))⟩ rfl ?_
                                       refine al_skip' ⟨_, rfl, .inl (u4 rfl hb_16)⟩ rfl ?_
                                       refine al_ro' (ro_pickF (up_m rfl (u4 rfl hb_16)) ev_c) trivial rfl ?_
                                       refine al_ro' (ro_assign up_h) trivial rfl ?_
                                       refine al_end (fun e_18 he_18 => ?_)
                                       have s6_18 := ef 6 he_18 up_h
                                       clear he_18
                                       refine then_n ⟨(s6_18).trans (by (first | rfl | (refine avb ?_; simp_all))), rfl⟩))
                             · (first | replace hq_15 := bnt hq_15 | replace hq_15 := bnf hq_15 | replace hq_15 := bt hq_15 | replace hq_15 := bf hq_15 | replace hq_15 := bt' hq_15 | replace hq_15 := bf' hq_15 | skip)
                               first
                               | (cases hq_15; done) | (exfalso; omega)
                               | (
                                  refine al_skip' ⟨_, rfl, .inl hb_15⟩ rfl ?_
                                  refine al_skip' ⟨_, rfl, .inl (up_m rfl hb_15)⟩ rfl ?_
                                  refine al_skip' ⟨_, rfl, .inl (u2 rfl hb_15)⟩ rfl ?_
                                  refine al_skip' ⟨_, rfl, .inl (up_m rfl (u2 rfl hb_15))⟩ rfl ?_
                                  refine al_skip' ⟨_, rfl, .inl (u4 rfl hb_15)⟩ rfl ?_
                                  refine al_ro' (ro_pickF (up_m rfl (u4 rfl hb_15)) ev_c) trivial rfl ?_
                                  refine al_ro' (ro_move up_h) trivial rfl ?_
                                  refine al_skip' ⟨_, rfl, .inl up_h⟩ rfl ?_
                                  refine al_skip' ⟨_, rfl, .inl (up_m rfl up_h)⟩ rfl ?_
                                  refine al_skip' ⟨_, rfl, .inl (u2 rfl up_h)⟩ rfl ?_
                                  refine al_skip' ⟨_, rfl, .inl (up_m rfl (u2 rfl up_h))⟩ rfl ?_
                                  refine al_skip' ⟨_, rfl, .inl (u4 rfl up_h)⟩ rfl ?_
                                  refine al_ro' (ro_pickF (up_m rfl (u4 rfl up_h)) ev_c) trivial rfl ?_
                                  refine al_ro' (ro_assign up_h) trivial rfl ?_
                                  refine al_end (fun e_19 he_19 => ?_)
                                  have s6_19 := ef 6 he_19 up_h
                                  clear he_19
                                  refine then_n ⟨(s6_19).trans (by (first | rfl | (refine avb ?_; simp_all))), rfl⟩))
                        · (first | replace hq_14 := bnt hq_14 | replace hq_14 := bnf hq_14 | replace hq_14 := bt hq_14 | replace hq_14 := bf hq_14 | replace hq_14 := bt' hq_14 | replace hq_14 := bf' hq_14 | skip)
                          first
                          | (cases hq_14; done) | (exfalso; omega)
                          | (
                             refine al_skip' ⟨_, rfl, .inl hb_14⟩ rfl ?_
                             refine al_skip' ⟨_, rfl, .inl (up_m rfl hb_14)⟩ rfl ?_
                             refine al_skip' ⟨_, rfl, .inl (u2 rfl hb_14)⟩ rfl ?_
                             refine al_ro' (ro_pickF (up_m rfl (u2 rfl hb_14)) ev_c) trivial rfl ?_
                             refine al_ro' (ro_move up_h) trivial rfl ?_
                             refine al_skip' ⟨_, rfl, .inl up_h⟩ rfl ?_
                             refine al_skip' ⟨_, rfl, .inl (up_m rfl up_h)⟩ rfl ?_
                             refine al_skip' ⟨_, rfl, .inl (u2 rfl up_h)⟩ rfl ?_
                             refine al_skip' ⟨_, rfl, .inl (up_m rfl (u2 rfl up_h))⟩ rfl ?_
                             refine al_skip' ⟨_, rfl, .inl (u4 rfl up_h)⟩ rfl ?_
                             refine al_ro' (ro_pickF (up_m rfl (u4 rfl up_h)) ev_c) trivial rfl ?_
                             refine al_ro' (ro_move up_h) trivial rfl ?_
                             refine al_skip' ⟨_, rfl, .inl up_h⟩ rfl ?_
                             refine al_skip' ⟨_, rfl, .inl (up_m rfl up_h)⟩ rfl ?_
                             refine al_skip' ⟨_, rfl, .inl (u2 rfl up_h)⟩ rfl ?_
                             refine al_skip' ⟨_, rfl, .inl (up_m rfl (u2 rfl up_h))⟩ rfl ?_
                             refine al_skip' ⟨_, rfl, .inl (u4 rfl up_h)⟩ rfl ?_
                             refine al_ro' (ro_pickF (up_m rfl (u4 rfl up_h)) ev_c) trivial rfl ?_
                             refine al_ro' (ro_assign up_h) trivial rfl ?_
                             refine al_end (fun e_20 he_20 => ?_)
                             have s6_20 := ef 6 he_20 up_h
                             clear he_20
                             refine then_n ⟨(s6_20).trans (by (first | rfl | (refine avb ?_; simp_all))), rfl⟩))
                   · (first | replace hq_13 := bnt hq_13 | replace hq_13 := bnf hq_13 | replace hq_13 := bt hq_13 | replace hq_13 := bf hq_13 | replace hq_13 := bt' hq_13 | replace hq_13 := bf' hq_13 | skip)
                     first
                     | (cases hq_13; done) | (exfalso; omega)
                     | (
                        refine al_skip' ⟨_, rfl, .inl hb_13⟩ rfl ?_
                        refine al_skip' ⟨_, rfl, .inl (up_m rfl hb_13)⟩ rfl ?_
                        refine al_skip' ⟨_, rfl, .inl (u2 rfl hb_13)⟩ rfl ?_
                        refine al_ro' (ro_pickF (up_m rfl (u2 rfl hb_13)) ev_c) trivial rfl ?_
                        refine al_ro' (ro_move up_h) trivial rfl ?_
                        refine al_skip' ⟨_, rfl, .inl up_h⟩ rfl ?_
                        refine al_skip' ⟨_, rfl, .inl (up_m rfl up_h)⟩ rfl ?_
                        refine al_skip' ⟨_, rfl, .inl (u2 rfl up_h)⟩ rfl ?_
                        refine al_ro' (ro_pickF (up_m rfl (u2 rfl up_h)) ev_c) trivial rfl ?_
                        refine al_ro' (ro_move up_h) trivial rfl ?_
                        refine al_skip' ⟨_, rfl, .inl up_h⟩ rfl ?_
                        refine al_skip' ⟨_, rfl, .inl (up_m rfl up_h)⟩ rfl ?_
                        refine al_skip' ⟨_, rfl, .inl (u2 rfl up_h)⟩ rfl ?_
                        refine al_skip' ⟨_, rfl, .inl (up_m rfl (u2 rfl up_h))⟩ rfl ?_
                        refine al_skip' ⟨_, rfl, .inl (u4 rfl up_h)⟩ rfl ?_
                        refine al_ro' (ro_pickF (up_m rfl (u4 rfl up_h)) ev_c) trivial rfl ?_
                        refine al_ro' (ro_move up_h) trivial rfl ?_
                        refine al_skip' ⟨_, rfl, .inl up_h⟩ rfl ?_
                        refine al_skip' ⟨_, rfl, .inl (up_m rfl up_h)⟩ rfl ?_
                        refine al_skip' ⟨_, rfl, .inl (u2 rfl up_h)⟩ rfl ?_
                        refine al_skip' ⟨_, rfl, .inl (up_m rfl (u2 rfl up_h))⟩ rfl ?_
                        refine al_skip' ⟨_, rfl, .inl (u4 rfl up_h)⟩ rfl ?_
                        refine al_ro' (ro_pickF (up_m rfl (u4 rfl up_h)) ev_c) trivial rfl ?_
                        refine al_ro' (ro_assign up_h) trivial rfl ?_
                        refine al_end (fun e_21 he_21 => ?_)
                        have s6_21 := ef 6 he_21 up_h
                        clear he_21
                        refine then_n ⟨(s6_21).trans (by (first | rfl | (refine avb ?_; simp_all))), rfl⟩))
              · (first | replace hq_12 := bnt hq_12 | replace hq_12 := bnf hq_12 | replace hq_12 := bt hq_12 | replace hq_12 := bf hq_12 | replace hq_12 := bt' hq_12 | replace hq_12 := bf' hq_12 | skip)
                first
                | (cases hq_12; done) | (exfalso; omega)
                | (
                   refine al_skip' ⟨_, rfl, .inl hb_12⟩ rfl ?_
                   refine al_skip' ⟨_, rfl, .inl (up_m rfl hb_12)⟩ rfl ?_
                   refine al_skip' ⟨_, rfl, .inl (u2 rfl hb_12)⟩ rfl ?_
                   refine al_ro' (ro_pickF (up_m rfl (u2 rfl hb_12)) ev_c) trivial rfl ?_
                   refine al_ro' (ro_move up_h) trivial rfl ?_
                   refine al_skip' ⟨_, rfl, .inl up_h⟩ rfl ?_
                   refine al_skip' ⟨_, rfl, .inl (up_m rfl up_h)⟩ rfl ?_
                   refine al_skip' ⟨_, rfl, .inl (u2 rfl up_h)⟩ rfl ?_
                   refine al_ro' (ro_pickF (up_m rfl (u2 rfl up_h)) ev_c) trivial rfl ?_
                   refine al_ro' (ro_move up_h) trivial rfl ?_
                   refine al_skip' ⟨_, rfl, .inl up_h⟩ rfl ?_
                   refine al_skip' ⟨_, rfl, .inl (up_m rfl up_h)⟩ rfl ?_
                   refine al_skip' ⟨_, rfl, .inl (u2 rfl up_h)⟩ rfl ?_
                   refine al_ro' (ro_pickF (up_m rfl (u2 rfl up_h)) ev_c) trivial rfl ?_
                   refine al_ro' (ro_move up_h) trivial rfl ?_
                   refine al_skip' ⟨_, rfl, .inl up_h⟩ rfl ?_
                   refine al_skip' ⟨_, rfl, .inl (up_m rfl up_h)⟩ rfl ?_
                   refine al_skip' ⟨_, rfl, .inl (u2 rfl up_h)⟩ rfl ?_
                   refine al_skip' ⟨_, rfl, .inl (up_m rfl (u2 rfl up_h))⟩ rfl ?_
                   refine al_skip' ⟨_, rfl, .inl (u4 rfl up_h)⟩ rfl ?_
                   refine al_ro' (ro_pickF (up_m rfl (u4 rfl up_h)) ev_c) trivial rfl ?_
                   refine al_ro' (ro_move up_h) trivial rfl ?_
                   refine al_skip' ⟨_, rfl, .inl up_h⟩ rfl ?_
                   refine al_skip' ⟨_, rfl, .inl (up_m rfl up_h)⟩ rfl ?_
                   refine al_skip' ⟨_, rfl, .inl (u2 rfl up_h)⟩ rfl ?_
                   refine al_skip' ⟨_, rfl, .inl (up_m rfl (u2 rfl up_h))⟩ rfl ?_
                   refine al_skip' ⟨_, rfl, .inl (u4 rfl up_h)⟩ rfl ?_
                   refine al_ro' (ro_pickF (up_m rfl (u4 rfl up_h)) ev_c) trivial rfl ?_
                   refine al_ro' (ro_assign up_h) trivial rfl ?_
                   refine al_end (fun e_22 he_22 => ?_)
                   have s6_22 := ef 6 he_22 up_h
                   clear he_22
                   refine then_n ⟨(s6_22).trans (by (first | rfl | (refine avb ?_; simp_all))), rfl⟩)
            · rintro e_11 _ ⟨s6_11, rfl⟩
              refine aw_seq ?_
              refine aw_text (by kernel_rfl) ?_
              refine al_ro' (ro_move s6_11) trivial rfl ?_
              refine al_ro' (ro_call (evL_cons up_h (evL_cons ev_c evL_nil)) rfl (qUnless_ok _ _) q2_hcf41) trivial rfl ?_
              refine al_ro' (ro_assign ev_c) trivial rfl ?_
              refine al_ro' (ro_assign (up_m rfl up_h)) trivial rfl ?_
              refine al_end (fun e_23 he_23 => ?_)
              have s2_23 := ef 2 he_23 (up_m rfl up_h)
              have s3_23 := ef 3 he_23 up_h
              clear he_23 s6_11
              refine then_n ?_
              refine aw_ret ?_
              refine ret2 (.inr rfl) (by kernel_rfl) (resV_tmp s2_23) (resV_tmp s3_23) (.ro _ rfl) (.ro _ rfl) ?_
              clear s2_23 s3_23 mo0_1 ml_1
              rfl))
set_option maxRecDepth 100000 in
set_option maxHeartbeats 1000000 in
theorem qOpen_ok (t : Trk) (h : RT t) : FnOk Try.prog 46 [qA t] (fun q => q = .tuple [qA t, zA 0]) := by
  refine fnOk_of (fn := Try.f46) 14 (by kernel_rfl) rfl (by kernel_rfl) (Nat.le_of_ble_eq_true rfl) ?_
  intro e_0 m_0 hA hm_0
  have s0_0 : evA e_0 (.tmp 0) = _ := hA 0 _ rfl
  have ml_0 : m_0.length = 0 := by rw [hm_0]; rfl
  clear hA hm_0
  refine aw_seq ?_
  refine aw_text (by kernel_rfl) ?_
  refine al_stm (st_box s0_0 rfl ml_0) trivial rfl (fun m_1 hm_1 => ?_)
  have mo0_1 := m_push hm_1 ml_0
  (try simp only [packA_t, packA_f, iE, bE, setAt, cellsA, Value.cells, map_vc, map_vn, Nat.reduceAdd, qS] at mo0_1)
  have ml_1 := m_push_l hm_1 ml_0
  have ml_1 : _ = 1 := ml_1
  clear hm_1
  refine al_stm (st_alloc q2_az90 rfl ml_1) trivial rfl (fun m_2 hm_2 => ?_)
  have mo1_2 := m_push hm_2 ml_1
  (try simp only [packA_t, packA_f, iE, bE, setAt, cellsA, Value.cells, map_vc, map_vn, Nat.reduceAdd, qS] at mo1_2)
  have mo0_2 := m_push_o hm_2 mo0_1
  have ml_2 := m_push_l hm_2 ml_1
  have ml_2 : _ = 2 := ml_2
  clear hm_2 mo0_1
  refine al_ro' (ro_assign ev_c) trivial rfl ?_
  refine al_end (fun e_3 he_3 => ?_)
  have s1_3 := ef 1 he_3 (u2 rfl up_h)
  have s2_3 := ef 2 he_3 (up_m rfl up_h)
  clear he_3 s0_0
  refine then_n ?_
  refine aw_seq ?_
  refine aw_text (by kernel_rfl) ?_
  refine al_ro' (ro_eq (ro_ld_ptr q2_ty24 rfl mo0_2 s1_3 (by first | exact Nat.le_of_ble_eq_true rfl | omega | (simp only [lnS] <;> omega) | (simp <;> omega))) (by first | (simp only [packA_t, packA_f, iE, bE, setAt, cellsA, Value.cells, map_vc, map_vn, Nat.reduceAdd, qS] <;> rfl) | rfl)) trivial rfl ?_
  refine al_ro' (ro_call (evL_cons up_h evL_nil) rfl (qCheckTrack_ok t h) q2_hcf75) trivial rfl ?_
  refine al_ro' (ro_move up_h) trivial rfl ?_
  refine al_ro' (ro_extract up_h rfl) trivial rfl ?_
  refine al_ro' (ro_extract (up_m rfl up_h) rfl) trivial rfl ?_
  refine al_ro' (ro_assign (up_m rfl up_h)) trivial rfl ?_
  refine al_ro' (ro_assign (up_m rfl up_h)) trivial rfl ?_
  refine al_end (fun e_4 he_4 => ?_)
  have s1_4 := ef 1 he_4 (up_m rfl (u2 rfl (u4 rfl s1_3)))
  have s2_4 := ef 2 he_4 (up_m rfl (u2 rfl (u4 rfl s2_3)))
  have s5_4 := ef 5 he_4 up_h
  clear he_4 s1_3 s2_3
  refine then_n ?_
  refine aw_seq ?_
  refine aw_text (by kernel_rfl) ?_
  refine al_ro' (ro_eq (ro_ld_ptr q2_ty24 rfl mo0_2 s1_4 (by first | exact Nat.le_of_ble_eq_true rfl | omega | (simp only [lnS] <;> omega) | (simp <;> omega))) (by first | (simp only [packA_t, packA_f, iE, bE, setAt, cellsA, Value.cells, map_vc, map_vn, Nat.reduceAdd, qS] <;> rfl) | rfl)) trivial rfl ?_
  refine al_ro' (ro_build (evP_cons up_h evP_nil) q2_bz90 q2_bu90 q2_bp90 rfl) trivial rfl ?_
  refine al_ro' (ro_move (u2 rfl s5_4)) trivial rfl ?_
  refine al_stm (st_store (up_m rfl (u2 rfl s2_4)) (up_m rfl up_h) rfl rfl mo1_2 q2_sz90 rfl (by first | exact Nat.le_of_ble_eq_true rfl | omega | (simp only [lnS] <;> omega) | (simp <;> omega))) trivial rfl (fun m_5 hm_5 => ?_)
  have mo1_5 := m_set hm_5 mo1_2
  (try simp only [packA_t, packA_f, iE, bE, setAt, cellsA, Value.cells, map_vc, map_vn, Nat.reduceAdd, qS] at mo1_5)
  have mo0_5 := m_set_o hm_5 mo0_2 (by decide)
  have ml_5 := m_set_l hm_5 ml_2
  clear hm_5 mo1_2 mo0_2
  refine al_ro' (ro_assign (up_n up_h)) trivial rfl ?_
  refine al_end (fun e_6 he_6 => ?_)
  have s2_6 := ef 2 he_6 (up_m rfl (up_n (up_m rfl (u2 rfl s2_4))))
  have s3_6 := ef 3 he_6 up_h
  clear he_6 s1_4 s2_4 s5_4
  refine then_n ?_
  refine aw_ret ?_
  refine ret2 (.inr rfl) (by kernel_rfl) (resV_cell s2_6 mo1_5 q2_ty90 (by first | exact Nat.le_of_ble_eq_true rfl | omega | (simp only [lnS] <;> omega) | (simp <;> omega)) (by simp)) (resV_tmp s3_6) (vw_r (.ro _ rfl)) (.ro _ rfl) ?_
  clear s2_6 s3_6 mo1_5 mo0_5 ml_5
  rfl
set_option maxRecDepth 100000 in
set_option maxHeartbeats 1000000 in
theorem windows_ok (t : Trk) (h : RT t) : FnOk Try.prog 47 [qA t] (fun q => q = zA (wnd t)) := by
  have h1 := h.len
  have h2 := h.win
  refine fnOk_of (fn := Try.f47) 19 (by kernel_rfl) rfl (by kernel_rfl) (Nat.le_of_ble_eq_true rfl) ?_
  intro e_0 m_0 hA hm_0
  have s0_0 : evA e_0 (.tmp 0) = _ := hA 0 _ rfl
  have ml_0 : m_0.length = 0 := by rw [hm_0]; rfl
  clear hA hm_0
  refine aw_seq ?_
  refine aw_text (by kernel_rfl) ?_
  refine al_stm (st_box s0_0 rfl ml_0) trivial rfl (fun m_1 hm_1 => ?_)
  have mo0_1 := m_push hm_1 ml_0
  (try simp only [packA_t, packA_f, iE, bE, setAt, cellsA, Value.cells, map_vc, map_vn, Nat.reduceAdd, qS] at mo0_1)
  have ml_1 := m_push_l hm_1 ml_0
  have ml_1 : _ = 1 := ml_1
  clear hm_1
  refine al_ro' (ro_assign ev_c) trivial rfl ?_
  refine al_end (fun e_2 he_2 => ?_)
  have s1_2 := ef 1 he_2 (up_m rfl up_h)
  clear he_2 s0_0
  refine then_n ?_
  refine aw_seq ?_
  refine aw_seq ?_
  refine aw_text (by kernel_rfl) ?_
  refine al_ro' (ro_fld_ptr q2_fl90_0 rfl s1_2) trivial rfl ?_
  refine al_ro' (ro_fld_ptr q2_fl24_8 rfl up_h) trivial rfl ?_
  refine al_ro' (ro_eq (ro_ld_ptr q2_ty4 rfl mo0_1 up_h (by first | exact Nat.le_of_ble_eq_true rfl | omega | (simp only [lnS] <;> omega) | (simp <;> omega))) (by first | (simp only [packA_t, packA_f, iE, bE, setAt, cellsA, Value.cells, map_vc, map_vn, Nat.reduceAdd, qS] <;> rfl) | rfl)) trivial rfl ?_
  refine al_end (fun e_3 he_3 => ?_)
  have s1_3 := ef 1 he_3 (up_m rfl (u2 rfl s1_2))
  have s5_3 := ef 5 he_3 up_h
  clear he_3 s1_2
  refine then_n ?_
  refine aw_case s5_3 (fun hq_4 => ?_) (fun hq_4 => ?_)
  · (first | replace hq_4 := bnt hq_4 | replace hq_4 := bnf hq_4 | replace hq_4 := bt hq_4 | replace hq_4 := bf hq_4 | replace hq_4 := bt' hq_4 | replace hq_4 := bf' hq_4 | skip)
    first
    | (cases hq_4; done) | (exfalso; omega)
    | (
       refine aw_seq ?_
       refine aw_text (by kernel_rfl) ?_
       refine al_ro' (ro_fld_ptr q2_fl90_0 rfl s1_3) trivial rfl ?_
       refine al_ro' (ro_fld_ptr q2_fl24_0 rfl up_h) trivial rfl ?_
       refine al_ro' (ro_eq (ro_ld_ptr q2_ty22 rfl mo0_1 up_h (by first | exact Nat.le_of_ble_eq_true rfl | omega | (simp only [lnS] <;> omega) | (simp <;> omega))) (by first | (simp only [packA_t, packA_f, iE, bE, setAt, cellsA, Value.cells, map_vc, map_vn, Nat.reduceAdd, qS] <;> rfl) | rfl)) trivial rfl ?_
       refine al_ro' (ro_eq (ro_len_row up_h rfl q2_sl22.1) (by first | (simp only [lnS] <;> rfl) | rfl)) trivial rfl ?_
       refine al_ro' (ro_assign up_h) trivial rfl ?_
       refine al_end (fun e_5 he_5 => ?_)
       have s2_5 := ef 2 he_5 up_h
       clear he_5 s1_3 s5_3
       refine then_n ?_
       refine aw_ret ?_
       refine then_r ?_
       refine ret1 (.inr rfl) (by kernel_rfl) (resV_tmp s2_5) (.ro _ rfl) ?_
       clear s2_5 mo0_1 ml_1
       (unfold wnd; simp_all))
  · (first | replace hq_4 := bnt hq_4 | replace hq_4 := bnf hq_4 | replace hq_4 := bt hq_4 | replace hq_4 := bf hq_4 | replace hq_4 := bt' hq_4 | replace hq_4 := bf' hq_4 | skip)
    first
    | (cases hq_4; done) | (exfalso; omega)
    | (
       refine aw_skip ?_
       refine then_n ?_
       refine aw_seq ?_
       refine aw_text (by kernel_rfl) ?_
       refine al_ro' (ro_fld_ptr q2_fl90_0 rfl s1_3) trivial rfl ?_
       refine al_ro' (ro_fld_ptr q2_fl24_0 rfl up_h) trivial rfl ?_
       refine al_ro' (ro_eq (ro_ld_ptr q2_ty22 rfl mo0_1 up_h (by first | exact Nat.le_of_ble_eq_true rfl | omega | (simp only [lnS] <;> omega) | (simp <;> omega))) (by first | (simp only [packA_t, packA_f, iE, bE, setAt, cellsA, Value.cells, map_vc, map_vn, Nat.reduceAdd, qS] <;> rfl) | rfl)) trivial rfl ?_
       refine al_ro' (ro_eq (ro_len_row up_h rfl q2_sl22.1) (by first | (simp only [lnS] <;> rfl) | rfl)) trivial rfl ?_
       refine al_ro' (ro_fld_ptr q2_fl90_0 rfl (u4 rfl s1_3)) trivial rfl ?_
       refine al_ro' (ro_fld_ptr q2_fl24_1 rfl up_h) trivial rfl ?_
       refine al_ro' (ro_eq (ro_ld_ptr q2_ty3 rfl mo0_1 up_h (by first | exact Nat.le_of_ble_eq_true rfl | omega | (simp only [lnS] <;> omega) | (simp <;> omega))) (by first | (simp only [packA_t, packA_f, iE, bE, setAt, cellsA, Value.cells, map_vc, map_vn, Nat.reduceAdd, qS] <;> rfl) | rfl)) trivial rfl ?_
       first | (refine al_ro' (ro_sub' (up_m rfl (u2 rfl up_h)) up_h ?_) trivial rfl ?_; · (unfold In64; omega)) | refine al_ro' (ro_sub (up_m rfl (u2 rfl up_h)) up_h) trivial rfl ?_
       first | (refine al_ro' (ro_add' up_h ev_c ?_) trivial rfl ?_; · (unfold In64; omega)) | refine al_ro' (ro_add up_h ev_c) trivial rfl ?_
       refine al_ro' (ro_assign up_h) trivial rfl ?_
       refine al_end (fun e_6 he_6 => ?_)
       have s2_6 := ef 2 he_6 up_h
       clear he_6 s1_3 s5_3
       refine then_n ?_
       refine aw_ret ?_
       refine ret1 (.inr rfl) (by kernel_rfl) (resV_tmp s2_6) (.ro _ rfl) ?_
       clear s2_6 mo0_1 ml_1
       (unfold wnd; simp_all))
set_option maxRecDepth 100000 in
set_option maxHeartbeats 1000000 in
theorem teeth_ok (t : Trk) (h : RT t) : FnOk Try.prog 45 [qA t] (fun q => q = zA (tee t)) := by
  have h1 := h.tee
  have h2 : t.per * wnd t = tee t := Int.mul_comm _ _
  refine fnOk_of (fn := Try.f45) 9 (by kernel_rfl) rfl (by kernel_rfl) (Nat.le_of_ble_eq_true rfl) ?_
  intro e_0 m_0 hA hm_0
  have s0_0 : evA e_0 (.tmp 0) = _ := hA 0 _ rfl
  have ml_0 : m_0.length = 0 := by rw [hm_0]; rfl
  clear hA hm_0
  refine aw_seq ?_
  refine aw_text (by kernel_rfl) ?_
  refine al_stm (st_box s0_0 rfl ml_0) trivial rfl (fun m_1 hm_1 => ?_)
  have mo0_1 := m_push hm_1 ml_0
  (try simp only [packA_t, packA_f, iE, bE, setAt, cellsA, Value.cells, map_vc, map_vn, Nat.reduceAdd, qS] at mo0_1)
  have ml_1 := m_push_l hm_1 ml_0
  have ml_1 : _ = 1 := ml_1
  clear hm_1
  refine al_ro' (ro_assign ev_c) trivial rfl ?_
  refine al_end (fun e_2 he_2 => ?_)
  have s1_2 := ef 1 he_2 (up_m rfl up_h)
  clear he_2 s0_0
  refine then_n ?_
  refine aw_seq ?_
  refine aw_draw 7 (by kernel_rfl) (by kernel_rfl) (by kernel_rfl) (by kernel_rfl) ?_
  refine ds_ro' (ro_fld_ptr q2_fl90_0 rfl s1_2) trivial rfl ?_
  refine ds_ro' (ro_fld_ptr q2_fl24_3 rfl up_h) trivial rfl ?_
  refine ds_ro' (ro_eq (ro_ld_ptr q2_ty3 rfl mo0_1 up_h (by first | exact Nat.le_of_ble_eq_true rfl | omega | (simp only [lnS] <;> omega) | (simp <;> omega))) (by first | (simp only [packA_t, packA_f, iE, bE, setAt, cellsA, Value.cells, map_vc, map_vn, Nat.reduceAdd, qS] <;> rfl) | rfl)) trivial rfl ?_
  refine ds_ro' (ro_eq (ro_ld_ptr q2_ty90 rfl mo0_1 (up_m rfl (u2 rfl s1_2)) (by first | exact Nat.le_of_ble_eq_true rfl | omega | (simp only [lnS] <;> omega) | (simp <;> omega))) (by first | (simp only [packA_t, packA_f, iE, bE, setAt, cellsA, Value.cells, map_vc, map_vn, Nat.reduceAdd, qS] <;> rfl) | rfl)) trivial rfl ?_
  refine ds_ro' (ro_call (evL_cons up_h evL_nil) rfl (windows_ok t h) q2_hcf47) trivial rfl ?_
  first | (refine ds_ro' (ro_mul' (u2 rfl up_h) up_h ?_) trivial rfl ?_; · (unfold In64; omega)) | refine ds_ro' (ro_mul (u2 rfl up_h) up_h) trivial rfl ?_
  refine ds_ro' (ro_assign up_h) trivial rfl ?_
  refine ds_nil ?_
  refine al_end (fun e_3 he_3 => ?_)
  have s2_3 := ef 2 he_3 up_h
  clear he_3 s1_2
  refine then_n ?_
  refine aw_ret ?_
  refine ret1 (.inr rfl) (by kernel_rfl) (resV_tmp s2_3) (.ro _ rfl) ?_
  clear s2_3 mo0_1 ml_1
  (rw [h2])
set_option maxRecDepth 100000 in
set_option maxHeartbeats 1000000 in
theorem counted_ok (t : Trk) (h : RT t) : FnOk Try.prog 44 [qA t, .v (.func (.func 45) #[] #[])] (fun q => q = .tuple [zA (tee t), zA 0]) := by
  refine fnOk_of (fn := Try.f44) 19 (by kernel_rfl) rfl (by kernel_rfl) (Nat.le_of_ble_eq_true rfl) ?_
  intro e_0 m_0 hA hm_0
  have s0_0 : evA e_0 (.tmp 0) = _ := hA 0 _ rfl
  have s1_0 : evA e_0 (.tmp 1) = _ := hA 1 _ rfl
  have ml_0 : m_0.length = 0 := by rw [hm_0]; rfl
  clear hA hm_0
  refine aw_seq ?_
  refine aw_text (by kernel_rfl) ?_
  refine al_stm (st_box s0_0 rfl ml_0) trivial rfl (fun m_1 hm_1 => ?_)
  have mo0_1 := m_push hm_1 ml_0
  (try simp only [packA_t, packA_f, iE, bE, setAt, cellsA, Value.cells, map_vc, map_vn, Nat.reduceAdd, qS] at mo0_1)
  have ml_1 := m_push_l hm_1 ml_0
  have ml_1 : _ = 1 := ml_1
  clear hm_1
  refine al_ro' (ro_assign ev_c) trivial rfl ?_
  refine al_ro' (ro_assign ev_c) trivial rfl ?_
  refine al_end (fun e_2 he_2 => ?_)
  have s1_2 := ef 1 he_2 (up_m rfl (u2 rfl s1_0))
  have s2_2 := ef 2 he_2 (u2 rfl up_h)
  clear he_2 s0_0 s1_0
  refine then_n ?_
  refine aw_seq ?_
  refine aw_text (by kernel_rfl) ?_
  refine al_ro' (ro_eq (ro_ld_ptr q2_ty24 rfl mo0_1 s2_2 (by first | exact Nat.le_of_ble_eq_true rfl | omega | (simp only [lnS] <;> omega) | (simp <;> omega))) (by first | (simp only [packA_t, packA_f, iE, bE, setAt, cellsA, Value.cells, map_vc, map_vn, Nat.reduceAdd, qS] <;> rfl) | rfl)) trivial rfl ?_
  refine al_ro' (ro_call (evL_cons up_h evL_nil) rfl (qOpen_ok t h) q2_hcf46) trivial rfl ?_
  refine al_ro' (ro_move up_h) trivial rfl ?_
  refine al_ro' (ro_extract up_h rfl) trivial rfl ?_
  refine al_ro' (ro_extract (up_m rfl up_h) rfl) trivial rfl ?_
  refine al_stm (st_alloc q2_az90 rfl ml_1) trivial rfl (fun m_3 hm_3 => ?_)
  have mo1_3 := m_push hm_3 ml_1
  (try simp only [packA_t, packA_f, iE, bE, setAt, cellsA, Value.cells, map_vc, map_vn, Nat.reduceAdd, qS] at mo1_3)
  have mo0_3 := m_push_o hm_3 mo0_1
  have ml_3 := m_push_l hm_3 ml_1
  have ml_3 : _ = 2 := ml_3
  clear hm_3 mo0_1
  refine al_stm (st_store up_h (u2 rfl up_h) rfl rfl mo1_3 q2_sz90 rfl (by first | exact Nat.le_of_ble_eq_true rfl | omega | (simp only [lnS] <;> omega) | (simp <;> omega))) trivial rfl (fun m_4 hm_4 => ?_)
  have mo1_4 := m_set hm_4 mo1_3
  (try simp only [packA_t, packA_f, iE, bE, setAt, cellsA, Value.cells, map_vc, map_vn, Nat.reduceAdd, qS] at mo1_4)
  have mo0_4 := m_set_o hm_4 mo0_3 (by decide)
  have ml_4 := m_set_l hm_4 ml_3
  clear hm_4 mo1_3 mo0_3
  refine al_ro' (ro_assign (up_n (up_m rfl up_h))) trivial rfl ?_
  refine al_end (fun e_5 he_5 => ?_)
  have s1_5 := ef 1 he_5 (up_m rfl (up_n (u2 rfl (u4 rfl s1_2))))
  have s6_5 := ef 6 he_5 (up_m rfl (up_n up_h))
  have s7_5 := ef 7 he_5 up_h
  clear he_5 s1_2 s2_2
  refine then_n ?_
  refine aw_seq ?_
  refine aw_seq ?_
  refine aw_text (by kernel_rfl) ?_
  refine al_ro' (ro_move s7_5) trivial rfl ?_
  refine al_ro' (ro_neq up_h ev_c) trivial rfl ?_
  refine al_end (fun e_6 he_6 => ?_)
  have s1_6 := ef 1 he_6 (u2 rfl s1_5)
  have s6_6 := ef 6 he_6 (u2 rfl s6_5)
  have s7_6 := ef 7 he_6 (u2 rfl s7_5)
  have s14_6 := ef 14 he_6 up_h
  clear he_6 s1_5 s6_5 s7_5
  refine then_n ?_
  refine aw_case s14_6 (fun hq_7 => ?_) (fun hq_7 => ?_)
  · (first | replace hq_7 := bnt hq_7 | replace hq_7 := bnf hq_7 | replace hq_7 := bt hq_7 | replace hq_7 := bf hq_7 | replace hq_7 := bt' hq_7 | replace hq_7 := bf' hq_7 | skip)
    first
    | (cases hq_7; done) | (exfalso; omega)
    | (
       refine aw_seq ?_
       refine aw_text (by kernel_rfl) ?_
       refine al_ro' (ro_move s7_6) trivial rfl ?_
       refine al_ro' (ro_assign ev_c) trivial rfl ?_
       refine al_ro' (ro_assign (up_m rfl up_h)) trivial rfl ?_
       refine al_end (fun e_8 he_8 => ?_)
       have s4_8 := ef 4 he_8 (up_m rfl up_h)
       have s5_8 := ef 5 he_8 up_h
       clear he_8 s14_6 s1_6 s6_6 s7_6
       refine then_n ?_
       refine aw_ret ?_
       refine then_r ?_
       refine ret2 (.inr rfl) (by kernel_rfl) (resV_tmp s4_8) (resV_tmp s5_8) (.ro _ rfl) (.ro _ rfl) ?_
       clear s4_8 s5_8 mo1_4 mo0_4 ml_4
       rfl)
  · (first | replace hq_7 := bnt hq_7 | replace hq_7 := bnf hq_7 | replace hq_7 := bt hq_7 | replace hq_7 := bf hq_7 | replace hq_7 := bt' hq_7 | replace hq_7 := bf' hq_7 | skip)
    first
    | (cases hq_7; done) | (exfalso; omega)
    | (
       refine aw_skip ?_
       refine then_n ?_
       refine aw_seq ?_
       refine aw_text (by kernel_rfl) ?_
       refine al_ro' (ro_move s1_6) trivial rfl ?_
       refine al_ro' (ro_eq (ro_ld_ptr q2_ty90 rfl mo1_4 (up_m rfl s6_6) (by first | exact Nat.le_of_ble_eq_true rfl | omega | (simp only [lnS] <;> omega) | (simp <;> omega))) (by first | (simp only [packA_t, packA_f, iE, bE, setAt, cellsA, Value.cells, map_vc, map_vn, Nat.reduceAdd, qS] <;> rfl) | rfl)) trivial rfl ?_
       refine al_ro' (ro_callf (up_m rfl up_h) (evL_cons up_h evL_nil) rfl (teeth_ok t h) q2_hcf45) trivial rfl ?_
       refine al_ro' (ro_assign up_h) trivial rfl ?_
       refine al_ro' (ro_assign ev_c) trivial rfl ?_
       refine al_end (fun e_9 he_9 => ?_)
       have s4_9 := ef 4 he_9 (up_m rfl up_h)
       have s5_9 := ef 5 he_9 up_h
       clear he_9 s14_6 s1_6 s6_6 s7_6
       refine then_n ?_
       refine aw_ret ?_
       refine ret2 (.inr rfl) (by kernel_rfl) (resV_tmp s4_9) (resV_tmp s5_9) (.ro _ rfl) (.ro _ rfl) ?_
       clear s4_9 s5_9 mo1_4 mo0_4 ml_4
       rfl)
set_option maxRecDepth 100000 in
set_option maxHeartbeats 1000000 in
theorem teethOf_ok (t : Trk) (h : RT t) : FnOk Try.prog 12 [qA t] (fun q => q = .tuple [zA (tee t), zA 0]) := by
  refine fnOk_of (fn := Try.f12) 8 (by kernel_rfl) rfl (by kernel_rfl) (Nat.le_of_ble_eq_true rfl) ?_
  intro e_0 m_0 hA hm_0
  have s0_0 : evA e_0 (.tmp 0) = _ := hA 0 _ rfl
  have ml_0 : m_0.length = 0 := by rw [hm_0]; rfl
  clear hA hm_0
  refine aw_seq ?_
  refine aw_text (by kernel_rfl) ?_
  refine al_stm (st_box s0_0 rfl ml_0) trivial rfl (fun m_1 hm_1 => ?_)
  have mo0_1 := m_push hm_1 ml_0
  (try simp only [packA_t, packA_f, iE, bE, setAt, cellsA, Value.cells, map_vc, map_vn, Nat.reduceAdd, qS] at mo0_1)
  have ml_1 := m_push_l hm_1 ml_0
  have ml_1 : _ = 1 := ml_1
  clear hm_1
  refine al_ro' (ro_assign ev_c) trivial rfl ?_
  refine al_ro' (ro_assign ev_c) trivial rfl ?_
  refine al_end (fun e_2 he_2 => ?_)
  have s1_2 := ef 1 he_2 (u2 rfl up_h)
  clear he_2 s0_0
  refine then_n ?_
  refine aw_seq ?_
  refine aw_text (by kernel_rfl) ?_
  refine al_ro' (ro_eq (ro_ld_ptr q2_ty24 rfl mo0_1 s1_2 (by first | exact Nat.le_of_ble_eq_true rfl | omega | (simp only [lnS] <;> omega) | (simp <;> omega))) (by first | (simp only [packA_t, packA_f, iE, bE, setAt, cellsA, Value.cells, map_vc, map_vn, Nat.reduceAdd, qS] <;> rfl) | rfl)) trivial rfl ?_
  refine al_ro' (ro_call (evL_cons up_h (evL_cons ev_f evL_nil)) rfl (counted_ok t h) q2_hcf44) trivial rfl ?_
  refine al_ro' (ro_extract up_h rfl) trivial rfl ?_
  refine al_ro' (ro_extract (up_m rfl up_h) rfl) trivial rfl ?_
  refine al_ro' (ro_assign (up_m rfl up_h)) trivial rfl ?_
  refine al_ro' (ro_assign (up_m rfl up_h)) trivial rfl ?_
  refine al_end (fun e_3 he_3 => ?_)
  have s2_3 := ef 2 he_3 (up_m rfl up_h)
  have s3_3 := ef 3 he_3 up_h
  clear he_3 s1_2
  refine then_n ?_
  refine aw_ret ?_
  refine ret2 (.inr rfl) (by kernel_rfl) (resV_tmp s2_3) (resV_tmp s3_3) (.ro _ rfl) (.ro _ rfl) ?_
  clear s2_3 s3_3 mo0_1 ml_1
  rfl
abbrev raA (lo hi : Int) : AV := .agg [zA lo, zA hi]
def plLo (t : Trk) (i : Int) : Int := t.fst + i * t.too
def plHi (t : Trk) (i : Int) : Int := t.fst + i * t.too + t.too - 1
set_option maxRecDepth 100000 in
set_option maxHeartbeats 1000000 in
theorem qPlaces_ok (t : Trk) (h : RT t) (i : Int) (hi : 0 ≤ i ∧ i ≤ 1000) : FnOk Try.prog 51 [qA t, zA i, zA i] (fun q => q = raA (plLo t i) (plHi t i)) := by
  have h1 := h.fst
  have h2 := h.too
  have h3 : 0 ≤ i * t.too := Int.mul_nonneg hi.1 (by omega)
  have h4 : i * t.too ≤ 1000 * 1000 := Int.mul_le_mul hi.2 h2.2 (by omega) (by omega)
  refine fnOk_of (fn := Try.f51) 31 (by kernel_rfl) rfl (by kernel_rfl) (Nat.le_of_ble_eq_true rfl) ?_
  intro e_0 m_0 hA hm_0
  have s0_0 : evA e_0 (.tmp 0) = _ := hA 0 _ rfl
  have s1_0 : evA e_0 (.tmp 1) = _ := hA 1 _ rfl
  have s2_0 : evA e_0 (.tmp 2) = _ := hA 2 _ rfl
  have ml_0 : m_0.length = 0 := by rw [hm_0]; rfl
  clear hA hm_0
  refine aw_seq ?_
  refine aw_text (by kernel_rfl) ?_
  refine al_stm (st_box s0_0 rfl ml_0) trivial rfl (fun m_1 hm_1 => ?_)
  have mo0_1 := m_push hm_1 ml_0
  (try simp only [packA_t, packA_f, iE, bE, setAt, cellsA, Value.cells, map_vc, map_vn, Nat.reduceAdd, qS] at mo0_1)
  have ml_1 := m_push_l hm_1 ml_0
  have ml_1 : _ = 1 := ml_1
  clear hm_1
  refine al_stm (st_alloc q2_az42 rfl ml_1) trivial rfl (fun m_2 hm_2 => ?_)
  have mo1_2 := m_push hm_2 ml_1
  (try simp only [packA_t, packA_f, iE, bE, setAt, cellsA, Value.cells, map_vc, map_vn, Nat.reduceAdd, qS] at mo1_2)
  have mo0_2 := m_push_o hm_2 mo0_1
  have ml_2 := m_push_l hm_2 ml_1
  have ml_2 : _ = 2 := ml_2
  clear hm_2 mo0_1
  refine al_end (fun e_3 he_3 => ?_)
  have s1_3 := ef 1 he_3 (u2 rfl s1_0)
  have s2_3 := ef 2 he_3 (u2 rfl s2_0)
  have s3_3 := ef 3 he_3 (up_m rfl up_h)
  have s6_3 := ef 6 he_3 up_h
  clear he_3 s0_0 s1_0 s2_0
  refine then_n ?_
  refine aw_seq ?_
  refine aw_text (by kernel_rfl) ?_
  refine al_ro' (ro_fld_ptr q2_fl90_0 rfl s3_3) trivial rfl ?_
  refine al_ro' (ro_fld_ptr q2_fl24_4 rfl up_h) trivial rfl ?_
  refine al_ro' (ro_eq (ro_ld_ptr q2_ty3 rfl mo0_2 up_h (by first | exact Nat.le_of_ble_eq_true rfl | omega | (simp only [lnS] <;> omega) | (simp <;> omega))) (by first | (simp only [packA_t, packA_f, iE, bE, setAt, cellsA, Value.cells, map_vc, map_vn, Nat.reduceAdd, qS] <;> rfl) | rfl)) trivial rfl ?_
  refine al_ro' (ro_move (up_m rfl (u2 rfl s1_3))) trivial rfl ?_
  refine al_ro' (ro_fld_ptr q2_fl90_0 rfl (u4 rfl s3_3)) trivial rfl ?_
  refine al_ro' (ro_fld_ptr q2_fl24_2 rfl up_h) trivial rfl ?_
  refine al_ro' (ro_eq (ro_ld_ptr q2_ty3 rfl mo0_2 up_h (by first | exact Nat.le_of_ble_eq_true rfl | omega | (simp only [lnS] <;> omega) | (simp <;> omega))) (by first | (simp only [packA_t, packA_f, iE, bE, setAt, cellsA, Value.cells, map_vc, map_vn, Nat.reduceAdd, qS] <;> rfl) | rfl)) trivial rfl ?_
  first | (refine al_ro' (ro_mul' (up_m rfl (u2 rfl up_h)) up_h ?_) trivial rfl ?_; · (unfold In64; omega)) | refine al_ro' (ro_mul (up_m rfl (u2 rfl up_h)) up_h) trivial rfl ?_
  first | (refine al_ro' (ro_add' (up_m rfl (u4 rfl up_h)) up_h ?_) trivial rfl ?_; · (unfold In64; omega)) | refine al_ro' (ro_add (up_m rfl (u4 rfl up_h)) up_h) trivial rfl ?_
  refine al_ro' (ro_fld_ptr q2_fl90_0 rfl (up_m rfl (u8 rfl s3_3))) trivial rfl ?_
  refine al_ro' (ro_fld_ptr q2_fl24_4 rfl up_h) trivial rfl ?_
  refine al_ro' (ro_eq (ro_ld_ptr q2_ty3 rfl mo0_2 up_h (by first | exact Nat.le_of_ble_eq_true rfl | omega | (simp only [lnS] <;> omega) | (simp <;> omega))) (by first | (simp only [packA_t, packA_f, iE, bE, setAt, cellsA, Value.cells, map_vc, map_vn, Nat.reduceAdd, qS] <;> rfl) | rfl)) trivial rfl ?_
  refine al_ro' (ro_move (u4 rfl (u8 rfl s2_3))) trivial rfl ?_
  refine al_ro' (ro_fld_ptr q2_fl90_0 rfl (up_m rfl (u4 rfl (u8 rfl s3_3)))) trivial rfl ?_
  refine al_ro' (ro_fld_ptr q2_fl24_2 rfl up_h) trivial rfl ?_
  refine al_ro' (ro_eq (ro_ld_ptr q2_ty3 rfl mo0_2 up_h (by first | exact Nat.le_of_ble_eq_true rfl | omega | (simp only [lnS] <;> omega) | (simp <;> omega))) (by first | (simp only [packA_t, packA_f, iE, bE, setAt, cellsA, Value.cells, map_vc, map_vn, Nat.reduceAdd, qS] <;> rfl) | rfl)) trivial rfl ?_
  first | (refine al_ro' (ro_mul' (up_m rfl (u2 rfl up_h)) up_h ?_) trivial rfl ?_; · (unfold In64; omega)) | refine al_ro' (ro_mul (up_m rfl (u2 rfl up_h)) up_h) trivial rfl ?_
  first | (refine al_ro' (ro_add' (up_m rfl (u4 rfl up_h)) up_h ?_) trivial rfl ?_; · (unfold In64; omega)) | refine al_ro' (ro_add (up_m rfl (u4 rfl up_h)) up_h) trivial rfl ?_
  refine al_ro' (ro_fld_ptr q2_fl90_0 rfl (u2 rfl (u16 rfl s3_3))) trivial rfl ?_
  refine al_ro' (ro_fld_ptr q2_fl24_2 rfl up_h) trivial rfl ?_
  refine al_ro' (ro_eq (ro_ld_ptr q2_ty3 rfl mo0_2 up_h (by first | exact Nat.le_of_ble_eq_true rfl | omega | (simp only [lnS] <;> omega) | (simp <;> omega))) (by first | (simp only [packA_t, packA_f, iE, bE, setAt, cellsA, Value.cells, map_vc, map_vn, Nat.reduceAdd, qS] <;> rfl) | rfl)) trivial rfl ?_
  first | (refine al_ro' (ro_add' (up_m rfl (u2 rfl up_h)) up_h ?_) trivial rfl ?_; · (unfold In64; omega)) | refine al_ro' (ro_add (up_m rfl (u2 rfl up_h)) up_h) trivial rfl ?_
  first | (refine al_ro' (ro_sub' up_h ev_c ?_) trivial rfl ?_; · (unfold In64; omega)) | refine al_ro' (ro_sub up_h ev_c) trivial rfl ?_
  refine al_ro' (ro_build (evP_cons (u2 rfl (u4 rfl (u8 rfl up_h))) (evP_cons up_h evP_nil)) q2_bz42 q2_bu42 q2_bp42 rfl) trivial rfl ?_
  refine al_stm (st_store (u8 rfl (u16 rfl s6_3)) up_h rfl rfl mo1_2 q2_sz42 rfl (by first | exact Nat.le_of_ble_eq_true rfl | omega | (simp only [lnS] <;> omega) | (simp <;> omega))) trivial rfl (fun m_4 hm_4 => ?_)
  have mo1_4 := m_set hm_4 mo1_2
  (try simp only [packA_t, packA_f, iE, bE, setAt, cellsA, Value.cells, map_vc, map_vn, Nat.reduceAdd, qS] at mo1_4)
  have mo0_4 := m_set_o hm_4 mo0_2 (by decide)
  have ml_4 := m_set_l hm_4 ml_2
  clear hm_4 mo1_2 mo0_2
  refine al_end (fun e_5 he_5 => ?_)
  have s6_5 := ef 6 he_5 (up_n (u8 rfl (u16 rfl s6_3)))
  clear he_5 s1_3 s2_3 s3_3 s6_3
  refine then_n ?_
  refine aw_ret ?_
  refine ret1 (.inr rfl) (by kernel_rfl) (resV_cell s6_5 mo1_4 q2_ty42 (by first | exact Nat.le_of_ble_eq_true rfl | omega | (simp only [lnS] <;> omega) | (simp <;> omega)) (by simp)) (vw_r (.ro _ rfl)) ?_
  clear s6_5 mo1_4 mo0_4 ml_4
  rfl
set_option maxRecDepth 100000 in
set_option maxHeartbeats 1000000 in
theorem placesOf_ok (t : Trk) (h : RT t) (i : Int) (hi : 0 ≤ i ∧ i < tee t) : FnOk Try.prog 16 [qA t, zA i] (fun q => q = .tuple [raA (plLo t i) (plHi t i), zA 0]) := by
  have h1 := h.tee
  have hw : withinB i 0 (tee t - 1) = true := by simp [withinB]; omega
  refine fnOk_of (fn := Try.f16) 28 (by kernel_rfl) rfl (by kernel_rfl) (Nat.le_of_ble_eq_true rfl) ?_
  intro e_0 m_0 hA hm_0
  have s0_0 : evA e_0 (.tmp 0) = _ := hA 0 _ rfl
  have s1_0 : evA e_0 (.tmp 1) = _ := hA 1 _ rfl
  have ml_0 : m_0.length = 0 := by rw [hm_0]; rfl
  clear hA hm_0
  refine aw_seq ?_
  refine aw_text (by kernel_rfl) ?_
  refine al_stm (st_box s0_0 rfl ml_0) trivial rfl (fun m_1 hm_1 => ?_)
  have mo0_1 := m_push hm_1 ml_0
  (try simp only [packA_t, packA_f, iE, bE, setAt, cellsA, Value.cells, map_vc, map_vn, Nat.reduceAdd, qS] at mo0_1)
  have ml_1 := m_push_l hm_1 ml_0
  have ml_1 : _ = 1 := ml_1
  clear hm_1
  refine al_stm (st_alloc q2_az42 rfl ml_1) trivial rfl (fun m_2 hm_2 => ?_)
  have mo1_2 := m_push hm_2 ml_1
  (try simp only [packA_t, packA_f, iE, bE, setAt, cellsA, Value.cells, map_vc, map_vn, Nat.reduceAdd, qS] at mo1_2)
  have mo0_2 := m_push_o hm_2 mo0_1
  have ml_2 := m_push_l hm_2 ml_1
  have ml_2 : _ = 2 := ml_2
  clear hm_2 mo0_1
  refine al_ro' (ro_assign ev_c) trivial rfl ?_
  refine al_end (fun e_3 he_3 => ?_)
  have s1_3 := ef 1 he_3 (up_m rfl (u2 rfl s1_0))
  have s2_3 := ef 2 he_3 (u2 rfl up_h)
  have s4_3 := ef 4 he_3 (up_m rfl up_h)
  clear he_3 s0_0 s1_0
  refine then_n ?_
  refine aw_seq ?_
  refine aw_text (by kernel_rfl) ?_
  refine al_ro' (ro_eq (ro_ld_ptr q2_ty24 rfl mo0_2 s2_3 (by first | exact Nat.le_of_ble_eq_true rfl | omega | (simp only [lnS] <;> omega) | (simp <;> omega))) (by first | (simp only [packA_t, packA_f, iE, bE, setAt, cellsA, Value.cells, map_vc, map_vn, Nat.reduceAdd, qS] <;> rfl) | rfl)) trivial rfl ?_
  refine al_ro' (ro_call (evL_cons up_h evL_nil) rfl (qOpen_ok t h) q2_hcf46) trivial rfl ?_
  refine al_ro' (ro_move up_h) trivial rfl ?_
  refine al_ro' (ro_extract up_h rfl) trivial rfl ?_
  refine al_ro' (ro_extract (up_m rfl up_h) rfl) trivial rfl ?_
  refine al_stm (st_alloc q2_az90 rfl ml_2) trivial rfl (fun m_4 hm_4 => ?_)
  have mo2_4 := m_push hm_4 ml_2
  (try simp only [packA_t, packA_f, iE, bE, setAt, cellsA, Value.cells, map_vc, map_vn, Nat.reduceAdd, qS] at mo2_4)
  have mo1_4 := m_push_o hm_4 mo1_2
  have mo0_4 := m_push_o hm_4 mo0_2
  have ml_4 := m_push_l hm_4 ml_2
  have ml_4 : _ = 3 := ml_4
  clear hm_4 mo1_2 mo0_2
  refine al_stm (st_store up_h (u2 rfl up_h) rfl rfl mo2_4 q2_sz90 rfl (by first | exact Nat.le_of_ble_eq_true rfl | omega | (simp only [lnS] <;> omega) | (simp <;> omega))) trivial rfl (fun m_5 hm_5 => ?_)
  have mo2_5 := m_set hm_5 mo2_4
  (try simp only [packA_t, packA_f, iE, bE, setAt, cellsA, Value.cells, map_vc, map_vn, Nat.reduceAdd, qS] at mo2_5)
  have mo1_5 := m_set_o hm_5 mo1_4 (by decide)
  have mo0_5 := m_set_o hm_5 mo0_4 (by decide)
  have ml_5 := m_set_l hm_5 ml_4
  clear hm_5 mo2_4 mo1_4 mo0_4
  refine al_ro' (ro_assign (up_n (up_m rfl up_h))) trivial rfl ?_
  refine al_end (fun e_6 he_6 => ?_)
  have s1_6 := ef 1 he_6 (up_m rfl (up_n (u2 rfl (u4 rfl s1_3))))
  have s4_6 := ef 4 he_6 (up_m rfl (up_n (u2 rfl (u4 rfl s4_3))))
  have s6_6 := ef 6 he_6 (up_m rfl (up_n up_h))
  have s7_6 := ef 7 he_6 up_h
  clear he_6 s1_3 s2_3 s4_3
  refine then_n ?_
  refine aw_seq ?_
  refine aw_seq ?_
  refine aw_text (by kernel_rfl) ?_
  refine al_ro' (ro_move s7_6) trivial rfl ?_
  refine al_ro' (ro_neq up_h ev_c) trivial rfl ?_
  refine al_end (fun e_7 he_7 => ?_)
  have s1_7 := ef 1 he_7 (u2 rfl s1_6)
  have s4_7 := ef 4 he_7 (u2 rfl s4_6)
  have s6_7 := ef 6 he_7 (u2 rfl s6_6)
  have s7_7 := ef 7 he_7 (u2 rfl s7_6)
  have s14_7 := ef 14 he_7 up_h
  clear he_7 s1_6 s4_6 s6_6 s7_6
  refine then_n ?_
  refine aw_case s14_7 (fun hq_8 => ?_) (fun hq_8 => ?_)
  · (first | replace hq_8 := bnt hq_8 | replace hq_8 := bnf hq_8 | replace hq_8 := bt hq_8 | replace hq_8 := bf hq_8 | replace hq_8 := bt' hq_8 | replace hq_8 := bf' hq_8 | skip)
    first
    | (cases hq_8; done) | (exfalso; omega)
    | (
       refine aw_seq ?_
       refine aw_text (by kernel_rfl) ?_
       refine al_ro' (ro_build evP_nil q2_bz42 q2_bu42 q2_bp42 rfl) trivial rfl ?_
       refine al_ro' (ro_move (up_m rfl s7_7)) trivial rfl ?_
       refine al_stm (st_store (u2 rfl s4_7) (up_m rfl up_h) rfl rfl mo1_5 q2_sz42 rfl (by first | exact Nat.le_of_ble_eq_true rfl | omega | (simp only [lnS] <;> omega) | (simp <;> omega))) trivial rfl (fun m_9 hm_9 => ?_)
       have mo1_9 := m_set hm_9 mo1_5
       (try simp only [packA_t, packA_f, iE, bE, setAt, cellsA, Value.cells, map_vc, map_vn, Nat.reduceAdd, qS] at mo1_9)
       have mo2_9 := m_set_o hm_9 mo2_5 (by decide)
       have mo0_9 := m_set_o hm_9 mo0_5 (by decide)
       have ml_9 := m_set_l hm_9 ml_5
       clear hm_9 mo2_5 mo1_5 mo0_5
       refine al_ro' (ro_assign (up_n up_h)) trivial rfl ?_
       refine al_end (fun e_10 he_10 => ?_)
       have s4_10 := ef 4 he_10 (up_m rfl (up_n (u2 rfl s4_7)))
       have s5_10 := ef 5 he_10 up_h
       clear he_10 s14_7 s1_7 s4_7 s6_7 s7_7
       refine then_n ?_
       refine aw_ret ?_
       refine then_r ?_
       refine ret2 (.inr rfl) (by kernel_rfl) (resV_cell s4_10 mo1_9 q2_ty42 (by first | exact Nat.le_of_ble_eq_true rfl | omega | (simp only [lnS] <;> omega) | (simp <;> omega)) (by simp)) (resV_tmp s5_10) (vw_r (.ro _ rfl)) (.ro _ rfl) ?_
       clear s4_10 s5_10 mo1_9 mo2_9 mo0_9 ml_9
       rfl)
  · (first | replace hq_8 := bnt hq_8 | replace hq_8 := bnf hq_8 | replace hq_8 := bt hq_8 | replace hq_8 := bf hq_8 | replace hq_8 := bt' hq_8 | replace hq_8 := bf' hq_8 | skip)
    first
    | (cases hq_8; done) | (exfalso; omega)
    | (
       refine aw_skip ?_
       refine then_n ?_
       refine aw_seq ?_
       refine aw_seq ?_
       refine aw_text (by kernel_rfl) ?_
       refine al_ro' (ro_move s1_7) trivial rfl ?_
       refine al_ro' (ro_eq (ro_ld_ptr q2_ty90 rfl mo2_5 (up_m rfl s6_7) (by first | exact Nat.le_of_ble_eq_true rfl | omega | (simp only [lnS] <;> omega) | (simp <;> omega))) (by first | (simp only [packA_t, packA_f, iE, bE, setAt, cellsA, Value.cells, map_vc, map_vn, Nat.reduceAdd, qS] <;> rfl) | rfl)) trivial rfl ?_
       refine al_ro' (ro_call (evL_cons up_h evL_nil) rfl (teeth_ok t h) q2_hcf45) trivial rfl ?_
       first | (refine al_ro' (ro_sub' up_h ev_c ?_) trivial rfl ?_; · (unfold In64; omega)) | refine al_ro' (ro_sub up_h ev_c) trivial rfl ?_
       refine al_ro' (ro_call (evL_cons (up_m rfl (u2 rfl up_h)) (evL_cons ev_c (evL_cons up_h evL_nil))) rfl ((qWithin_ok _ _ _).mono (fun q h => h.trans (by rw [hw]))) q2_hcf42) trivial rfl ?_
       refine al_ro' (ro_not up_h) trivial rfl ?_
       refine al_end (fun e_11 he_11 => ?_)
       have s1_11 := ef 1 he_11 (u2 rfl (u4 rfl s1_7))
       have s4_11 := ef 4 he_11 (u2 rfl (u4 rfl s4_7))
       have s6_11 := ef 6 he_11 (u2 rfl (u4 rfl s6_7))
       have s22_11 := ef 22 he_11 up_h
       clear he_11 s14_7 s1_7 s4_7 s6_7 s7_7
       refine then_n ?_
       refine aw_case s22_11 (fun hq_12 => ?_) (fun hq_12 => ?_)
       · (first | replace hq_12 := bnt hq_12 | replace hq_12 := bnf hq_12 | replace hq_12 := bt hq_12 | replace hq_12 := bf hq_12 | replace hq_12 := bt' hq_12 | replace hq_12 := bf' hq_12 | skip)
         first
         | (cases hq_12; done) | (exfalso; omega)
         | (
            refine aw_seq ?_
            refine aw_text (by kernel_rfl) ?_
            refine al_ro' (ro_build evP_nil q2_bz42 q2_bu42 q2_bp42 rfl) trivial rfl ?_
            refine al_stm (st_store (up_m rfl s4_11) up_h rfl rfl mo1_5 q2_sz42 rfl (by first | exact Nat.le_of_ble_eq_true rfl | omega | (simp only [lnS] <;> omega) | (simp <;> omega))) trivial rfl (fun m_13 hm_13 => ?_)
            have mo1_13 := m_set hm_13 mo1_5
            (try simp only [packA_t, packA_f, iE, bE, setAt, cellsA, Value.cells, map_vc, map_vn, Nat.reduceAdd, qS] at mo1_13)
            have mo2_13 := m_set_o hm_13 mo2_5 (by decide)
            have mo0_13 := m_set_o hm_13 mo0_5 (by decide)
            have ml_13 := m_set_l hm_13 ml_5
            clear hm_13 mo2_5 mo1_5 mo0_5
            refine al_ro' (ro_assign ev_c) trivial rfl ?_
            refine al_end (fun e_14 he_14 => ?_)
            have s4_14 := ef 4 he_14 (up_m rfl (up_n (up_m rfl s4_11)))
            have s5_14 := ef 5 he_14 up_h
            clear he_14 s1_11 s22_11 s4_11 s6_11
            refine then_n ?_
            refine aw_ret ?_
            refine then_r ?_
            refine ret2 (.inr rfl) (by kernel_rfl) (resV_cell s4_14 mo1_13 q2_ty42 (by first | exact Nat.le_of_ble_eq_true rfl | omega | (simp only [lnS] <;> omega) | (simp <;> omega)) (by simp)) (resV_tmp s5_14) (vw_r (.ro _ rfl)) (.ro _ rfl) ?_
            clear s4_14 s5_14 mo1_13 mo2_13 mo0_13 ml_13
            rfl)
       · (first | replace hq_12 := bnt hq_12 | replace hq_12 := bnf hq_12 | replace hq_12 := bt hq_12 | replace hq_12 := bf hq_12 | replace hq_12 := bt' hq_12 | replace hq_12 := bf' hq_12 | skip)
         first
         | (cases hq_12; done) | (exfalso; omega)
         | (
            refine aw_skip ?_
            refine then_n ?_
            refine aw_seq ?_
            refine aw_text (by kernel_rfl) ?_
            refine al_ro' (ro_eq (ro_ld_ptr q2_ty90 rfl mo2_5 s6_11 (by first | exact Nat.le_of_ble_eq_true rfl | omega | (simp only [lnS] <;> omega) | (simp <;> omega))) (by first | (simp only [packA_t, packA_f, iE, bE, setAt, cellsA, Value.cells, map_vc, map_vn, Nat.reduceAdd, qS] <;> rfl) | rfl)) trivial rfl ?_
            refine al_ro' (ro_move (up_m rfl s1_11)) trivial rfl ?_
            refine al_ro' (ro_move (u2 rfl s1_11)) trivial rfl ?_
            refine al_ro' (ro_call (evL_cons (u2 rfl up_h) (evL_cons (up_m rfl up_h) (evL_cons up_h evL_nil))) rfl (qPlaces_ok t h i (by omega)) q2_hcf51) trivial rfl ?_
            refine al_stm (st_store (u4 rfl s4_11) up_h rfl rfl mo1_5 q2_sz42 rfl (by first | exact Nat.le_of_ble_eq_true rfl | omega | (simp only [lnS] <;> omega) | (simp <;> omega))) trivial rfl (fun m_15 hm_15 => ?_)
            have mo1_15 := m_set hm_15 mo1_5
            (try simp only [packA_t, packA_f, iE, bE, setAt, cellsA, Value.cells, map_vc, map_vn, Nat.reduceAdd, qS] at mo1_15)
            have mo2_15 := m_set_o hm_15 mo2_5 (by decide)
            have mo0_15 := m_set_o hm_15 mo0_5 (by decide)
            have ml_15 := m_set_l hm_15 ml_5
            clear hm_15 mo2_5 mo1_5 mo0_5
            refine al_ro' (ro_assign ev_c) trivial rfl ?_
            refine al_end (fun e_16 he_16 => ?_)
            have s4_16 := ef 4 he_16 (up_m rfl (up_n (u4 rfl s4_11)))
            have s5_16 := ef 5 he_16 up_h
            clear he_16 s1_11 s22_11 s4_11 s6_11
            refine then_n ?_
            refine aw_ret ?_
            refine ret2 (.inr rfl) (by kernel_rfl) (resV_cell s4_16 mo1_15 q2_ty42 (by first | exact Nat.le_of_ble_eq_true rfl | omega | (simp only [lnS] <;> omega) | (simp <;> omega)) (by simp)) (resV_tmp s5_16) (vw_r (.ro _ rfl)) (.ro _ rfl) ?_
            clear s4_16 s5_16 mo1_15 mo2_15 mo0_15 ml_15
            rfl))
/-! ### Windows -/
def z12 : List Int := [0, 0, 0, 0, 0, 0, 0, 0, 0, 0, 0, 0]
def wat (t : Trk) (i : Int) : List Int := (List.range 12).map fun (k : Nat) => if (k : Int) < t.win then t.van.getD ((i + k).tmod t.van.length).toNat default else 0
theorem wat_len (t : Trk) (i : Int) : (wat t i).length = 12 := by simp [wat]
theorem wat_at (t : Trk) (i : Int) {k : Nat} (hk : k < 12) : (wat t i).getD k default = if (k : Int) < t.win then t.van.getD ((i + k).tmod t.van.length).toNat default else 0 := by
  simp [wat, List.getD_eq_getElem?_getD, hk]
end Go.Proofs.Ytgiiedpambimoaa
