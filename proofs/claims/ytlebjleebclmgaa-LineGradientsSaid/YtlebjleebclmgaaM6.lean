/- Texts of this claim, one behind the other: lemmas for the statement. -/
import Derived.Test.YtlebjleebclmgaaM5
import Derived.Test.YtlebjleebclmgaaA24
/- Contracts: a number sought in a sorted list. No conditions on a program. -/
namespace Go.Proofs.Ytlebjleebclmgaa
open Go Go.RowKit Go.Proofs
set_option linter.unusedSimpArgs false
set_option linter.unusedVariables false
theorem y17_fl26_2 : FldIs Try.prog 26 2 2 false 1 := by unfold FldIs; kernel_rfl
theorem y17_fl82_0 : FldIs Try.prog 82 0 0 true 4 := by unfold FldIs; kernel_rfl
theorem y17_fl82_1 : FldIs Try.prog 82 1 4 false 1 := by unfold FldIs; kernel_rfl
theorem y17_hcf80 : ∀ args w, (callFunc 80 args).run Try.prog w = .ok (.enter 80 args) w := fun _ _ => by kernel_rfl
theorem y17_hcf93 : ∀ args w, (callFunc 93 args).run Try.prog w = .ok (.enter 93 args) w := fun _ _ => by kernel_rfl
theorem y17_hcf94 : ∀ args w, (callFunc 94 args).run Try.prog w = .ok (.enter 94 args) w := fun _ _ => by kernel_rfl
theorem y17_hcf95 : ∀ args w, (callFunc 95 args).run Try.prog w = .ok (.enter 95 args) w := fun _ _ => by kernel_rfl
theorem y17_sl23 : SlIs Try.prog 23 88 2 16 (.agg #[.int .i64 0, .int .i64 0]) := ⟨by kernel_rfl, by kernel_rfl, by kernel_rfl⟩
theorem y17_sl67 : SlIs Try.prog 67 3 1 8 (.int .i64 0) := ⟨by kernel_rfl, by kernel_rfl, by kernel_rfl⟩
theorem y17_ty23 : TyIs Try.prog 23 false 1 := ⟨by kernel_rfl, by kernel_rfl⟩
theorem y17_ty3 : TyIs Try.prog 3 false 1 := ⟨by kernel_rfl, by kernel_rfl⟩
theorem y17_ty67 : TyIs Try.prog 67 false 1 := ⟨by kernel_rfl, by kernel_rfl⟩

set_option maxRecDepth 100000 in
set_option maxHeartbeats 1000000 in
theorem cNaN_ok (n : Int) : FnOk Try.prog 95 [mA n] (fun q => q = tbA false) := by
  refine fnOk_of (fn := Try.f95) 6 (by kernel_rfl) rfl (by kernel_rfl) (Nat.le_of_ble_eq_true rfl) ?_
  intro e_0 m_0 hA hm_0
  have s0_0 : evA e_0 (.tmp 0) = _ := hA 0 _ rfl
  have ml_0 : m_0.length = 0 := by rw [hm_0]; rfl
  clear hA hm_0
  refine aw_seq ?_
  refine aw_text (by kernel_rfl) ?_
  refine al_ro' (ro_assign ev_c) trivial rfl ?_
  refine al_end (fun e_1 he_1 => ?_)
  have s0_1 := ef 0 he_1 (up_m rfl s0_0)
  clear he_1 s0_0
  refine then_n ?_
  refine aw_seq ?_
  refine aw_text (by kernel_rfl) ?_
  refine al_ro' (ro_move s0_1) trivial rfl ?_
  refine al_ro' (ro_move (up_m rfl s0_1)) trivial rfl ?_
  refine al_ro' (ro_neq (up_m rfl up_h) up_h) trivial rfl ?_
  refine al_ro' (ro_assign up_h) trivial rfl ?_
  refine al_end (fun e_2 he_2 => ?_)
  have s2_2 := ef 2 he_2 up_h
  clear he_2 s0_1
  refine then_n ?_
  refine aw_ret ?_
  refine ret1 (.inr rfl) (by kernel_rfl) (resV_tmp s2_2) (.ro _ rfl) ?_
  clear s2_2  ml_0
  simp
set_option maxRecDepth 100000 in
set_option maxHeartbeats 1000000 in
theorem sNaN_ok (n : Int) : FnOk Try.prog 94 [mA n] (fun q => q = tbA false) := by
  refine fnOk_of (fn := Try.f94) 6 (by kernel_rfl) rfl (by kernel_rfl) (Nat.le_of_ble_eq_true rfl) ?_
  intro e_0 m_0 hA hm_0
  have s0_0 : evA e_0 (.tmp 0) = _ := hA 0 _ rfl
  have ml_0 : m_0.length = 0 := by rw [hm_0]; rfl
  clear hA hm_0
  refine aw_seq ?_
  refine aw_text (by kernel_rfl) ?_
  refine al_ro' (ro_assign ev_c) trivial rfl ?_
  refine al_end (fun e_1 he_1 => ?_)
  have s0_1 := ef 0 he_1 (up_m rfl s0_0)
  clear he_1 s0_0
  refine then_n ?_
  refine aw_seq ?_
  refine aw_text (by kernel_rfl) ?_
  refine al_ro' (ro_move s0_1) trivial rfl ?_
  refine al_ro' (ro_move (up_m rfl s0_1)) trivial rfl ?_
  refine al_ro' (ro_neq (up_m rfl up_h) up_h) trivial rfl ?_
  refine al_ro' (ro_assign up_h) trivial rfl ?_
  refine al_end (fun e_2 he_2 => ?_)
  have s2_2 := ef 2 he_2 up_h
  clear he_2 s0_1
  refine then_n ?_
  refine aw_ret ?_
  refine ret1 (.inr rfl) (by kernel_rfl) (resV_tmp s2_2) (.ro _ rfl) ?_
  clear s2_2  ml_0
  simp
set_option maxRecDepth 100000 in
set_option maxHeartbeats 1000000 in
theorem less_ok (m n : Int) : FnOk Try.prog 93 [mA m, mA n] (fun q => q = tbA (decide (m < n))) := by
  refine fnOk_of (fn := Try.f93) 17 (by kernel_rfl) rfl (by kernel_rfl) (Nat.le_of_ble_eq_true rfl) ?_
  intro e_0 m_0 hA hm_0
  have s0_0 : evA e_0 (.tmp 0) = _ := hA 0 _ rfl
  have s1_0 : evA e_0 (.tmp 1) = _ := hA 1 _ rfl
  have ml_0 : m_0.length = 0 := by rw [hm_0]; rfl
  clear hA hm_0
  refine aw_seq ?_
  refine aw_text (by kernel_rfl) ?_
  refine al_ro' (ro_assign ev_c) trivial rfl ?_
  refine al_end (fun e_1 he_1 => ?_)
  have s0_1 := ef 0 he_1 (up_m rfl s0_0)
  have s1_1 := ef 1 he_1 (up_m rfl s1_0)
  clear he_1 s0_0 s1_0
  refine then_n ?_
  refine aw_seq ?_
  refine aw_text (by kernel_rfl) ?_
  refine al_ro' (ro_move s0_1) trivial rfl ?_
  refine al_ro' (ro_call (evL_cons up_h evL_nil) rfl (cNaN_ok _) y17_hcf95) trivial rfl ?_
  refine al_ro' (ro_move up_h) trivial rfl ?_
  refine al_case up_h (fun hb_2 hq_2 => ?_) (fun hb_2 hq_2 => ?_)
  · cases hq_2
  refine al_skip' ⟨_, rfl, .inl hb_2⟩ rfl ?_
  refine al_skip' ⟨_, rfl, .inl (up_m rfl hb_2)⟩ rfl ?_
  refine al_skip' ⟨_, rfl, .inl (u2 rfl hb_2)⟩ rfl ?_
  refine al_ro' (ro_pickF (up_m rfl (u2 rfl hb_2)) ev_c) trivial rfl ?_
  refine al_ro' (ro_move up_h) trivial rfl ?_
  refine al_ro' (ro_move (u8 rfl s0_1)) ⟨_, rfl, up_h⟩ rfl ?_
  refine al_ro' (ro_move (up_m rfl (u8 rfl s1_1))) ⟨_, rfl, (up_m rfl up_h)⟩ rfl ?_
  refine al_ro' (ro_lss (up_m rfl up_h) up_h) ⟨_, rfl, (u2 rfl up_h)⟩ rfl ?_
  refine al_ro' (ro_pickF (up_m rfl (u2 rfl up_h)) up_h) trivial rfl ?_
  refine al_ro' (ro_assign up_h) trivial rfl ?_
  refine al_end (fun e_6 he_6 => ?_)
  have s4_6 := ef 4 he_6 up_h
  clear he_6 hb_2 s0_1 s1_1
  refine then_n ?_
  refine aw_ret ?_
  refine ret1 (.inr rfl) (by kernel_rfl) (resV_tmp s4_6) (.ro _ rfl) ?_
  clear s4_6  ml_0
  rfl
/-- Those below i are less than a number; those from i on are not. -/
def Blw (xs : List Int) (t : Int) (i : Nat) : Prop := ∀ k : Nat, k < i → xs.getD k default < t
def Abo (xs : List Int) (t : Int) (i : Nat) : Prop := ∀ k : Nat, i ≤ k → k < xs.length → t ≤ xs.getD k default
/-- No number is less than one before it. -/
def Srt (xs : List Int) : Prop := ∀ i j : Nat, i ≤ j → j < xs.length → xs.getD i default ≤ xs.getD j default
/-- How many numbers are less, up to the first one that is not. -/
def lowN (xs : List Int) (t : Int) : Nat := (xs.takeWhile (fun x => decide (x < t))).length
theorem lowN_eq {t : Int} : ∀ {xs : List Int} {i : Nat}, i ≤ xs.length → Blw xs t i → Abo xs t i → lowN xs t = i
  | [], i, h, _, _ => by simp at h; subst h; rfl
  | x :: xs, 0, _, _, h => by
    have := h 0 (Nat.le_refl _) (by simp)
    simp at this
    simp [lowN, show ¬ x < t by omega]
  | x :: xs, i + 1, h, hb, ha => by
    have := hb 0 (by omega)
    simp at this
    have ih := lowN_eq (xs := xs) (i := i) (t := t) (by simpa using h) (fun k hk => by have := hb (k + 1) (by omega); simpa using this) (fun k h1 h2 => by have := ha (k + 1) (by omega) (by simpa using h2); simpa using this)
    unfold lowN at ih ⊢
    simp [this, ih]
theorem Blw.step {xs : List Int} {t : Int} (hs : Srt xs) {i : Nat} (hi : i < xs.length) (h : xs.getD i default < t) : Blw xs t (i + 1) := fun k hk => by
  have := hs k i (by omega) hi; omega
theorem Abo.step {xs : List Int} {t : Int} (hs : Srt xs) {i : Nat} (h : t ≤ xs.getD i default) : Abo xs t i := fun k h1 h2 => by
  have := hs i k h1 h2; omega
set_option maxRecDepth 100000 in
set_option maxHeartbeats 4000000 in
theorem search_ok (xs : List Int) (t : Int) (hs : Srt xs) (hl : xs.length ≤ 1000000) : FnOk Try.prog 80 [.row 1 (xs.map iE), mA t] (fun q => q = .tuple [mA (lowN xs t), tbA (decide (lowN xs t < xs.length ∧ xs.getD (lowN xs t) default = t))]) := by
  refine fnOk_of (fn := Try.f80) 54 (by kernel_rfl) rfl (by kernel_rfl) (Nat.le_of_ble_eq_true rfl) ?_
  intro e_0 m_0 hA hm_0
  have s0_0 : evA e_0 (.tmp 0) = _ := hA 0 _ rfl
  have s1_0 : evA e_0 (.tmp 1) = _ := hA 1 _ rfl
  have ml_0 : m_0.length = 0 := by rw [hm_0]; rfl
  clear hA hm_0
  refine aw_seq ?_
  refine aw_text (by kernel_rfl) ?_
  refine al_ro' (ro_assign ev_c) trivial rfl ?_
  refine al_ro' (ro_assign ev_c) trivial rfl ?_
  refine al_end (fun e_1 he_1 => ?_)
  have s0_1 := ef 0 he_1 (u2 rfl s0_0)
  have s1_1 := ef 1 he_1 (u2 rfl s1_0)
  clear he_1 s0_0 s1_0
  refine then_n ?_
  refine aw_seq ?_
  refine aw_text (by kernel_rfl) ?_
  refine al_ro' (ro_move s0_1) trivial rfl ?_
  refine al_ro' (ro_eq (ro_len_row up_h rfl y17_sl67.1) (by simp only [lnS] <;> rfl)) trivial rfl ?_
  refine al_ro' (ro_assign up_h) trivial rfl ?_
  refine al_end (fun e_2 he_2 => ?_)
  have s0_2 := ef 0 he_2 (up_m rfl (u2 rfl s0_1))
  have s1_2 := ef 1 he_2 (up_m rfl (u2 rfl s1_1))
  have s6_2 := ef 6 he_2 up_h
  clear he_2 s0_1 s1_1
  refine then_n ?_
  refine aw_seq ?_
  refine aw_text (by kernel_rfl) ?_
  refine al_ro' (ro_move s6_2) trivial rfl ?_
  refine al_ro' (ro_assign ev_c) trivial rfl ?_
  refine al_ro' (ro_assign (up_m rfl up_h)) trivial rfl ?_
  refine al_end (fun e_3 he_3 => ?_)
  have s0_3 := ef 0 he_3 (up_m rfl (u2 rfl s0_2))
  have s1_3 := ef 1 he_3 (up_m rfl (u2 rfl s1_2))
  have s6_3 := ef 6 he_3 (up_m rfl (u2 rfl s6_2))
  have s7_3 := ef 7 he_3 (up_m rfl up_h)
  have s8_3 := ef 8 he_3 up_h
  clear he_3 s0_2 s1_2 s6_2
  refine then_n ?_
  refine aw_seq ?_
  refine aw_block ?_
  refine aw_loop (S := (Int × Int)) (fun s e mem => match s with | ⟨i, j⟩ => (evA e (.tmp 7) = .v (.int .i64 i)) ∧ (evA e (.tmp 8) = .v (.int .i64 j)) ∧ (evA e (.tmp 0) = evA e_3 (.tmp 0)) ∧ (evA e (.tmp 1) = evA e_3 (.tmp 1)) ∧ (evA e (.tmp 6) = evA e_3 (.tmp 6)) ∧ (mem.length = 0) ∧ ((0 ≤ i ∧ i ≤ j ∧ j ≤ xs.length ∧ Blw xs t i.toNat ∧ Abo xs t j.toNat))) (fun s => match s with | ⟨i, j⟩ => (j - i).toNat) ⟨_, _⟩ ⟨s7_3, s8_3, rfl, rfl, rfl, ml_0, ?_⟩ ?_
  · (exact ⟨by omega, by omega, by omega, fun k hk => absurd hk (by simp), fun k h1 h2 => absurd h1 (by omega)⟩)
  · rintro ⟨i, j⟩ e_4 m_4 ⟨s7_4, s8_4, k0_4, k1_4, k6_4, ml_4, hinv⟩
    have s0_4 := k0_4.trans s0_3
    have s1_4 := k1_4.trans s1_3
    have s6_4 := k6_4.trans s6_3
    (obtain ⟨p1, p2, p3, p4, p5⟩ := hinv)
    refine aw_seq ?_
    refine aw_seq ?_
    refine aw_text (by kernel_rfl) ?_
    refine al_ro' (ro_move s7_4) trivial rfl ?_
    refine al_ro' (ro_move (up_m rfl s8_4)) trivial rfl ?_
    refine al_ro' (ro_lss (up_m rfl up_h) up_h) trivial rfl ?_
    refine al_end (fun e_5 he_5 => ?_)
    have s0_5 := ef 0 he_5 (up_m rfl (u2 rfl s0_4))
    have s1_5 := ef 1 he_5 (up_m rfl (u2 rfl s1_4))
    have s6_5 := ef 6 he_5 (up_m rfl (u2 rfl s6_4))
    have s7_5 := ef 7 he_5 (up_m rfl (u2 rfl s7_4))
    have s8_5 := ef 8 he_5 (up_m rfl (u2 rfl s8_4))
    have s15_5 := ef 15 he_5 up_h
    clear he_5 s0_4 s1_4 s6_4 s7_4 s8_4
    refine then_n ?_
    refine aw_case s15_5 (fun hq_6 => ?_) (fun hq_6 => ?_)
    ·replace hq_6 := bt hq_6
     refine aw_skip ?_
     refine then_n ?_
     refine aw_block ?_
     refine aw_seq ?_
     refine aw_text (by kernel_rfl) ?_
     refine al_ro' (ro_move s7_5) trivial rfl ?_
     refine al_ro' (ro_move (up_m rfl s8_5)) trivial rfl ?_
     (refine al_ro' (ro_add' (up_m rfl up_h) up_h ?_) trivial rfl ?_; · ((first | unfold In64 | unfold InU64); omega))
     (refine al_ro' (ro_cvU up_h (by kernel_rfl) (by kernel_rfl) ?_) trivial rfl ?_; · ((first | unfold In64 | unfold InU64); omega))
     refine al_ro' (ro_shr (c := 2) up_h ev_c (by decide) (by decide)) trivial rfl ?_
     (refine al_ro' (ro_cvI up_h (by kernel_rfl) (by kernel_rfl) ?_) trivial rfl ?_; · ((first | unfold In64 | unfold InU64); omega))
     refine al_ro' (ro_assign up_h) trivial rfl ?_
     refine al_end (fun e_7 he_7 => ?_)
     have s0_7 := ef 0 he_7 (up_m rfl (u2 rfl (u4 rfl s0_5)))
     have s1_7 := ef 1 he_7 (up_m rfl (u2 rfl (u4 rfl s1_5)))
     have s6_7 := ef 6 he_7 (up_m rfl (u2 rfl (u4 rfl s6_5)))
     have s7_7 := ef 7 he_7 (up_m rfl (u2 rfl (u4 rfl s7_5)))
     have s8_7 := ef 8 he_7 (up_m rfl (u2 rfl (u4 rfl s8_5)))
     have s9_7 := ef 9 he_7 up_h
     clear he_7 s0_5 s15_5 s1_5 s6_5 s7_5 s8_5
     refine then_n ?_
     refine aw_seq ?_
     refine aw_text (by kernel_rfl) ?_
     refine al_ro' (ro_move s0_7) trivial rfl ?_
     refine al_ro' (ro_move (up_m rfl s9_7)) trivial rfl ?_
     refine al_ro' (ro_eq (ro_ix y17_sl67 (up_m rfl up_h) up_h (by omega) (by first | (refine idx_map ?_; first | omega | (simp only [lnS]; omega)) | (refine idx_mapI ?_; first | omega | (simp only [lnS]; omega)) | (refine idx_mapN ?_; first | omega | (simp only [lnS]; omega)) | rfl)) (by simp only [packA_t, packA_f, iE, bE, setAt, cellsA, Value.cells, map_vc, map_vn, Nat.reduceAdd, qS] <;> rfl)) trivial rfl ?_
     refine al_ro' (ro_eq (ro_ld_ref y17_ty3 rfl up_h (by exact Nat.le_of_ble_eq_true rfl)) (by simp only [packA_t, packA_f, iE, bE, setAt, cellsA, Value.cells, map_vc, map_vn, Nat.reduceAdd, qS] <;> rfl)) trivial rfl ?_
     refine al_ro' (ro_move (u4 rfl s1_7)) trivial rfl ?_
     refine al_ro' (ro_call (evL_cons (up_m rfl up_h) (evL_cons up_h evL_nil)) rfl (less_ok _ _) y17_hcf93) trivial rfl ?_
     refine al_end (fun e_8 he_8 => ?_)
     have s0_8 := ef 0 he_8 (u2 rfl (u4 rfl s0_7))
     have s1_8 := ef 1 he_8 (u2 rfl (u4 rfl s1_7))
     have s6_8 := ef 6 he_8 (u2 rfl (u4 rfl s6_7))
     have s7_8 := ef 7 he_8 (u2 rfl (u4 rfl s7_7))
     have s8_8 := ef 8 he_8 (u2 rfl (u4 rfl s8_7))
     have s9_8 := ef 9 he_8 (u2 rfl (u4 rfl s9_7))
     have s27_8 := ef 27 he_8 up_h
     clear he_8 s0_7 s1_7 s6_7 s7_7 s8_7 s9_7
     refine then_n ?_
     refine aw_case s27_8 (fun hq_9 => ?_) (fun hq_9 => ?_)
     ·replace hq_9 := bt hq_9
      refine aw_text (by kernel_rfl) ?_
      refine al_ro' (ro_move s9_8) trivial rfl ?_
      (refine al_ro' (ro_add' up_h ev_c ?_) trivial rfl ?_; · ((first | unfold In64 | unfold InU64); omega))
      refine al_ro' (ro_assign up_h) trivial rfl ?_
      refine al_end (fun e_10 he_10 => ?_)
      have s0_10 := ef 0 he_10 (up_m rfl (u2 rfl s0_8))
      have s1_10 := ef 1 he_10 (up_m rfl (u2 rfl s1_8))
      have s6_10 := ef 6 he_10 (up_m rfl (u2 rfl s6_8))
      have s7_10 := ef 7 he_10 up_h
      have s8_10 := ef 8 he_10 (up_m rfl (u2 rfl s8_8))
      clear he_10 s0_8 s1_8 s27_8 s6_8 s7_8 s8_8 s9_8
      refine block_n ?_
      refine then_n ?_
      refine ⟨⟨_, _⟩, ⟨s7_10, s8_10, (s0_10.trans s0_3.symm), (s1_10.trans s1_3.symm), (s6_10.trans s6_3.symm), ml_4, ?_⟩, ?_⟩
      · (first | (have hk : xs.getD ((i + j) / 2).toNat default < t := (by assumption); refine ⟨by omega, by omega, by omega, ?_, p5⟩; rw [show ((i + j) / 2 + 1).toNat = ((i + j) / 2).toNat + 1 by omega]; exact Blw.step hs (by omega) hk) | (have hk : t ≤ xs.getD ((i + j) / 2).toNat default := (by first | omega | (simp_all; done)); exact ⟨by omega, by omega, by omega, p4, Abo.step hs hk⟩))
      · ((try dsimp only); omega)
     replace hq_9 := bf hq_9
     refine aw_text (by kernel_rfl) ?_
     refine al_ro' (ro_move s9_8) trivial rfl ?_
     refine al_ro' (ro_assign up_h) trivial rfl ?_
     refine al_end (fun e_11 he_11 => ?_)
     have s0_11 := ef 0 he_11 (u2 rfl s0_8)
     have s1_11 := ef 1 he_11 (u2 rfl s1_8)
     have s6_11 := ef 6 he_11 (u2 rfl s6_8)
     have s7_11 := ef 7 he_11 (u2 rfl s7_8)
     have s8_11 := ef 8 he_11 up_h
     clear he_11 s0_8 s1_8 s27_8 s6_8 s7_8 s8_8 s9_8
     refine block_n ?_
     refine then_n ?_
     refine ⟨⟨_, _⟩, ⟨s7_11, s8_11, (s0_11.trans s0_3.symm), (s1_11.trans s1_3.symm), (s6_11.trans s6_3.symm), ml_4, ?_⟩, ?_⟩
     · (first | (have hk : xs.getD ((i + j) / 2).toNat default < t := (by assumption); refine ⟨by omega, by omega, by omega, ?_, p5⟩; rw [show ((i + j) / 2 + 1).toNat = ((i + j) / 2).toNat + 1 by omega]; exact Blw.step hs (by omega) hk) | (have hk : t ≤ xs.getD ((i + j) / 2).toNat default := (by first | omega | (simp_all; done)); exact ⟨by omega, by omega, by omega, p4, Abo.step hs hk⟩))
     · ((try dsimp only); omega)
    replace hq_6 := bf hq_6
    refine aw_exit ?_
    refine then_x ?_
    refine then_x ?_
    refine block_hit ?_
    refine then_n ?_
    refine aw_seq ?_
    refine aw_text (by kernel_rfl) ?_
    refine al_ro' (ro_move s7_5) trivial rfl ?_
    refine al_ro' (ro_move (up_m rfl s7_5)) trivial rfl ?_
    refine al_ro' (ro_move (u2 rfl s6_5)) trivial rfl ?_
    refine al_ro' (ro_lss (up_m rfl up_h) up_h) trivial rfl ?_
    refine al_ro' (ro_move up_h) trivial rfl ?_
    refine al_case up_h (fun hb_12 hq_12 => ?_) (fun hb_12 hq_12 => ?_)
    ·replace hq_12 := bt hq_12
     refine al_ro' (ro_move (up_m rfl (u4 rfl s0_5))) ⟨_, rfl, hb_12⟩ rfl ?_
     refine al_ro' (ro_move (u2 rfl (u4 rfl s7_5))) ⟨_, rfl, (up_m rfl hb_12)⟩ rfl ?_
     refine al_ro' (ro_eq (ro_ix y17_sl67 (up_m rfl up_h) up_h (by omega) (by first | (refine idx_map ?_; first | omega | (simp only [lnS]; omega)) | (refine idx_mapI ?_; first | omega | (simp only [lnS]; omega)) | (refine idx_mapN ?_; first | omega | (simp only [lnS]; omega)) | rfl)) (by simp only [packA_t, packA_f, iE, bE, setAt, cellsA, Value.cells, map_vc, map_vn, Nat.reduceAdd, qS] <;> rfl)) ⟨_, rfl, (u2 rfl hb_12)⟩ rfl ?_
     refine al_ro' (ro_eq (ro_ld_ref y17_ty3 rfl up_h (by exact Nat.le_of_ble_eq_true rfl)) (by simp only [packA_t, packA_f, iE, bE, setAt, cellsA, Value.cells, map_vc, map_vn, Nat.reduceAdd, qS] <;> rfl)) ⟨_, rfl, (up_m rfl (u2 rfl hb_12))⟩ rfl ?_
     refine al_ro' (ro_move (up_m rfl (u8 rfl s1_5))) ⟨_, rfl, (u4 rfl hb_12)⟩ rfl ?_
     refine al_ro' (ro_eql (up_m rfl up_h) up_h) ⟨_, rfl, (up_m rfl (u4 rfl hb_12))⟩ rfl ?_
     refine al_ro' (ro_move up_h) ⟨_, rfl, (u2 rfl (u4 rfl hb_12))⟩ rfl ?_
     refine al_case up_h (fun hb_13 hq_13 => ?_) (fun hb_13 hq_13 => ?_)
     ·replace hq_13 := bt hq_13
      refine al_skip' ⟨_, rfl, .inl hb_13⟩ rfl ?_
      refine al_skip' ⟨_, rfl, .inl (up_m rfl hb_13)⟩ rfl ?_
      refine al_skip' ⟨_, rfl, .inl (u2 rfl hb_13)⟩ rfl ?_
      refine al_skip' ⟨_, rfl, .inl (up_m rfl (u2 rfl hb_13))⟩ rfl ?_
      refine al_skip' ⟨_, rfl, .inl (u4 rfl hb_13)⟩ rfl ?_
      refine al_skip' ⟨_, rfl, .inl (up_m rfl (u4 rfl hb_13))⟩ rfl ?_
      refine al_skip' ⟨_, rfl, .inr up_h⟩ rfl ?_
      refine al_skip' ⟨_, rfl, .inr (up_m rfl up_h)⟩ rfl ?_
      refine al_skip' ⟨_, rfl, .inl (u8 rfl hb_13)⟩ rfl ?_
      refine al_ro' (ro_pickT (up_m rfl (u8 rfl hb_13)) ev_c) ⟨_, rfl, (u16 rfl hb_12)⟩ rfl ?_
      refine al_ro' (ro_pickT (up_m rfl (u16 rfl hb_12)) up_h) trivial rfl ?_
      refine al_ro' (ro_assign (u2 rfl (u4 rfl (u16 rfl up_h)))) trivial rfl ?_
      refine al_ro' (ro_assign (up_m rfl up_h)) trivial rfl ?_
      refine al_end (fun e_14 he_14 => ?_)
      have s4_14 := ef 4 he_14 (up_m rfl up_h)
      have s5_14 := ef 5 he_14 up_h
      clear he_14 hb_12 hb_13 s0_5 s15_5 s1_5 s6_5 s7_5 s8_5
      refine then_n ?_
      refine aw_ret ?_
      refine ret2 (.inr rfl) (by kernel_rfl) (resV_tmp s4_14) (resV_tmp s5_14) (.ro _ rfl) (.ro _ rfl) ?_
      clear s4_14 s5_14  ml_4
      (have hlo := lowN_eq (by omega) p4 (show Abo xs t i.toNat by rwa [show i.toNat = j.toNat by omega]); have hi : ((i.toNat : Nat) : Int) = i := (by omega); rw [hlo, hi]; refine congrArg (fun b => AV.tuple [mA i, tbA b]) ?_; symm; first | exact decide_eq_true ⟨by omega, by assumption⟩ | exact decide_eq_false (fun h => absurd h.2 (by assumption)) | exact decide_eq_false (fun h => by have := h.1; omega))
     replace hq_13 := bf hq_13
     refine al_ro' (ro_move (u4 rfl (u8 rfl s0_5))) ⟨_, rfl, hb_13⟩ rfl ?_
     refine al_ro' (ro_move (up_m rfl (u4 rfl (u8 rfl s7_5)))) ⟨_, rfl, (up_m rfl hb_13)⟩ rfl ?_
     refine al_ro' (ro_eq (ro_ix y17_sl67 (up_m rfl up_h) up_h (by omega) (by first | (refine idx_map ?_; first | omega | (simp only [lnS]; omega)) | (refine idx_mapI ?_; first | omega | (simp only [lnS]; omega)) | (refine idx_mapN ?_; first | omega | (simp only [lnS]; omega)) | rfl)) (by simp only [packA_t, packA_f, iE, bE, setAt, cellsA, Value.cells, map_vc, map_vn, Nat.reduceAdd, qS] <;> rfl)) ⟨_, rfl, (u2 rfl hb_13)⟩ rfl ?_
     refine al_ro' (ro_eq (ro_ld_ref y17_ty3 rfl up_h (by exact Nat.le_of_ble_eq_true rfl)) (by simp only [packA_t, packA_f, iE, bE, setAt, cellsA, Value.cells, map_vc, map_vn, Nat.reduceAdd, qS] <;> rfl)) ⟨_, rfl, (up_m rfl (u2 rfl hb_13))⟩ rfl ?_
     refine al_ro' (ro_call (evL_cons up_h evL_nil) rfl (sNaN_ok _) y17_hcf94) ⟨_, rfl, (u4 rfl hb_13)⟩ rfl ?_
     refine al_ro' (ro_move up_h) ⟨_, rfl, (up_m rfl (u4 rfl hb_13))⟩ rfl ?_
     refine al_case up_h (fun hb_15 hq_15 => ?_) (fun hb_15 hq_15 => ?_)
     · cases hq_15
     refine al_skip' ⟨_, rfl, .inl hb_15⟩ rfl ?_
     refine al_skip' ⟨_, rfl, .inl (up_m rfl hb_15)⟩ rfl ?_
     refine al_ro' (ro_pickF (u2 rfl hb_15) ev_c) ⟨_, rfl, (u8 rfl hb_13)⟩ rfl ?_
     refine al_ro' (ro_pickF (up_m rfl (u8 rfl hb_13)) up_h) ⟨_, rfl, (u16 rfl hb_12)⟩ rfl ?_
     refine al_ro' (ro_pickT (up_m rfl (u16 rfl hb_12)) up_h) trivial rfl ?_
     refine al_ro' (ro_assign (u2 rfl (u4 rfl (u16 rfl up_h)))) trivial rfl ?_
     refine al_ro' (ro_assign (up_m rfl up_h)) trivial rfl ?_
     refine al_end (fun e_17 he_17 => ?_)
     have s4_17 := ef 4 he_17 (up_m rfl up_h)
     have s5_17 := ef 5 he_17 up_h
     clear he_17 hb_12 hb_13 hb_15 s0_5 s15_5 s1_5 s6_5 s7_5 s8_5
     refine then_n ?_
     refine aw_ret ?_
     refine ret2 (.inr rfl) (by kernel_rfl) (resV_tmp s4_17) (resV_tmp s5_17) (.ro _ rfl) (.ro _ rfl) ?_
     clear s4_17 s5_17  ml_4
     (have hlo := lowN_eq (by omega) p4 (show Abo xs t i.toNat by rwa [show i.toNat = j.toNat by omega]); have hi : ((i.toNat : Nat) : Int) = i := (by omega); rw [hlo, hi]; refine congrArg (fun b => AV.tuple [mA i, tbA b]) ?_; symm; first | exact decide_eq_true ⟨by omega, by assumption⟩ | exact decide_eq_false (fun h => absurd h.2 (by assumption)) | exact decide_eq_false (fun h => by have := h.1; omega))
    replace hq_12 := bf hq_12
    refine al_skip' ⟨_, rfl, .inl hb_12⟩ rfl ?_
    refine al_skip' ⟨_, rfl, .inl (up_m rfl hb_12)⟩ rfl ?_
    refine al_skip' ⟨_, rfl, .inl (u2 rfl hb_12)⟩ rfl ?_
    refine al_skip' ⟨_, rfl, .inl (up_m rfl (u2 rfl hb_12))⟩ rfl ?_
    refine al_skip' ⟨_, rfl, .inl (u4 rfl hb_12)⟩ rfl ?_
    refine al_skip' ⟨_, rfl, .inl (up_m rfl (u4 rfl hb_12))⟩ rfl ?_
    refine al_skip' ⟨_, rfl, .inl (u2 rfl (u4 rfl hb_12))⟩ rfl ?_
    refine al_skip' ⟨_, rfl, .inr up_h⟩ rfl ?_
    refine al_skip' ⟨_, rfl, .inr (up_m rfl up_h)⟩ rfl ?_
    refine al_skip' ⟨_, rfl, .inr (u2 rfl up_h)⟩ rfl ?_
    refine al_skip' ⟨_, rfl, .inr (up_m rfl (u2 rfl up_h))⟩ rfl ?_
    refine al_skip' ⟨_, rfl, .inr (u4 rfl up_h)⟩ rfl ?_
    refine al_skip' ⟨_, rfl, .inr (up_m rfl (u4 rfl up_h))⟩ rfl ?_
    refine al_skip' ⟨_, rfl, .inr up_h⟩ rfl ?_
    refine al_skip' ⟨_, rfl, .inr (up_m rfl up_h)⟩ rfl ?_
    refine al_skip' ⟨_, rfl, .inr (u8 rfl up_h)⟩ rfl ?_
    refine al_skip' ⟨_, rfl, .inl (u16 rfl hb_12)⟩ rfl ?_
    refine al_ro' (ro_pickF (up_m rfl (u16 rfl hb_12)) ev_c) trivial rfl ?_
    refine al_ro' (ro_assign (u2 rfl (u4 rfl (u16 rfl up_h)))) trivial rfl ?_
    refine al_ro' (ro_assign (up_m rfl up_h)) trivial rfl ?_
    refine al_end (fun e_18 he_18 => ?_)
    have s4_18 := ef 4 he_18 (up_m rfl up_h)
    have s5_18 := ef 5 he_18 up_h
    clear he_18 hb_12 s0_5 s15_5 s1_5 s6_5 s7_5 s8_5
    refine then_n ?_
    refine aw_ret ?_
    refine ret2 (.inr rfl) (by kernel_rfl) (resV_tmp s4_18) (resV_tmp s5_18) (.ro _ rfl) (.ro _ rfl) ?_
    clear s4_18 s5_18  ml_4
    (have hlo := lowN_eq (by omega) p4 (show Abo xs t i.toNat by rwa [show i.toNat = j.toNat by omega]); have hi : ((i.toNat : Nat) : Int) = i := (by omega); rw [hlo, hi]; refine congrArg (fun b => AV.tuple [mA i, tbA b]) ?_; symm; first | exact decide_eq_true ⟨by omega, by assumption⟩ | exact decide_eq_false (fun h => absurd h.2 (by assumption)) | exact decide_eq_false (fun h => by have := h.1; omega))
/-- The last beam whose first joint is at most at a place. -/
def beaN (bs : List Bea) (p : Int) : Nat → Nat
  | 0 => 0
  | n + 1 => if plaP bs n ≤ p then n else beaN bs p n
theorem beaN_at {bs : List Bea} {p : Int} (h0 : 0 ≤ p) : ∀ {n : Nat}, 1 ≤ n → beaN bs p n < n ∧ plaP bs (beaN bs p n) ≤ p ∧ ∀ j : Nat, beaN bs p n < j → j < n → p < plaP bs j
  | n + 1, _ => by
    simp only [beaN]
    by_cases h : plaP bs n ≤ p
    · rw [if_pos h]; exact ⟨by omega, h, fun j h1 h2 => by omega⟩
    · rw [if_neg h]
      rcases Nat.eq_zero_or_pos n with hn | hn
      · subst hn; simp [plaP] at h; omega
      · obtain ⟨h1, h2, h3⟩ := beaN_at (bs := bs) h0 (n := n) hn
        refine ⟨by omega, h2, fun j h4 h5 => ?_⟩
        by_cases hj : j = n
        · subst hj; omega
        · exact h3 j h4 (by omega)
theorem Rgt.mono {l : Lin} (h : Rgt l) {i : Nat} : ∀ {j : Nat}, i ≤ j → j ≤ l.bs.length → plaP l.bs i + 1000 * ((j : Int) - i) ≤ plaP l.bs j
  | 0, h1, _ => by obtain rfl : i = 0 := by omega
                   omega
  | j + 1, h1, h2 => by
    by_cases hij : i = j + 1
    · subst hij; omega
    · have := h.mono (i := i) (j := j) (by omega) (by omega)
      have := h.bea j (by omega)
      simp only [plaP]
      omega
theorem beaN_is {l : Lin} (h : Rgt l) {p : Int} {i : Nat} (hi : i < l.bs.length) (h1 : plaP l.bs i ≤ p) (h2 : i + 1 < l.bs.length → p < plaP l.bs (i + 1)) : beaN l.bs p l.bs.length = i := by
  have h0 : 0 ≤ p := by have := (h.pla (n := i) (by omega)).1; omega
  obtain ⟨b1, b2, b3⟩ := beaN_at (bs := l.bs) h0 (n := l.bs.length) h.n0
  rcases Nat.lt_trichotomy (beaN l.bs p l.bs.length) i with hlt | he | hgt
  · have := b3 i hlt hi; omega
  · exact he
  · have := h.mono (i := i + 1) (j := beaN l.bs p l.bs.length) (by omega) (by omega)
    have := h2 (by omega)
    omega
theorem Rgt.srt {l : Lin} (h : Rgt l) : Srt (plaL l.bs l.bs.length) := fun i j hij hj => by
  rw [plaL_len] at hj
  rw [plaL_get (by omega), plaL_get (by omega)]
  have := h.mono hij (by omega)
  omega
theorem lowN_at {xs : List Int} {t : Int} : lowN xs t ≤ xs.length ∧ Blw xs t (lowN xs t) ∧ (lowN xs t < xs.length → t ≤ xs.getD (lowN xs t) default) := by
  induction xs with
  | nil => exact ⟨by simp [lowN], fun k hk => by simp [lowN] at hk, fun h => by simp [lowN] at h⟩
  | cons x xs ih =>
    obtain ⟨h1, h2, h3⟩ := ih
    by_cases hx : x < t
    · have e : lowN (x :: xs) t = lowN xs t + 1 := by simp [lowN, hx]
      rw [e]
      refine ⟨by simp; omega, fun k hk => ?_, fun h => ?_⟩
      · cases k with
        | zero => simpa using hx
        | succ k => have := h2 k (by omega); simpa using this
      · have := h3 (by simp at h; omega); simpa using this
    · have e : lowN (x :: xs) t = 0 := by simp [lowN, hx]
      rw [e]
      exact ⟨by simp, fun k hk => by omega, fun _ => by simp; omega⟩
/-- What the search comes to is the beam. -/
theorem at_is {l : Lin} (h : Rgt l) {p : Int} (h0 : 0 ≤ p) (h1 : p ≤ plaP l.bs l.bs.length) (i : Nat) (hi : i = lowN (plaL l.bs l.bs.length) p) : i ≤ l.bs.length ∧ (i < l.bs.length + 1 → (plaL l.bs l.bs.length).getD i default = plaP l.bs i) ∧
    (plaP l.bs i = p → (beaN l.bs p l.bs.length : Int) = min (i : Int) (l.bs.length - 1)) ∧ (plaP l.bs i ≠ p → 1 ≤ i ∧ (beaN l.bs p l.bs.length : Int) = min ((i : Int) - 1) (l.bs.length - 1)) := by
  subst hi
  obtain ⟨a1, a2, a3⟩ := lowN_at (xs := plaL l.bs l.bs.length) (t := p)
  rw [plaL_len] at a1 a3
  have hn0 := h.n0
  have hile : lowN (plaL l.bs l.bs.length) p ≤ l.bs.length := by
    rcases Nat.lt_or_ge (lowN (plaL l.bs l.bs.length) p) (l.bs.length + 1) with h2 | h2
    · omega
    · have := a2 l.bs.length (by omega)
      rw [plaL_get (Nat.le_refl _)] at this
      omega
  have a4 := a3 (by omega)
  rw [plaL_get hile] at a4
  have low : ∀ k : Nat, k < lowN (plaL l.bs l.bs.length) p → plaP l.bs k < p := fun k hk => by
    have := a2 k hk; rwa [plaL_get (by omega)] at this
  generalize hi : lowN (plaL l.bs l.bs.length) p = i at *
  refine ⟨hile, fun h => plaL_get (by omega), fun he => ?_, fun hne => ?_⟩
  · by_cases hlast : i = l.bs.length
    · have hb : beaN l.bs p l.bs.length = l.bs.length - 1 := beaN_is h (by omega) (by have := low (l.bs.length - 1) (by omega); omega) (fun hh => by omega)
      rw [hb]; omega
    · have hb : beaN l.bs p l.bs.length = i := beaN_is h (by omega) (by omega) (fun hh => by have := h.mono (i := i) (j := i + 1) (by omega) (by omega); omega)
      rw [hb]; omega
  · have hi1 : 1 ≤ i := by
      rcases Nat.eq_zero_or_pos i with h2 | h2
      · rw [h2] at hne a4; simp only [plaP] at hne a4; omega
      · exact h2
    have hb : beaN l.bs p l.bs.length = i - 1 := beaN_is h (by omega) (by have := low (i - 1) (by omega); omega) (fun hh => by rw [show i - 1 + 1 = i by omega]; omega)
    rw [hb]
    exact ⟨hi1, by omega⟩
set_option maxRecDepth 100000 in
set_option maxHeartbeats 4000000 in
theorem at_ok (l : Lin) (h : Rgt l) (p : Int) (h0 : 0 ≤ p) (h1 : p ≤ plaP l.bs l.bs.length) : FnOk Try.prog 47 [tkA l, mA p] (fun q => q = .tuple [mA (beaN l.bs p l.bs.length), mA (p - plaP l.bs (beaN l.bs p l.bs.length))]) := by
  refine fnOk_of (fn := Try.f47) 40 (by kernel_rfl) rfl (by kernel_rfl) (Nat.le_of_ble_eq_true rfl) ?_
  intro e_0 m_0 hA hm_0
  have s0_0 : evA e_0 (.tmp 0) = _ := hA 0 _ rfl
  have s1_0 : evA e_0 (.tmp 1) = _ := hA 1 _ rfl
  have ml_0 : m_0.length = 0 := by rw [hm_0]; rfl
  clear hA hm_0
  have hn1 := h.n1; have hn0 := h.n0; have hpl := plaL_len (bs := l.bs) (n := l.bs.length); have hpb := h.pla (n := l.bs.length) (Nat.le_refl _); obtain ⟨g1, g2, g3, g4⟩ := at_is h h0 h1 _ rfl; obtain ⟨b1, _, _⟩ := beaN_at (bs := l.bs) h0 (n := l.bs.length) h.n0; have hbp := h.pla (n := beaN l.bs p l.bs.length) (by omega)
  refine aw_seq ?_
  refine aw_text (by kernel_rfl) ?_
  refine al_ro' (ro_assign ev_c) trivial rfl ?_
  refine al_ro' (ro_assign ev_c) trivial rfl ?_
  refine al_end (fun e_1 he_1 => ?_)
  have s0_1 := ef 0 he_1 (u2 rfl s0_0)
  have s1_1 := ef 1 he_1 (u2 rfl s1_0)
  clear he_1 s0_0 s1_0
  refine then_n ?_
  refine aw_seq ?_
  refine aw_text (by kernel_rfl) ?_
  refine al_ro' (ro_move s0_1) trivial rfl ?_
  refine al_ro' (ro_nilR up_h) trivial rfl ?_
  refine al_ro' (ro_eq (ro_fld_ref y17_fl82_1 rfl up_h) (by simp only [packA_t, packA_f, iE, bE, setAt, cellsA, Value.cells, map_vc, map_vn, Nat.reduceAdd, qS] <;> rfl)) trivial rfl ?_
  refine al_ro' (ro_eq (ro_ld_ref y17_ty67 rfl up_h (by exact Nat.le_of_ble_eq_true rfl)) (by simp only [packA_t, packA_f, iE, bE, setAt, cellsA, Value.cells, map_vc, map_vn, Nat.reduceAdd, qS] <;> rfl)) trivial rfl ?_
  refine al_ro' (ro_move (u4 rfl s1_1)) trivial rfl ?_
  refine al_ro' (ro_call (evL_cons (up_m rfl up_h) (evL_cons up_h evL_nil)) rfl (search_ok _ _ h.srt (by omega)) y17_hcf80) trivial rfl ?_
  refine al_ro' (ro_move up_h) trivial rfl ?_
  refine al_ro' (ro_extract up_h rfl) trivial rfl ?_
  refine al_ro' (ro_extract (up_m rfl up_h) rfl) trivial rfl ?_
  refine al_ro' (ro_assign (up_m rfl up_h)) trivial rfl ?_
  refine al_ro' (ro_assign (up_m rfl up_h)) trivial rfl ?_
  refine al_end (fun e_2 he_2 => ?_)
  have s0_2 := ef 0 he_2 (up_m rfl (u2 rfl (u8 rfl s0_1)))
  have s1_2 := ef 1 he_2 (up_m rfl (u2 rfl (u8 rfl s1_1)))
  have s6_2 := ef 6 he_2 (up_m rfl up_h)
  have s7_2 := ef 7 he_2 up_h
  clear he_2 s0_1 s1_1
  refine then_n ?_
  refine aw_seq ?_
  refine aw_seq ?_
  refine aw_text (by kernel_rfl) ?_
  refine al_ro' (ro_move s7_2) trivial rfl ?_
  refine al_ro' (ro_not up_h) trivial rfl ?_
  refine al_end (fun e_3 he_3 => ?_)
  have s0_3 := ef 0 he_3 (u2 rfl s0_2)
  have s1_3 := ef 1 he_3 (u2 rfl s1_2)
  have s6_3 := ef 6 he_3 (u2 rfl s6_2)
  have s18_3 := ef 18 he_3 up_h
  clear he_3 s0_2 s1_2 s6_2 s7_2
  refine then_n ?_
  refine aw_case s18_3 (fun hq_4 => ?_) (fun hq_4 => ?_)
  ·replace hq_4 := bnt hq_4
   (have hf : ¬ (lowN (plaL l.bs l.bs.length) p < (plaL l.bs l.bs.length).length ∧ (plaL l.bs l.bs.length).getD (lowN (plaL l.bs l.bs.length) p) default = p) := (by assumption); have e1 := (g4 (fun he => hf ⟨by omega, by rw [g2 (by omega)]; exact he⟩)).2)
   refine aw_text (by kernel_rfl) ?_
   refine al_ro' (ro_move s6_3) trivial rfl ?_
   (refine al_ro' (ro_sub' up_h ev_c ?_) trivial rfl ?_; · (unfold In64; omega))
   refine al_ro' (ro_assign up_h) trivial rfl ?_
   refine al_end (fun e_5 he_5 => ?_)
   have s0_5 := ef 0 he_5 (up_m rfl (u2 rfl s0_3))
   have s1_5 := ef 1 he_5 (up_m rfl (u2 rfl s1_3))
   have s6_5 := ef 6 he_5 up_h
   clear he_5 s0_3 s18_3 s1_3 s6_3
   refine then_n ?_
   refine aw_seq ?_
   refine aw_text (by kernel_rfl) ?_
   refine al_ro' (ro_move s6_5) trivial rfl ?_
   refine al_ro' (ro_move (up_m rfl s0_5)) trivial rfl ?_
   refine al_ro' (ro_nilR up_h) trivial rfl ?_
   refine al_ro' (ro_eq (ro_fld_ref y17_fl82_0 rfl up_h) (by simp only [packA_t, packA_f, iE, bE, setAt, cellsA, Value.cells, map_vc, map_vn, Nat.reduceAdd, qS] <;> rfl)) trivial rfl ?_
   refine al_ro' (ro_eq (ro_fld_ref y17_fl26_2 rfl up_h) (by simp only [packA_t, packA_f, iE, bE, setAt, cellsA, Value.cells, map_vc, map_vn, Nat.reduceAdd, qS] <;> rfl)) trivial rfl ?_
   refine al_ro' (ro_eq (ro_ld_ref y17_ty23 rfl up_h (by exact Nat.le_of_ble_eq_true rfl)) (by simp only [packA_t, packA_f, iE, bE, setAt, cellsA, Value.cells, map_vc, map_vn, Nat.reduceAdd, qS] <;> rfl)) trivial rfl ?_
   refine al_ro' (ro_eq (ro_len_row up_h rfl y17_sl23.1) (by simp only [lnS] <;> rfl)) trivial rfl ?_
   (refine al_ro' (ro_sub' up_h ev_c ?_) trivial rfl ?_; · (unfold In64; omega))
   refine al_ro' (ro_min (up_m rfl (u2 rfl (u4 rfl up_h))) up_h) trivial rfl ?_
   refine al_ro' (ro_assign up_h) trivial rfl ?_
   refine al_end (fun e_6 he_6 => ?_)
   have s0_6 := ef 0 he_6 (u2 rfl (u8 rfl s0_5))
   have s1_6 := ef 1 he_6 (u2 rfl (u8 rfl s1_5))
   have s6_6 := ef 6 he_6 up_h
   clear he_6 s0_5 s1_5 s6_5
   refine then_n ?_
   refine aw_seq ?_
   refine aw_draw 12 (by kernel_rfl) (by kernel_rfl) (by kernel_rfl) (by kernel_rfl) ?_
   refine ds_ro' (ro_move s6_6) trivial rfl ?_
   refine ds_ro' (ro_move (up_m rfl s1_6)) trivial rfl ?_
   refine ds_ro' (ro_move (u2 rfl s0_6)) trivial rfl ?_
   refine ds_ro' (ro_nilR up_h) trivial rfl ?_
   refine ds_ro' (ro_eq (ro_fld_ref y17_fl82_1 rfl up_h) (by simp only [packA_t, packA_f, iE, bE, setAt, cellsA, Value.cells, map_vc, map_vn, Nat.reduceAdd, qS] <;> rfl)) trivial rfl ?_
   refine ds_ro' (ro_eq (ro_ld_ref y17_ty67 rfl up_h (by exact Nat.le_of_ble_eq_true rfl)) (by simp only [packA_t, packA_f, iE, bE, setAt, cellsA, Value.cells, map_vc, map_vn, Nat.reduceAdd, qS] <;> rfl)) trivial rfl ?_
   refine ds_ro' (ro_move (u2 rfl (u4 rfl s6_6))) trivial rfl ?_
   refine ds_ro' (ro_eq (ro_ix y17_sl67 (up_m rfl up_h) up_h (by omega) (by first | (refine idx_map ?_; first | omega | (simp only [lnS]; omega)) | (refine idx_mapI ?_; first | omega | (simp only [lnS]; omega)) | (refine idx_mapN ?_; first | omega | (simp only [lnS]; omega)) | rfl)) (by simp only [packA_t, packA_f, iE, bE, setAt, cellsA, Value.cells, map_vc, map_vn, Nat.reduceAdd, qS] <;> rfl)) trivial rfl ?_
   refine ds_ro' (ro_eq (ro_ld_ref y17_ty3 rfl up_h (by exact Nat.le_of_ble_eq_true rfl)) (by simp only [packA_t, packA_f, iE, bE, setAt, cellsA, Value.cells, map_vc, map_vn, Nat.reduceAdd, qS] <;> rfl)) trivial rfl ?_
   refine ds_ro' (ro_sub (up_m rfl (u2 rfl (u4 rfl up_h))) up_h) trivial rfl ?_
   refine ds_ro' (ro_assign (up_m rfl (u8 rfl up_h))) trivial rfl ?_
   refine ds_ro' (ro_assign (up_m rfl up_h)) trivial rfl ?_
   refine ds_nil ?_
   refine al_end (fun e_7 he_7 => ?_)
   have s4_7 := ef 4 he_7 (up_m rfl up_h)
   have s5_7 := ef 5 he_7 up_h
   clear he_7 s0_6 s1_6 s6_6
   refine then_n ?_
   refine aw_ret ?_
   refine ret2 (.inr rfl) (by kernel_rfl) (resV_tmp s4_7) (resV_tmp s5_7) (.ro _ rfl) (.ro _ rfl) ?_
   clear s4_7 s5_7  ml_0
   (rw [← e1, Int.toNat_natCast, plaL_get (by omega), wrap_in (by unfold In64; omega)])
  replace hq_4 := bnf hq_4
  (have hf : (lowN (plaL l.bs l.bs.length) p < (plaL l.bs l.bs.length).length ∧ (plaL l.bs l.bs.length).getD (lowN (plaL l.bs l.bs.length) p) default = p) := (by assumption); have e1 := g3 (by rw [← g2 (by omega)]; exact hf.2))
  refine aw_skip ?_
  refine then_n ?_
  refine aw_seq ?_
  refine aw_text (by kernel_rfl) ?_
  refine al_ro' (ro_move s6_3) trivial rfl ?_
  refine al_ro' (ro_move (up_m rfl s0_3)) trivial rfl ?_
  refine al_ro' (ro_nilR up_h) trivial rfl ?_
  refine al_ro' (ro_eq (ro_fld_ref y17_fl82_0 rfl up_h) (by simp only [packA_t, packA_f, iE, bE, setAt, cellsA, Value.cells, map_vc, map_vn, Nat.reduceAdd, qS] <;> rfl)) trivial rfl ?_
  refine al_ro' (ro_eq (ro_fld_ref y17_fl26_2 rfl up_h) (by simp only [packA_t, packA_f, iE, bE, setAt, cellsA, Value.cells, map_vc, map_vn, Nat.reduceAdd, qS] <;> rfl)) trivial rfl ?_
  refine al_ro' (ro_eq (ro_ld_ref y17_ty23 rfl up_h (by exact Nat.le_of_ble_eq_true rfl)) (by simp only [packA_t, packA_f, iE, bE, setAt, cellsA, Value.cells, map_vc, map_vn, Nat.reduceAdd, qS] <;> rfl)) trivial rfl ?_
  refine al_ro' (ro_eq (ro_len_row up_h rfl y17_sl23.1) (by simp only [lnS] <;> rfl)) trivial rfl ?_
  (refine al_ro' (ro_sub' up_h ev_c ?_) trivial rfl ?_; · (unfold In64; omega))
  refine al_ro' (ro_min (up_m rfl (u2 rfl (u4 rfl up_h))) up_h) trivial rfl ?_
  refine al_ro' (ro_assign up_h) trivial rfl ?_
  refine al_end (fun e_8 he_8 => ?_)
  have s0_8 := ef 0 he_8 (u2 rfl (u8 rfl s0_3))
  have s1_8 := ef 1 he_8 (u2 rfl (u8 rfl s1_3))
  have s6_8 := ef 6 he_8 up_h
  clear he_8 s0_3 s18_3 s1_3 s6_3
  refine then_n ?_
  refine aw_seq ?_
  refine aw_draw 12 (by kernel_rfl) (by kernel_rfl) (by kernel_rfl) (by kernel_rfl) ?_
  refine ds_ro' (ro_move s6_8) trivial rfl ?_
  refine ds_ro' (ro_move (up_m rfl s1_8)) trivial rfl ?_
  refine ds_ro' (ro_move (u2 rfl s0_8)) trivial rfl ?_
  refine ds_ro' (ro_nilR up_h) trivial rfl ?_
  refine ds_ro' (ro_eq (ro_fld_ref y17_fl82_1 rfl up_h) (by simp only [packA_t, packA_f, iE, bE, setAt, cellsA, Value.cells, map_vc, map_vn, Nat.reduceAdd, qS] <;> rfl)) trivial rfl ?_
  refine ds_ro' (ro_eq (ro_ld_ref y17_ty67 rfl up_h (by exact Nat.le_of_ble_eq_true rfl)) (by simp only [packA_t, packA_f, iE, bE, setAt, cellsA, Value.cells, map_vc, map_vn, Nat.reduceAdd, qS] <;> rfl)) trivial rfl ?_
  refine ds_ro' (ro_move (u2 rfl (u4 rfl s6_8))) trivial rfl ?_
  refine ds_ro' (ro_eq (ro_ix y17_sl67 (up_m rfl up_h) up_h (by omega) (by first | (refine idx_map ?_; first | omega | (simp only [lnS]; omega)) | (refine idx_mapI ?_; first | omega | (simp only [lnS]; omega)) | (refine idx_mapN ?_; first | omega | (simp only [lnS]; omega)) | rfl)) (by simp only [packA_t, packA_f, iE, bE, setAt, cellsA, Value.cells, map_vc, map_vn, Nat.reduceAdd, qS] <;> rfl)) trivial rfl ?_
  refine ds_ro' (ro_eq (ro_ld_ref y17_ty3 rfl up_h (by exact Nat.le_of_ble_eq_true rfl)) (by simp only [packA_t, packA_f, iE, bE, setAt, cellsA, Value.cells, map_vc, map_vn, Nat.reduceAdd, qS] <;> rfl)) trivial rfl ?_
  refine ds_ro' (ro_sub (up_m rfl (u2 rfl (u4 rfl up_h))) up_h) trivial rfl ?_
  refine ds_ro' (ro_assign (up_m rfl (u8 rfl up_h))) trivial rfl ?_
  refine ds_ro' (ro_assign (up_m rfl up_h)) trivial rfl ?_
  refine ds_nil ?_
  refine al_end (fun e_9 he_9 => ?_)
  have s4_9 := ef 4 he_9 (up_m rfl up_h)
  have s5_9 := ef 5 he_9 up_h
  clear he_9 s0_8 s1_8 s6_8
  refine then_n ?_
  refine aw_ret ?_
  refine ret2 (.inr rfl) (by kernel_rfl) (resV_tmp s4_9) (resV_tmp s5_9) (.ro _ rfl) (.ro _ rfl) ?_
  clear s4_9 s5_9  ml_0
  (rw [← e1, Int.toNat_natCast, plaL_get (by omega), wrap_in (by unfold In64; omega)])
end Go.Proofs.Ytlebjleebclmgaa

/- Contracts: a quotient in lowest terms. No conditions on a program. -/
namespace Go.Proofs.Ytlebjleebclmgaa
open Go Go.RowKit Go.Proofs
set_option linter.unusedSimpArgs false
set_option linter.unusedVariables false
theorem y18_az46 : (Try.prog.info? 46).bind (·.zero) = some (.agg #[.int .i64 0, .int .i64 0]) := by kernel_rfl
theorem y18_bz46 : (Try.prog.info? 46).bind (·.zero) = some (.agg #[.int .i64 0, .int .i64 0]) := by kernel_rfl
theorem y18_bu46 : Try.prog.underlying 46 = some (.struct (fsOf Try.prog 46)) := by kernel_rfl
theorem y18_bp46 : ∀ w, ((fsOf Try.prog 46).mapM fun f => Prod.mk f.offset <$> sizeOf f.type : Sem (Array (Nat × Nat))).run Try.prog w = .ok (#[(0, 1), (1, 1)]) w := fun _ => by kernel_rfl
theorem y18_hcf59 : ∀ args w, (callFunc 59 args).run Try.prog w = .ok (.enter 59 args) w := fun _ _ => by kernel_rfl
theorem y18_hcf81 : ∀ args w, (callFunc 81 args).run Try.prog w = .ok (.enter 81 args) w := fun _ _ => by kernel_rfl
theorem y18_sz46 : (Try.prog.info? 46).map (·.size) = some 2 := by kernel_rfl
theorem y18_ty46 : TyIs Try.prog 46 true 2 := ⟨by kernel_rfl, by kernel_rfl⟩

theorem tmod_lt {x y : Int} (hy : y ≠ 0) : (x.tmod y).natAbs < y.natAbs := by rw [Int.natAbs_tmod]; exact Nat.mod_lt _ (Int.natAbs_pos.2 hy)
theorem tmod_gcd (x y : Int) : Int.gcd y (x.tmod y) = Int.gcd x y := by
  unfold Int.gcd
  rw [Int.natAbs_tmod, Nat.gcd_comm y.natAbs, ← Nat.gcd_rec, Nat.gcd_comm]
theorem tdiv_bd {m : Int} (hm : -4000000000000000000 ≤ m ∧ m ≤ 4000000000000000000) (n : Int) : -4000000000000000000 ≤ m.tdiv n ∧ m.tdiv n ≤ 4000000000000000000 := by
  have := Int.natAbs_tdiv_le_natAbs m n
  omega
/-- A quotient in lowest terms. -/
def fraN (n b : Int) : Int := n.tdiv (Int.gcd n b)
def fraD (n b : Int) : Int := b.tdiv (Int.gcd n b)
def frA (x y : Int) : AV := .agg [mA x, mA y]
set_option maxRecDepth 100000 in
set_option maxHeartbeats 4000000 in
theorem frac_ok (n b : Int) (hn : -4000000000000000000 ≤ n ∧ n ≤ 4000000000000000000) (hb : 0 < b ∧ b ≤ 4000000000000000000) : FnOk Try.prog 56 [mA n, mA b] (fun q => q = frA (fraN n b) (fraD n b)) := by
  refine fnOk_of (fn := Try.f56) 26 (by kernel_rfl) rfl (by kernel_rfl) (Nat.le_of_ble_eq_true rfl) ?_
  intro e_0 m_0 hA hm_0
  have s0_0 : evA e_0 (.tmp 0) = _ := hA 0 _ rfl
  have s1_0 : evA e_0 (.tmp 1) = _ := hA 1 _ rfl
  have ml_0 : m_0.length = 0 := by rw [hm_0]; rfl
  clear hA hm_0
  refine aw_seq ?_
  refine aw_text (by kernel_rfl) ?_
  refine al_stm (st_alloc y18_az46 rfl ml_0) trivial rfl (fun m_1 hm_1 => ?_)
  have mo0_1 := m_push hm_1 ml_0
  simp only [packA_t, packA_f, iE, bE, setAt, cellsA, Value.cells, map_vc, map_vn, Nat.reduceAdd, qS] at mo0_1
  have ml_1 := m_push_l hm_1 ml_0
  have ml_1 : _ = 1 := ml_1
  clear hm_1
  refine al_end (fun e_2 he_2 => ?_)
  have s0_2 := ef 0 he_2 (up_m rfl s0_0)
  have s1_2 := ef 1 he_2 (up_m rfl s1_0)
  have s4_2 := ef 4 he_2 up_h
  clear he_2 s0_0 s1_0
  refine then_n ?_
  refine aw_seq ?_
  refine aw_text (by kernel_rfl) ?_
  refine al_ro' (ro_move s0_2) trivial rfl ?_
  refine al_ro' (ro_move (up_m rfl s1_2)) trivial rfl ?_
  refine al_ro' (ro_assign (up_m rfl up_h)) trivial rfl ?_
  refine al_ro' (ro_assign (up_m rfl up_h)) trivial rfl ?_
  refine al_end (fun e_3 he_3 => ?_)
  have s0_3 := ef 0 he_3 (u4 rfl s0_2)
  have s1_3 := ef 1 he_3 (u4 rfl s1_2)
  have s4_3 := ef 4 he_3 (u4 rfl s4_2)
  have s5_3 := ef 5 he_3 (up_m rfl up_h)
  have s6_3 := ef 6 he_3 up_h
  clear he_3 s0_2 s1_2 s4_2
  refine then_n ?_
  refine aw_seq ?_
  refine aw_block ?_
  refine aw_loop (S := (Int × Int)) (fun s e mem => match s with | ⟨x, y⟩ => (evA e (.tmp 5) = .v (.int .i64 x)) ∧ (evA e (.tmp 6) = .v (.int .i64 y)) ∧ (evA e (.tmp 0) = evA e_3 (.tmp 0)) ∧ (evA e (.tmp 1) = evA e_3 (.tmp 1)) ∧ (evA e (.tmp 4) = evA e_3 (.tmp 4)) ∧ (mem[0]? = m_1[0]?) ∧ (mem.length = 1) ∧ (((-4000000000000000000 ≤ x ∧ x ≤ 4000000000000000000) ∧ (-4000000000000000000 ≤ y ∧ y ≤ 4000000000000000000) ∧ Int.gcd x y = Int.gcd n b))) (fun s => match s with | ⟨x, y⟩ => y.natAbs) ⟨_, _⟩ ⟨s5_3, s6_3, rfl, rfl, rfl, rfl, ml_1, ?_⟩ ?_
  · (exact ⟨hn, by omega, rfl⟩)
  · rintro ⟨x, y⟩ e_4 m_4 ⟨s5_4, s6_4, k0_4, k1_4, k4_4, mk0_4, ml_4, hinv⟩
    have s0_4 := k0_4.trans s0_3
    have s1_4 := k1_4.trans s1_3
    have s4_4 := k4_4.trans s4_3
    have mo0_4 := mk0_4.trans mo0_1
    (obtain ⟨p1, p2, p3⟩ := hinv)
    refine aw_seq ?_
    refine aw_seq ?_
    refine aw_text (by kernel_rfl) ?_
    refine al_ro' (ro_move s6_4) trivial rfl ?_
    refine al_ro' (ro_neq up_h ev_c) trivial rfl ?_
    refine al_end (fun e_5 he_5 => ?_)
    have s0_5 := ef 0 he_5 (u2 rfl s0_4)
    have s1_5 := ef 1 he_5 (u2 rfl s1_4)
    have s4_5 := ef 4 he_5 (u2 rfl s4_4)
    have s5_5 := ef 5 he_5 (u2 rfl s5_4)
    have s6_5 := ef 6 he_5 (u2 rfl s6_4)
    have s10_5 := ef 10 he_5 up_h
    clear he_5 s0_4 s1_4 s4_4 s5_4 s6_4
    refine then_n ?_
    refine aw_case s10_5 (fun hq_6 => ?_) (fun hq_6 => ?_)
    ·replace hq_6 := bnt hq_6
     refine aw_skip ?_
     refine then_n ?_
     refine aw_block ?_
     refine aw_draw 6 (by kernel_rfl) (by kernel_rfl) (by kernel_rfl) (by kernel_rfl) ?_
     refine ds_ro' (ro_move s6_5) trivial rfl ?_
     refine ds_ro' (ro_move (up_m rfl s5_5)) trivial rfl ?_
     refine ds_ro' (ro_move (u2 rfl s6_5)) trivial rfl ?_
     refine ds_ro' (ro_rem (up_m rfl up_h) up_h (by omega)) trivial rfl ?_
     refine ds_ro' (ro_assign (up_m rfl (u2 rfl up_h))) trivial rfl ?_
     refine ds_ro' (ro_assign (up_m rfl up_h)) trivial rfl ?_
     refine ds_nil ?_
     refine al_end (fun e_7 he_7 => ?_)
     have s0_7 := ef 0 he_7 (u2 rfl (u4 rfl s0_5))
     have s1_7 := ef 1 he_7 (u2 rfl (u4 rfl s1_5))
     have s4_7 := ef 4 he_7 (u2 rfl (u4 rfl s4_5))
     have s5_7 := ef 5 he_7 (up_m rfl up_h)
     have s6_7 := ef 6 he_7 up_h
     clear he_7 s0_5 s10_5 s1_5 s4_5 s5_5 s6_5
     refine block_n ?_
     refine then_n ?_
     refine ⟨⟨_, _⟩, ⟨s5_7, s6_7, (s0_7.trans s0_3.symm), (s1_7.trans s1_3.symm), (s4_7.trans s4_3.symm), (mo0_4.trans mo0_1.symm), ml_4, ?_⟩, ?_⟩
     · (have hy : y ≠ 0 := (by assumption); have := tmod_lt (x := x) hy; refine ⟨p2, by omega, ?_⟩; rw [tmod_gcd, p3])
     · ((try dsimp only); (exact tmod_lt (by assumption)))
    replace hq_6 := bnf hq_6
    (have hy : y = 0 := (by omega); have hg : max x (-x) = (Int.gcd n b : Int) := (by rw [← p3, hy, Int.gcd_zero_right]; omega); have hgp : 0 < Int.gcd n b := Int.gcd_pos_of_ne_zero_right _ (by omega); have t1 := tdiv_bd hn (max x (-x)); have t2 := tdiv_bd (m := b) (by omega) (max x (-x)))
    refine aw_exit ?_
    refine then_x ?_
    refine then_x ?_
    refine block_hit ?_
    refine then_n ?_
    refine aw_seq ?_
    refine aw_text (by kernel_rfl) ?_
    refine al_ro' (ro_move s5_5) trivial rfl ?_
    refine al_ro' (ro_move (up_m rfl s5_5)) trivial rfl ?_
    (refine al_ro' (ro_neg' up_h ?_) trivial rfl ?_; · (unfold In64; omega))
    refine al_ro' (ro_max (u2 rfl up_h) up_h) trivial rfl ?_
    refine al_ro' (ro_assign up_h) trivial rfl ?_
    refine al_end (fun e_8 he_8 => ?_)
    have s0_8 := ef 0 he_8 (up_m rfl (u4 rfl s0_5))
    have s1_8 := ef 1 he_8 (up_m rfl (u4 rfl s1_5))
    have s4_8 := ef 4 he_8 (up_m rfl (u4 rfl s4_5))
    have s5_8 := ef 5 he_8 up_h
    clear he_8 s0_5 s10_5 s1_5 s4_5 s5_5 s6_5
    refine then_n ?_
    refine aw_seq ?_
    refine aw_draw 7 (by kernel_rfl) (by kernel_rfl) (by kernel_rfl) (by kernel_rfl) ?_
    refine ds_ro' (ro_move s0_8) trivial rfl ?_
    refine ds_ro' (ro_move (up_m rfl s5_8)) trivial rfl ?_
    (refine ds_ro' (ro_quo' (up_m rfl up_h) up_h (by omega) ?_) trivial rfl ?_; · (unfold In64; omega))
    refine ds_ro' (ro_move (up_m rfl (u2 rfl s1_8))) trivial rfl ?_
    refine ds_ro' (ro_move (u4 rfl s5_8)) trivial rfl ?_
    (refine ds_ro' (ro_quo' (up_m rfl up_h) up_h (by omega) ?_) trivial rfl ?_; · (unfold In64; omega))
    refine ds_ro' (ro_build (evP_cons (up_m rfl (u2 rfl up_h)) (evP_cons up_h evP_nil)) y18_bz46 y18_bu46 y18_bp46 rfl) trivial rfl ?_
    refine ds_nil ?_
    refine al_stm (st_store (up_m rfl (u2 rfl (u4 rfl s4_8))) up_h rfl rfl mo0_4 y18_sz46 rfl (by exact Nat.le_of_ble_eq_true rfl)) trivial rfl (fun m_9 hm_9 => ?_)
    have mo0_9 := m_set hm_9 mo0_4
    simp only [packA_t, packA_f, iE, bE, setAt, cellsA, Value.cells, map_vc, map_vn, Nat.reduceAdd, qS] at mo0_9
    have ml_9 := m_set_l hm_9 ml_4
    clear hm_9 mo0_4
    refine al_end (fun e_10 he_10 => ?_)
    have s4_10 := ef 4 he_10 (up_n (up_m rfl (u2 rfl (u4 rfl s4_8))))
    clear he_10 s0_8 s1_8 s4_8 s5_8
    refine then_n ?_
    refine aw_ret ?_
    refine ret1 (.inr rfl) (by kernel_rfl) (resV_cell s4_10 mo0_9 y18_ty46 (by exact Nat.le_of_ble_eq_true rfl) (by simp)) (vw_r (.ro _ rfl)) ?_
    clear s4_10 mo0_9 ml_9
    (unfold frA fraN fraD; rw [hg]; rfl)
set_option maxRecDepth 100000 in
set_option maxHeartbeats 4000000 in
theorem size0_ok (n : Int) (hn : -4000000000000000000 ≤ n ∧ n ≤ 4000000000000000000) : FnOk Try.prog 59 [mA n] (fun q => q = mA n.natAbs) := by
  refine fnOk_of (fn := Try.f59) 7 (by kernel_rfl) rfl (by kernel_rfl) (Nat.le_of_ble_eq_true rfl) ?_
  intro e_0 m_0 hA hm_0
  have s0_0 : evA e_0 (.tmp 0) = _ := hA 0 _ rfl
  have ml_0 : m_0.length = 0 := by rw [hm_0]; rfl
  clear hA hm_0
  refine aw_seq ?_
  refine aw_text (by kernel_rfl) ?_
  refine al_ro' (ro_assign ev_c) trivial rfl ?_
  refine al_end (fun e_1 he_1 => ?_)
  have s0_1 := ef 0 he_1 (up_m rfl s0_0)
  clear he_1 s0_0
  refine then_n ?_
  refine aw_seq ?_
  refine aw_text (by kernel_rfl) ?_
  refine al_ro' (ro_move s0_1) trivial rfl ?_
  refine al_ro' (ro_move (up_m rfl s0_1)) trivial rfl ?_
  (refine al_ro' (ro_neg' up_h ?_) trivial rfl ?_; · (unfold In64; omega))
  refine al_ro' (ro_max (u2 rfl up_h) up_h) trivial rfl ?_
  refine al_ro' (ro_assign up_h) trivial rfl ?_
  refine al_end (fun e_2 he_2 => ?_)
  have s2_2 := ef 2 he_2 up_h
  clear he_2 s0_1
  refine then_n ?_
  refine aw_ret ?_
  refine ret1 (.inr rfl) (by kernel_rfl) (resV_tmp s2_2) (.ro _ rfl) ?_
  clear s2_2  ml_0
  (rw [show max n (-n) = (n.natAbs : Int) by omega])
set_option maxRecDepth 100000 in
set_option maxHeartbeats 4000000 in
theorem gcd_ok (n b : Int) (hn : -4000000000000000000 ≤ n ∧ n ≤ 4000000000000000000) (hb : -4000000000000000000 ≤ b ∧ b ≤ 4000000000000000000) : FnOk Try.prog 81 [mA n, mA b] (fun q => q = mA (Int.gcd n b)) := by
  refine fnOk_of (fn := Try.f81) 13 (by kernel_rfl) rfl (by kernel_rfl) (Nat.le_of_ble_eq_true rfl) ?_
  intro e_0 m_0 hA hm_0
  have s0_0 : evA e_0 (.tmp 0) = _ := hA 0 _ rfl
  have s1_0 : evA e_0 (.tmp 1) = _ := hA 1 _ rfl
  have ml_0 : m_0.length = 0 := by rw [hm_0]; rfl
  clear hA hm_0
  refine aw_seq ?_
  refine aw_text (by kernel_rfl) ?_
  refine al_ro' (ro_assign ev_c) trivial rfl ?_
  refine al_end (fun e_1 he_1 => ?_)
  have s0_1 := ef 0 he_1 (up_m rfl s0_0)
  have s1_1 := ef 1 he_1 (up_m rfl s1_0)
  clear he_1 s0_0 s1_0
  refine then_n ?_
  refine aw_seq ?_
  refine aw_block ?_
  refine aw_loop (S := (Int × Int)) (fun s e mem => match s with | ⟨x, y⟩ => (evA e (.tmp 0) = .v (.int .i64 x)) ∧ (evA e (.tmp 1) = .v (.int .i64 y)) ∧ (mem.length = 0) ∧ (((-4000000000000000000 ≤ x ∧ x ≤ 4000000000000000000) ∧ (-4000000000000000000 ≤ y ∧ y ≤ 4000000000000000000) ∧ Int.gcd x y = Int.gcd n b))) (fun s => match s with | ⟨x, y⟩ => y.natAbs) ⟨_, _⟩ ⟨s0_1, s1_1, ml_0, ?_⟩ ?_
  · (exact ⟨hn, by omega, rfl⟩)
  · rintro ⟨x, y⟩ e_2 m_2 ⟨s0_2, s1_2, ml_2, hinv⟩
    (obtain ⟨p1, p2, p3⟩ := hinv)
    refine aw_seq ?_
    refine aw_seq ?_
    refine aw_text (by kernel_rfl) ?_
    refine al_ro' (ro_move s1_2) trivial rfl ?_
    refine al_ro' (ro_neq up_h ev_c) trivial rfl ?_
    refine al_end (fun e_3 he_3 => ?_)
    have s0_3 := ef 0 he_3 (u2 rfl s0_2)
    have s1_3 := ef 1 he_3 (u2 rfl s1_2)
    have s6_3 := ef 6 he_3 up_h
    clear he_3 s0_2 s1_2
    refine then_n ?_
    refine aw_case s6_3 (fun hq_4 => ?_) (fun hq_4 => ?_)
    ·replace hq_4 := bnt hq_4
     refine aw_skip ?_
     refine then_n ?_
     refine aw_block ?_
     refine aw_draw 6 (by kernel_rfl) (by kernel_rfl) (by kernel_rfl) (by kernel_rfl) ?_
     refine ds_ro' (ro_move s1_3) trivial rfl ?_
     refine ds_ro' (ro_move (up_m rfl s0_3)) trivial rfl ?_
     refine ds_ro' (ro_move (u2 rfl s1_3)) trivial rfl ?_
     refine ds_ro' (ro_rem (up_m rfl up_h) up_h (by omega)) trivial rfl ?_
     refine ds_ro' (ro_assign (up_m rfl (u2 rfl up_h))) trivial rfl ?_
     refine ds_ro' (ro_assign (up_m rfl up_h)) trivial rfl ?_
     refine ds_nil ?_
     refine al_end (fun e_5 he_5 => ?_)
     have s0_5 := ef 0 he_5 (up_m rfl up_h)
     have s1_5 := ef 1 he_5 up_h
     clear he_5 s0_3 s1_3 s6_3
     refine block_n ?_
     refine then_n ?_
     refine ⟨⟨_, _⟩, ⟨s0_5, s1_5, ml_2, ?_⟩, ?_⟩
     · (have hy : y ≠ 0 := (by assumption); have := tmod_lt (x := x) hy; refine ⟨p2, by omega, ?_⟩; rw [tmod_gcd, p3])
     · ((try dsimp only); (exact tmod_lt (by assumption)))
    replace hq_4 := bnf hq_4
    (have hy : y = 0 := (by omega); have hg : (x.natAbs : Int) = (Int.gcd n b : Int) := (by rw [← p3, hy, Int.gcd_zero_right]))
    refine aw_exit ?_
    refine then_x ?_
    refine then_x ?_
    refine block_hit ?_
    refine then_n ?_
    refine aw_seq ?_
    refine aw_text (by kernel_rfl) ?_
    refine al_ro' (ro_move s0_3) trivial rfl ?_
    refine al_ro' (ro_call (evL_cons up_h evL_nil) rfl (size0_ok _ p1) y18_hcf59) trivial rfl ?_
    refine al_ro' (ro_assign up_h) trivial rfl ?_
    refine al_end (fun e_6 he_6 => ?_)
    have s4_6 := ef 4 he_6 up_h
    clear he_6 s0_3 s1_3 s6_3
    refine then_n ?_
    refine aw_ret ?_
    refine ret1 (.inr rfl) (by kernel_rfl) (resV_tmp s4_6) (.ro _ rfl) ?_
    clear s4_6  ml_2
    (rw [hg])
set_option maxRecDepth 100000 in
set_option maxHeartbeats 4000000 in
theorem lowest_ok (n b : Int) (hn : -4000000000000000000 ≤ n ∧ n ≤ 4000000000000000000) (hb : 0 < b ∧ b ≤ 4000000000000000000) : FnOk Try.prog 60 [mA n, mA b] (fun q => q = frA (fraN n b) (fraD n b)) := by
  refine fnOk_of (fn := Try.f60) 20 (by kernel_rfl) rfl (by kernel_rfl) (Nat.le_of_ble_eq_true rfl) ?_
  intro e_0 m_0 hA hm_0
  have s0_0 : evA e_0 (.tmp 0) = _ := hA 0 _ rfl
  have s1_0 : evA e_0 (.tmp 1) = _ := hA 1 _ rfl
  have ml_0 : m_0.length = 0 := by rw [hm_0]; rfl
  clear hA hm_0
  have hgp : 0 < Int.gcd n b := Int.gcd_pos_of_ne_zero_right _ (by omega); have t1 := tdiv_bd hn (Int.gcd n b); have t2 := tdiv_bd (m := b) (by omega) (Int.gcd n b)
  refine aw_seq ?_
  refine aw_text (by kernel_rfl) ?_
  refine al_stm (st_alloc y18_az46 rfl ml_0) trivial rfl (fun m_1 hm_1 => ?_)
  have mo0_1 := m_push hm_1 ml_0
  simp only [packA_t, packA_f, iE, bE, setAt, cellsA, Value.cells, map_vc, map_vn, Nat.reduceAdd, qS] at mo0_1
  have ml_1 := m_push_l hm_1 ml_0
  have ml_1 : _ = 1 := ml_1
  clear hm_1
  refine al_end (fun e_2 he_2 => ?_)
  have s0_2 := ef 0 he_2 (up_m rfl s0_0)
  have s1_2 := ef 1 he_2 (up_m rfl s1_0)
  have s4_2 := ef 4 he_2 up_h
  clear he_2 s0_0 s1_0
  refine then_n ?_
  refine aw_seq ?_
  refine aw_text (by kernel_rfl) ?_
  refine al_ro' (ro_move s0_2) trivial rfl ?_
  refine al_ro' (ro_move (up_m rfl s1_2)) trivial rfl ?_
  refine al_ro' (ro_call (evL_cons (up_m rfl up_h) (evL_cons up_h evL_nil)) rfl (gcd_ok n b hn (by omega)) y18_hcf81) trivial rfl ?_
  refine al_ro' (ro_assign up_h) trivial rfl ?_
  refine al_end (fun e_3 he_3 => ?_)
  have s0_3 := ef 0 he_3 (u4 rfl s0_2)
  have s1_3 := ef 1 he_3 (u4 rfl s1_2)
  have s4_3 := ef 4 he_3 (u4 rfl s4_2)
  have s5_3 := ef 5 he_3 up_h
  clear he_3 s0_2 s1_2 s4_2
  refine then_n ?_
  refine aw_seq ?_
  refine aw_seq ?_
  refine aw_text (by kernel_rfl) ?_
  refine al_ro' (ro_move s1_3) trivial rfl ?_
  refine al_ro' (ro_lss up_h ev_c) trivial rfl ?_
  refine al_end (fun e_4 he_4 => ?_)
  have s0_4 := ef 0 he_4 (u2 rfl s0_3)
  have s1_4 := ef 1 he_4 (u2 rfl s1_3)
  have s4_4 := ef 4 he_4 (u2 rfl s4_3)
  have s5_4 := ef 5 he_4 (u2 rfl s5_3)
  have s10_4 := ef 10 he_4 up_h
  clear he_4 s0_3 s1_3 s4_3 s5_3
  refine then_n ?_
  refine aw_case s10_4 (fun hq_5 => ?_) (fun hq_5 => ?_)
  · replace hq_5 := bt hq_5; exfalso; omega
  replace hq_5 := bf hq_5
  refine aw_skip ?_
  refine then_n ?_
  refine aw_seq ?_
  refine aw_draw 7 (by kernel_rfl) (by kernel_rfl) (by kernel_rfl) (by kernel_rfl) ?_
  refine ds_ro' (ro_move s0_4) trivial rfl ?_
  refine ds_ro' (ro_move (up_m rfl s5_4)) trivial rfl ?_
  (refine ds_ro' (ro_quo' (up_m rfl up_h) up_h (by omega) ?_) trivial rfl ?_; · (unfold In64; omega))
  refine ds_ro' (ro_move (up_m rfl (u2 rfl s1_4))) trivial rfl ?_
  refine ds_ro' (ro_move (u4 rfl s5_4)) trivial rfl ?_
  (refine ds_ro' (ro_quo' (up_m rfl up_h) up_h (by omega) ?_) trivial rfl ?_; · (unfold In64; omega))
  refine ds_ro' (ro_build (evP_cons (up_m rfl (u2 rfl up_h)) (evP_cons up_h evP_nil)) y18_bz46 y18_bu46 y18_bp46 rfl) trivial rfl ?_
  refine ds_nil ?_
  refine al_stm (st_store (up_m rfl (u2 rfl (u4 rfl s4_4))) up_h rfl rfl mo0_1 y18_sz46 rfl (by exact Nat.le_of_ble_eq_true rfl)) trivial rfl (fun m_9 hm_9 => ?_)
  have mo0_9 := m_set hm_9 mo0_1
  simp only [packA_t, packA_f, iE, bE, setAt, cellsA, Value.cells, map_vc, map_vn, Nat.reduceAdd, qS] at mo0_9
  have ml_9 := m_set_l hm_9 ml_1
  clear hm_9 mo0_1
  refine al_end (fun e_10 he_10 => ?_)
  have s4_10 := ef 4 he_10 (up_n (up_m rfl (u2 rfl (u4 rfl s4_4))))
  clear he_10 s0_4 s10_4 s1_4 s4_4 s5_4
  refine then_n ?_
  refine aw_ret ?_
  refine ret1 (.inr rfl) (by kernel_rfl) (resV_cell s4_10 mo0_9 y18_ty46 (by exact Nat.le_of_ble_eq_true rfl) (by simp)) (vw_r (.ro _ rfl)) ?_
  clear s4_10 mo0_9 ml_9
  rfl
end Go.Proofs.Ytlebjleebclmgaa

/- Contracts of chapter 1: how far across and up a place is. No conditions on a program. -/
namespace Go.Proofs.Ytlebjleebclmgaa
open Go Go.RowKit Go.Proofs
set_option linter.unusedSimpArgs false
set_option linter.unusedVariables false
theorem mul_in {x y : Int} (X Y : Nat) (hx : x.natAbs ≤ X) (hy : y.natAbs ≤ Y) : (x * y).natAbs ≤ X * Y := by rw [Int.natAbs_mul]; exact Nat.mul_le_mul hx hy
theorem toNat_suc (n : Nat) : ((n : Int) + 1).toNat = n + 1 := by omega
/-- The beam at a place, how far behind its first joint this is. -/
def atI (l : Lin) (p : Int) : Nat := beaN l.bs p l.bs.length
def atD (l : Lin) (p : Int) : Int := p - plaP l.bs (atI l p)
theorem at_bd {l : Lin} (h : Rgt l) {p : Int} (hp : 0 ≤ p ∧ p ≤ plaP l.bs l.bs.length) : atI l p < l.bs.length ∧ 0 ≤ atD l p ∧ atD l p ≤ (l.bs.getD (atI l p) default).len := by
  obtain ⟨b1, b2, b3⟩ := beaN_at (bs := l.bs) hp.1 (n := l.bs.length) h.n0
  refine ⟨b1, by unfold atD atI; omega, ?_⟩
  unfold atD atI
  by_cases hn : beaN l.bs p l.bs.length + 1 < l.bs.length
  · have := b3 _ (Nat.lt_succ_self _) hn
    simp only [plaP] at this; omega
  · have he : l.bs.length = beaN l.bs p l.bs.length + 1 := by omega
    have h2 := hp.2
    have key : ∀ n b : Nat, n = b + 1 → plaP l.bs n = plaP l.bs b + (l.bs.getD b default).len := fun n b h => by subst h; rfl
    have := key _ _ he
    omega
theorem atX_ok (l : Lin) (h : Rgt l) (p : Int) (hp : 0 ≤ p ∧ p ≤ plaP l.bs l.bs.length) : FnOk Try.prog 47 [tkA l, mA p] (fun q => q = .tuple [mA (atI l p), mA (atD l p)]) := at_ok l h p hp.1 hp.2
end Go.Proofs.Ytlebjleebclmgaa

/- Contracts of chapter 1: how far across and up a place is, the walks. No conditions on a program. -/
namespace Go.Proofs.Ytlebjleebclmgaa
open Go Go.RowKit Go.Proofs
set_option linter.unusedSimpArgs false
set_option linter.unusedVariables false
end Go.Proofs.Ytlebjleebclmgaa

/- Contracts: products and quotients of two words, the limit at a joint where the product is one word. No conditions on a program. -/
namespace Go.Proofs.Ytlebjleebclmgaa
open Go Go.RowKit Go.Proofs
set_option linter.unusedSimpArgs false
set_option linter.unusedVariables false
theorem y21_fl26_1 : FldIs Try.prog 26 1 1 false 1 := by unfold FldIs; kernel_rfl
theorem y21_fl26_2 : FldIs Try.prog 26 2 2 false 1 := by unfold FldIs; kernel_rfl
theorem y21_fl82_0 : FldIs Try.prog 82 0 0 true 4 := by unfold FldIs; kernel_rfl
theorem y21_fl85_0 : FldIs Try.prog 85 0 0 false 1 := by unfold FldIs; kernel_rfl
theorem y21_fl88_0 : FldIs Try.prog 88 0 0 false 1 := by unfold FldIs; kernel_rfl
theorem y21_hcf72 : ∀ args w, (callFunc 72 args).run Try.prog w = .ok (.enter 72 args) w := fun _ _ => by kernel_rfl
theorem y21_hcf77 : ∀ args w, (callFunc 77 args).run Try.prog w = .ok (.enter 77 args) w := fun _ _ => by kernel_rfl
theorem y21_hcf95 : ∀ args w, (callFunc 95 args).run Try.prog w = .ok (.enter 95 args) w := fun _ _ => by kernel_rfl
theorem y21_sl22 : SlIs Try.prog 22 85 4 32 (.agg #[.int .i64 0, .int .i64 0, .int .i64 0, .int .i64 0]) := ⟨by kernel_rfl, by kernel_rfl, by kernel_rfl⟩
theorem y21_sl23 : SlIs Try.prog 23 88 2 16 (.agg #[.int .i64 0, .int .i64 0]) := ⟨by kernel_rfl, by kernel_rfl, by kernel_rfl⟩
theorem y21_ty22 : TyIs Try.prog 22 false 1 := ⟨by kernel_rfl, by kernel_rfl⟩
theorem y21_ty23 : TyIs Try.prog 23 false 1 := ⟨by kernel_rfl, by kernel_rfl⟩
theorem y21_ty3 : TyIs Try.prog 3 false 1 := ⟨by kernel_rfl, by kernel_rfl⟩

abbrev uA (n : Int) : AV := .v (.int .u64 n)
theorem mul_words (x y : Int) : x * y = (x / 4294967296) * (y / 4294967296) * 18446744073709551616 + (x / 4294967296) * (y % 4294967296) * 4294967296 + (x % 4294967296) * (y / 4294967296) * 4294967296 + (x % 4294967296) * (y % 4294967296) := by
  have h1 : x = (x / 4294967296) * 4294967296 + x % 4294967296 := by omega
  have h2 : y = (y / 4294967296) * 4294967296 + y % 4294967296 := by omega
  generalize x / 4294967296 = b at *
  generalize x % 4294967296 = a at *
  generalize y / 4294967296 = d at *
  generalize y % 4294967296 = c at *
  subst h1 h2
  have e1 : b * 4294967296 * (d * 4294967296) = b * d * 18446744073709551616 := by
    rw [Int.mul_assoc, ← Int.mul_assoc 4294967296 d, Int.mul_comm 4294967296 d, Int.mul_assoc d, ← Int.mul_assoc b d]; rfl
  have e2 : b * 4294967296 * c = b * c * 4294967296 := by rw [Int.mul_assoc, Int.mul_comm 4294967296 c, ← Int.mul_assoc]
  have e3 : a * (d * 4294967296) = a * d * 4294967296 := by rw [← Int.mul_assoc]
  rw [Int.add_mul, Int.mul_add, Int.mul_add, e1, e2, e3]
  omega
theorem prod_in {a c : Int} (h1 : 0 ≤ a ∧ a < 4294967296) (h2 : 0 ≤ c ∧ c < 4294967296) : 0 ≤ a * c ∧ a * c ≤ 18446744065119617025 := by
  have := mul_in 4294967295 4294967295 (x := a) (y := c) (by omega) (by omega)
  have := Int.mul_nonneg h1.1 h2.1
  omega
set_option maxRecDepth 100000 in
set_option maxHeartbeats 4000000 in
theorem mul64_ok (x y : Int) (hx : InU64 x) (hy : InU64 y) : FnOk Try.prog 83 [uA x, uA y] (fun q => q = .tuple [uA (x * y / 18446744073709551616), uA (x * y % 18446744073709551616)]) := by
  refine fnOk_of (fn := Try.f83) 51 (by kernel_rfl) rfl (by kernel_rfl) (Nat.le_of_ble_eq_true rfl) ?_
  intro e_0 m_0 hA hm_0
  have s0_0 : evA e_0 (.tmp 0) = _ := hA 0 _ rfl
  have s1_0 : evA e_0 (.tmp 1) = _ := hA 1 _ rfl
  have ml_0 : m_0.length = 0 := by rw [hm_0]; rfl
  clear hA hm_0
  have hx' := hx; have hy' := hy; unfold InU64 at hx' hy'; have q1 := prod_in (a := x % 4294967296) (c := y % 4294967296) (by omega) (by omega); have q2 := prod_in (a := x / 4294967296) (c := y % 4294967296) (by omega) (by omega); have q3 := prod_in (a := x % 4294967296) (c := y / 4294967296) (by omega) (by omega); have q4 := prod_in (a := x / 4294967296) (c := y / 4294967296) (by omega) (by omega); have hm := mul_words x y
  refine aw_seq ?_
  refine aw_text (by kernel_rfl) ?_
  refine al_ro' (ro_assign ev_c) trivial rfl ?_
  refine al_ro' (ro_assign ev_c) trivial rfl ?_
  refine al_end (fun e_1 he_1 => ?_)
  have s0_1 := ef 0 he_1 (u2 rfl s0_0)
  have s1_1 := ef 1 he_1 (u2 rfl s1_0)
  clear he_1 s0_0 s1_0
  refine then_n ?_
  refine aw_seq ?_
  refine aw_text (by kernel_rfl) ?_
  refine al_ro' (ro_move s0_1) trivial rfl ?_
  (refine al_ro' (ro_andL (c := 4294967296) up_h ev_c 32 (by decide) (by decide) (by decide) ?_) trivial rfl ?_; · ((first | unfold In64 | unfold InU64); omega))
  refine al_ro' (ro_assign up_h) trivial rfl ?_
  refine al_end (fun e_2 he_2 => ?_)
  have s0_2 := ef 0 he_2 (up_m rfl (u2 rfl s0_1))
  have s1_2 := ef 1 he_2 (up_m rfl (u2 rfl s1_1))
  have s6_2 := ef 6 he_2 up_h
  clear he_2 s0_1 s1_1
  refine then_n ?_
  refine aw_seq ?_
  refine aw_text (by kernel_rfl) ?_
  refine al_ro' (ro_move s0_2) trivial rfl ?_
  refine al_ro' (ro_shr (c := 4294967296) up_h ev_c (by decide) (by decide)) trivial rfl ?_
  refine al_ro' (ro_assign up_h) trivial rfl ?_
  refine al_end (fun e_3 he_3 => ?_)
  have s0_3 := ef 0 he_3 (up_m rfl (u2 rfl s0_2))
  have s1_3 := ef 1 he_3 (up_m rfl (u2 rfl s1_2))
  have s6_3 := ef 6 he_3 (up_m rfl (u2 rfl s6_2))
  have s7_3 := ef 7 he_3 up_h
  clear he_3 s0_2 s1_2 s6_2
  refine then_n ?_
  refine aw_seq ?_
  refine aw_text (by kernel_rfl) ?_
  refine al_ro' (ro_move s1_3) trivial rfl ?_
  (refine al_ro' (ro_andL (c := 4294967296) up_h ev_c 32 (by decide) (by decide) (by decide) ?_) trivial rfl ?_; · ((first | unfold In64 | unfold InU64); omega))
  refine al_ro' (ro_assign up_h) trivial rfl ?_
  refine al_end (fun e_4 he_4 => ?_)
  have s0_4 := ef 0 he_4 (up_m rfl (u2 rfl s0_3))
  have s1_4 := ef 1 he_4 (up_m rfl (u2 rfl s1_3))
  have s6_4 := ef 6 he_4 (up_m rfl (u2 rfl s6_3))
  have s7_4 := ef 7 he_4 (up_m rfl (u2 rfl s7_3))
  have s8_4 := ef 8 he_4 up_h
  clear he_4 s0_3 s1_3 s6_3 s7_3
  refine then_n ?_
  refine aw_seq ?_
  refine aw_text (by kernel_rfl) ?_
  refine al_ro' (ro_move s1_4) trivial rfl ?_
  refine al_ro' (ro_shr (c := 4294967296) up_h ev_c (by decide) (by decide)) trivial rfl ?_
  refine al_ro' (ro_assign up_h) trivial rfl ?_
  refine al_end (fun e_5 he_5 => ?_)
  have s0_5 := ef 0 he_5 (up_m rfl (u2 rfl s0_4))
  have s1_5 := ef 1 he_5 (up_m rfl (u2 rfl s1_4))
  have s6_5 := ef 6 he_5 (up_m rfl (u2 rfl s6_4))
  have s7_5 := ef 7 he_5 (up_m rfl (u2 rfl s7_4))
  have s8_5 := ef 8 he_5 (up_m rfl (u2 rfl s8_4))
  have s9_5 := ef 9 he_5 up_h
  clear he_5 s0_4 s1_4 s6_4 s7_4 s8_4
  refine then_n ?_
  refine aw_seq ?_
  refine aw_text (by kernel_rfl) ?_
  refine al_ro' (ro_move s6_5) trivial rfl ?_
  refine al_ro' (ro_move (up_m rfl s8_5)) trivial rfl ?_
  (refine al_ro' (ro_mulU (up_m rfl up_h) up_h ?_) trivial rfl ?_; · ((first | unfold In64 | unfold InU64); omega))
  refine al_ro' (ro_assign up_h) trivial rfl ?_
  refine al_end (fun e_6 he_6 => ?_)
  have s0_6 := ef 0 he_6 (u4 rfl s0_5)
  have s1_6 := ef 1 he_6 (u4 rfl s1_5)
  have s6_6 := ef 6 he_6 (u4 rfl s6_5)
  have s7_6 := ef 7 he_6 (u4 rfl s7_5)
  have s8_6 := ef 8 he_6 (u4 rfl s8_5)
  have s9_6 := ef 9 he_6 (u4 rfl s9_5)
  have s10_6 := ef 10 he_6 up_h
  clear he_6 s0_5 s1_5 s6_5 s7_5 s8_5 s9_5
  refine then_n ?_
  refine aw_seq ?_
  refine aw_text (by kernel_rfl) ?_
  refine al_ro' (ro_move s7_6) trivial rfl ?_
  refine al_ro' (ro_move (up_m rfl s8_6)) trivial rfl ?_
  (refine al_ro' (ro_mulU (up_m rfl up_h) up_h ?_) trivial rfl ?_; · ((first | unfold In64 | unfold InU64); omega))
  refine al_ro' (ro_move (up_m rfl (u2 rfl s10_6))) trivial rfl ?_
  refine al_ro' (ro_shr (c := 4294967296) up_h ev_c (by decide) (by decide)) trivial rfl ?_
  (refine al_ro' (ro_addU (u2 rfl up_h) up_h ?_) trivial rfl ?_; · ((first | unfold In64 | unfold InU64); omega))
  refine al_ro' (ro_assign up_h) trivial rfl ?_
  refine al_end (fun e_7 he_7 => ?_)
  have s0_7 := ef 0 he_7 (up_m rfl (u2 rfl (u4 rfl s0_6)))
  have s1_7 := ef 1 he_7 (up_m rfl (u2 rfl (u4 rfl s1_6)))
  have s6_7 := ef 6 he_7 (up_m rfl (u2 rfl (u4 rfl s6_6)))
  have s7_7 := ef 7 he_7 (up_m rfl (u2 rfl (u4 rfl s7_6)))
  have s9_7 := ef 9 he_7 (up_m rfl (u2 rfl (u4 rfl s9_6)))
  have s11_7 := ef 11 he_7 up_h
  clear he_7 s0_6 s10_6 s1_6 s6_6 s7_6 s8_6 s9_6
  refine then_n ?_
  refine aw_seq ?_
  refine aw_text (by kernel_rfl) ?_
  refine al_ro' (ro_move s11_7) trivial rfl ?_
  (refine al_ro' (ro_andL (c := 4294967296) up_h ev_c 32 (by decide) (by decide) (by decide) ?_) trivial rfl ?_; · ((first | unfold In64 | unfold InU64); omega))
  refine al_ro' (ro_assign up_h) trivial rfl ?_
  refine al_end (fun e_8 he_8 => ?_)
  have s0_8 := ef 0 he_8 (up_m rfl (u2 rfl s0_7))
  have s1_8 := ef 1 he_8 (up_m rfl (u2 rfl s1_7))
  have s6_8 := ef 6 he_8 (up_m rfl (u2 rfl s6_7))
  have s7_8 := ef 7 he_8 (up_m rfl (u2 rfl s7_7))
  have s9_8 := ef 9 he_8 (up_m rfl (u2 rfl s9_7))
  have s11_8 := ef 11 he_8 (up_m rfl (u2 rfl s11_7))
  have s12_8 := ef 12 he_8 up_h
  clear he_8 s0_7 s11_7 s1_7 s6_7 s7_7 s9_7
  refine then_n ?_
  refine aw_seq ?_
  refine aw_text (by kernel_rfl) ?_
  refine al_ro' (ro_move s11_8) trivial rfl ?_
  refine al_ro' (ro_shr (c := 4294967296) up_h ev_c (by decide) (by decide)) trivial rfl ?_
  refine al_ro' (ro_assign up_h) trivial rfl ?_
  refine al_end (fun e_9 he_9 => ?_)
  have s0_9 := ef 0 he_9 (up_m rfl (u2 rfl s0_8))
  have s1_9 := ef 1 he_9 (up_m rfl (u2 rfl s1_8))
  have s6_9 := ef 6 he_9 (up_m rfl (u2 rfl s6_8))
  have s7_9 := ef 7 he_9 (up_m rfl (u2 rfl s7_8))
  have s9_9 := ef 9 he_9 (up_m rfl (u2 rfl s9_8))
  have s12_9 := ef 12 he_9 (up_m rfl (u2 rfl s12_8))
  have s13_9 := ef 13 he_9 up_h
  clear he_9 s0_8 s11_8 s12_8 s1_8 s6_8 s7_8 s9_8
  refine then_n ?_
  refine aw_seq ?_
  refine aw_text (by kernel_rfl) ?_
  refine al_ro' (ro_move s12_9) trivial rfl ?_
  refine al_ro' (ro_move (up_m rfl s6_9)) trivial rfl ?_
  refine al_ro' (ro_move (u2 rfl s9_9)) trivial rfl ?_
  (refine al_ro' (ro_mulU (up_m rfl up_h) up_h ?_) trivial rfl ?_; · ((first | unfold In64 | unfold InU64); omega))
  (refine al_ro' (ro_addU (up_m rfl (u2 rfl up_h)) up_h ?_) trivial rfl ?_; · ((first | unfold In64 | unfold InU64); omega))
  refine al_ro' (ro_assign up_h) trivial rfl ?_
  refine al_end (fun e_10 he_10 => ?_)
  have s0_10 := ef 0 he_10 (u2 rfl (u4 rfl s0_9))
  have s1_10 := ef 1 he_10 (u2 rfl (u4 rfl s1_9))
  have s7_10 := ef 7 he_10 (u2 rfl (u4 rfl s7_9))
  have s9_10 := ef 9 he_10 (u2 rfl (u4 rfl s9_9))
  have s12_10 := ef 12 he_10 up_h
  have s13_10 := ef 13 he_10 (u2 rfl (u4 rfl s13_9))
  clear he_10 s0_9 s12_9 s13_9 s1_9 s6_9 s7_9 s9_9
  refine then_n ?_
  refine aw_seq ?_
  refine aw_text (by kernel_rfl) ?_
  refine al_ro' (ro_move s7_10) trivial rfl ?_
  refine al_ro' (ro_move (up_m rfl s9_10)) trivial rfl ?_
  (refine al_ro' (ro_mulU (up_m rfl up_h) up_h ?_) trivial rfl ?_; · ((first | unfold In64 | unfold InU64); omega))
  refine al_ro' (ro_move (up_m rfl (u2 rfl s13_10))) trivial rfl ?_
  (refine al_ro' (ro_addU (up_m rfl up_h) up_h ?_) trivial rfl ?_; · ((first | unfold In64 | unfold InU64); omega))
  refine al_ro' (ro_move (up_m rfl (u4 rfl s12_10))) trivial rfl ?_
  refine al_ro' (ro_shr (c := 4294967296) up_h ev_c (by decide) (by decide)) trivial rfl ?_
  (refine al_ro' (ro_addU (u2 rfl up_h) up_h ?_) trivial rfl ?_; · ((first | unfold In64 | unfold InU64); omega))
  refine al_ro' (ro_assign up_h) trivial rfl ?_
  refine al_end (fun e_11 he_11 => ?_)
  have s0_11 := ef 0 he_11 (up_m rfl (u8 rfl s0_10))
  have s1_11 := ef 1 he_11 (up_m rfl (u8 rfl s1_10))
  have s4_11 := ef 4 he_11 up_h
  clear he_11 s0_10 s12_10 s13_10 s1_10 s7_10 s9_10
  refine then_n ?_
  refine aw_seq ?_
  refine aw_text (by kernel_rfl) ?_
  refine al_ro' (ro_move s0_11) trivial rfl ?_
  refine al_ro' (ro_move (up_m rfl s1_11)) trivial rfl ?_
  refine al_ro' (ro_mul (up_m rfl up_h) up_h) trivial rfl ?_
  refine al_ro' (ro_assign up_h) trivial rfl ?_
  refine al_end (fun e_12 he_12 => ?_)
  have s4_12 := ef 4 he_12 (u4 rfl s4_11)
  have s5_12 := ef 5 he_12 up_h
  clear he_12 s0_11 s1_11 s4_11
  refine then_n ?_
  refine aw_ret ?_
  refine ret2 (.inr rfl) (by kernel_rfl) (resV_tmp s4_12) (resV_tmp s5_12) (.ro _ rfl) (.ro _ rfl) ?_
  clear s4_12 s5_12  ml_0
  (rw [wrapU_eq]; refine congrArg (fun a => AV.tuple [uA a, uA (x * y % 18446744073709551616)]) ?_; omega)
set_option maxRecDepth 100000 in
set_option maxHeartbeats 4000000 in
theorem div64_low (lo y : Int) (hl : InU64 lo) (hy : InU64 y) (h0 : 0 < y) : FnOk Try.prog 84 [uA 0, uA lo, uA y] (fun q => q = .tuple [uA (lo / y), uA (lo % y)]) := by
  refine fnOk_of (fn := Try.f84) 135 (by kernel_rfl) rfl (by kernel_rfl) (Nat.le_of_ble_eq_true rfl) ?_
  intro e_0 m_0 hA hm_0
  have s0_0 : evA e_0 (.tmp 0) = _ := hA 0 _ rfl
  have s1_0 : evA e_0 (.tmp 1) = _ := hA 1 _ rfl
  have s2_0 : evA e_0 (.tmp 2) = _ := hA 2 _ rfl
  have ml_0 : m_0.length = 0 := by rw [hm_0]; rfl
  clear hA hm_0
  have hl' := hl; have hy' := hy; unfold InU64 at hl' hy'
  refine aw_seq ?_
  refine aw_text (by kernel_rfl) ?_
  refine al_ro' (ro_assign ev_c) trivial rfl ?_
  refine al_ro' (ro_assign ev_c) trivial rfl ?_
  refine al_end (fun e_1 he_1 => ?_)
  have s0_1 := ef 0 he_1 (u2 rfl s0_0)
  have s1_1 := ef 1 he_1 (u2 rfl s1_0)
  have s2_1 := ef 2 he_1 (u2 rfl s2_0)
  clear he_1 s0_0 s1_0 s2_0
  refine then_n ?_
  refine aw_seq ?_
  refine aw_seq ?_
  refine aw_text (by kernel_rfl) ?_
  refine al_ro' (ro_move s2_1) trivial rfl ?_
  refine al_ro' (ro_eql up_h ev_c) trivial rfl ?_
  refine al_end (fun e_2 he_2 => ?_)
  have s0_2 := ef 0 he_2 (u2 rfl s0_1)
  have s1_2 := ef 1 he_2 (u2 rfl s1_1)
  have s2_2 := ef 2 he_2 (u2 rfl s2_1)
  have s20_2 := ef 20 he_2 up_h
  clear he_2 s0_1 s1_1 s2_1
  refine then_n ?_
  refine aw_case s20_2 (fun hq_3 => ?_) (fun hq_3 => ?_)
  · replace hq_3 := bt hq_3; exfalso; omega
  replace hq_3 := bf hq_3
  refine aw_skip ?_
  refine then_n ?_
  refine aw_seq ?_
  refine aw_seq ?_
  refine aw_text (by kernel_rfl) ?_
  refine al_ro' (ro_move s2_2) trivial rfl ?_
  refine al_ro' (ro_move (up_m rfl s0_2)) trivial rfl ?_
  refine al_ro' (ro_leq (up_m rfl up_h) up_h) trivial rfl ?_
  refine al_end (fun e_4 he_4 => ?_)
  have s0_4 := ef 0 he_4 (up_m rfl (u2 rfl s0_2))
  have s1_4 := ef 1 he_4 (up_m rfl (u2 rfl s1_2))
  have s2_4 := ef 2 he_4 (up_m rfl (u2 rfl s2_2))
  have s24_4 := ef 24 he_4 up_h
  clear he_4 s0_2 s1_2 s20_2 s2_2
  refine then_n ?_
  refine aw_case s24_4 (fun hq_5 => ?_) (fun hq_5 => ?_)
  · replace hq_5 := bt hq_5; exfalso; omega
  replace hq_5 := bf hq_5
  refine aw_skip ?_
  refine then_n ?_
  refine aw_seq ?_
  refine aw_seq ?_
  refine aw_text (by kernel_rfl) ?_
  refine al_ro' (ro_move s0_4) trivial rfl ?_
  refine al_ro' (ro_eql up_h ev_c) trivial rfl ?_
  refine al_end (fun e_6 he_6 => ?_)
  have s0_6 := ef 0 he_6 (u2 rfl s0_4)
  have s1_6 := ef 1 he_6 (u2 rfl s1_4)
  have s2_6 := ef 2 he_6 (u2 rfl s2_4)
  have s27_6 := ef 27 he_6 up_h
  clear he_6 s0_4 s1_4 s24_4 s2_4
  refine then_n ?_
  refine aw_case s27_6 (fun hq_7 => ?_) (fun hq_7 => ?_)
  ·replace hq_7 := bt hq_7
   refine aw_seq ?_
   refine aw_draw 8 (by kernel_rfl) (by kernel_rfl) (by kernel_rfl) (by kernel_rfl) ?_
   refine ds_ro' (ro_move s1_6) trivial rfl ?_
   refine ds_ro' (ro_move (up_m rfl s2_6)) trivial rfl ?_
   (refine ds_ro' (ro_quoU (up_m rfl up_h) up_h (by omega) ?_) trivial rfl ?_; · ((first | unfold In64 | unfold InU64); omega))
   refine ds_ro' (ro_move (up_m rfl (u2 rfl s1_6))) trivial rfl ?_
   refine ds_ro' (ro_move (u4 rfl s2_6)) trivial rfl ?_
   (refine ds_ro' (ro_remU (up_m rfl up_h) up_h (by omega) ?_) trivial rfl ?_; · ((first | unfold In64 | unfold InU64); omega))
   refine ds_ro' (ro_assign (up_m rfl (u2 rfl up_h))) trivial rfl ?_
   refine ds_ro' (ro_assign (up_m rfl up_h)) trivial rfl ?_
   refine ds_nil ?_
   refine al_end (fun e_8 he_8 => ?_)
   have s6_8 := ef 6 he_8 (up_m rfl up_h)
   have s7_8 := ef 7 he_8 up_h
   clear he_8 s0_6 s1_6 s27_6 s2_6
   refine then_n ?_
   refine aw_ret ?_
   refine then_r ?_
   refine ret2 (.inr rfl) (by kernel_rfl) (resV_tmp s6_8) (resV_tmp s7_8) (.ro _ rfl) (.ro _ rfl) ?_
   clear s6_8 s7_8  ml_0
   rfl
  · replace hq_7 := bf hq_7; exfalso; omega
set_option maxRecDepth 100000 in
set_option maxHeartbeats 1000000 in
theorem compare_ok (m n : Int) : FnOk Try.prog 82 [mA m, mA n] (fun q => q = mA (if m < n then -1 else if n < m then 1 else 0)) := by
  refine fnOk_of (fn := Try.f82) 20 (by kernel_rfl) rfl (by kernel_rfl) (Nat.le_of_ble_eq_true rfl) ?_
  intro e_0 m_0 hA hm_0
  have s0_0 : evA e_0 (.tmp 0) = _ := hA 0 _ rfl
  have s1_0 : evA e_0 (.tmp 1) = _ := hA 1 _ rfl
  have ml_0 : m_0.length = 0 := by rw [hm_0]; rfl
  clear hA hm_0
  refine aw_seq ?_
  refine aw_text (by kernel_rfl) ?_
  refine al_ro' (ro_assign ev_c) trivial rfl ?_
  refine al_end (fun e_1 he_1 => ?_)
  have s0_1 := ef 0 he_1 (up_m rfl s0_0)
  have s1_1 := ef 1 he_1 (up_m rfl s1_0)
  clear he_1 s0_0 s1_0
  refine then_n ?_
  refine aw_seq ?_
  refine aw_text (by kernel_rfl) ?_
  refine al_ro' (ro_move s0_1) trivial rfl ?_
  refine al_ro' (ro_call (evL_cons up_h evL_nil) rfl (cNaN_ok _) y21_hcf95) trivial rfl ?_
  refine al_ro' (ro_assign up_h) trivial rfl ?_
  refine al_end (fun e_2 he_2 => ?_)
  have s0_2 := ef 0 he_2 (up_m rfl (u2 rfl s0_1))
  have s1_2 := ef 1 he_2 (up_m rfl (u2 rfl s1_1))
  have s5_2 := ef 5 he_2 up_h
  clear he_2 s0_1 s1_1
  refine then_n ?_
  refine aw_seq ?_
  refine aw_text (by kernel_rfl) ?_
  refine al_ro' (ro_move s1_2) trivial rfl ?_
  refine al_ro' (ro_call (evL_cons up_h evL_nil) rfl (cNaN_ok _) y21_hcf95) trivial rfl ?_
  refine al_ro' (ro_assign up_h) trivial rfl ?_
  refine al_end (fun e_3 he_3 => ?_)
  have s0_3 := ef 0 he_3 (up_m rfl (u2 rfl s0_2))
  have s1_3 := ef 1 he_3 (up_m rfl (u2 rfl s1_2))
  have s5_3 := ef 5 he_3 (up_m rfl (u2 rfl s5_2))
  have s6_3 := ef 6 he_3 up_h
  clear he_3 s0_2 s1_2 s5_2
  refine then_n ?_
  refine aw_seq ?_
  refine aw_seq ?_
  refine aw_text (by kernel_rfl) ?_
  refine al_ro' (ro_move s5_3) trivial rfl ?_
  refine al_end (fun e_4 he_4 => ?_)
  have s0_4 := ef 0 he_4 (up_m rfl s0_3)
  have s1_4 := ef 1 he_4 (up_m rfl s1_3)
  have s6_4 := ef 6 he_4 (up_m rfl s6_3)
  have s11_4 := ef 11 he_4 up_h
  clear he_4 s0_3 s1_3 s5_3 s6_3
  refine then_n ?_
  refine aw_case s11_4 (fun hq_5 => ?_) (fun hq_5 => ?_)
  · cases hq_5
  refine aw_skip ?_
  refine then_n ?_
  refine aw_seq ?_
  refine aw_seq ?_
  refine aw_text (by kernel_rfl) ?_
  refine al_ro' (ro_move s6_4) trivial rfl ?_
  refine al_end (fun e_10 he_10 => ?_)
  have s0_10 := ef 0 he_10 (up_m rfl s0_4)
  have s1_10 := ef 1 he_10 (up_m rfl s1_4)
  have s13_10 := ef 13 he_10 up_h
  clear he_10 s0_4 s11_4 s1_4 s6_4
  refine then_n ?_
  refine aw_case s13_10 (fun hq_11 => ?_) (fun hq_11 => ?_)
  · cases hq_11
  refine aw_skip ?_
  refine then_n ?_
  refine aw_seq ?_
  refine aw_seq ?_
  refine aw_text (by kernel_rfl) ?_
  refine al_ro' (ro_move s0_10) trivial rfl ?_
  refine al_ro' (ro_move (up_m rfl s1_10)) trivial rfl ?_
  refine al_ro' (ro_lss (up_m rfl up_h) up_h) trivial rfl ?_
  refine al_end (fun e_13 he_13 => ?_)
  have s0_13 := ef 0 he_13 (up_m rfl (u2 rfl s0_10))
  have s1_13 := ef 1 he_13 (up_m rfl (u2 rfl s1_10))
  have s16_13 := ef 16 he_13 up_h
  clear he_13 s0_10 s13_10 s1_10
  refine then_n ?_
  refine aw_case s16_13 (fun hq_14 => ?_) (fun hq_14 => ?_)
  ·replace hq_14 := bt hq_14
   refine aw_seq ?_
   refine aw_text (by kernel_rfl) ?_
   refine al_ro' (ro_assign ev_c) trivial rfl ?_
   refine al_end (fun e_15 he_15 => ?_)
   have s4_15 := ef 4 he_15 up_h
   clear he_15 s0_13 s16_13 s1_13
   refine then_n ?_
   refine aw_ret ?_
   refine then_r ?_
   refine ret1 (.inr rfl) (by kernel_rfl) (resV_tmp s4_15) (.ro _ rfl) ?_
   clear s4_15  ml_0
   (simp_all; try omega)
  replace hq_14 := bf hq_14
  refine aw_skip ?_
  refine then_n ?_
  refine aw_seq ?_
  refine aw_seq ?_
  refine aw_text (by kernel_rfl) ?_
  refine al_ro' (ro_move s0_13) trivial rfl ?_
  refine al_ro' (ro_move (up_m rfl s1_13)) trivial rfl ?_
  refine al_ro' (ro_gtr (up_m rfl up_h) up_h) trivial rfl ?_
  refine al_end (fun e_16 he_16 => ?_)
  have s19_16 := ef 19 he_16 up_h
  clear he_16 s0_13 s16_13 s1_13
  refine then_n ?_
  refine aw_case s19_16 (fun hq_17 => ?_) (fun hq_17 => ?_)
  ·replace hq_17 := bt hq_17
   refine aw_seq ?_
   refine aw_text (by kernel_rfl) ?_
   refine al_ro' (ro_assign ev_c) trivial rfl ?_
   refine al_end (fun e_18 he_18 => ?_)
   have s4_18 := ef 4 he_18 up_h
   clear he_18 s19_16
   refine then_n ?_
   refine aw_ret ?_
   refine then_r ?_
   refine ret1 (.inr rfl) (by kernel_rfl) (resV_tmp s4_18) (.ro _ rfl) ?_
   clear s4_18  ml_0
   (simp_all; try omega)
  replace hq_17 := bf hq_17
  refine aw_skip ?_
  refine then_n ?_
  refine aw_seq ?_
  refine aw_text (by kernel_rfl) ?_
  refine al_ro' (ro_assign ev_c) trivial rfl ?_
  refine al_end (fun e_19 he_19 => ?_)
  have s4_19 := ef 4 he_19 up_h
  clear he_19 s19_16
  refine then_n ?_
  refine aw_ret ?_
  refine ret1 (.inr rfl) (by kernel_rfl) (resV_tmp s4_19) (.ro _ rfl) ?_
  clear s4_19  ml_0
  (simp_all; try omega)
set_option maxRecDepth 100000 in
set_option maxHeartbeats 1000000 in
theorem sideErr_ok (n : Int) : FnOk Try.prog 63 [mA n] (fun q => q = mA (unlessE (withinB n 0 5000) 2)) := by
  refine fnOk_of (fn := Try.f63) 6 (by kernel_rfl) rfl (by kernel_rfl) (Nat.le_of_ble_eq_true rfl) ?_
  intro e_0 m_0 hA hm_0
  have s0_0 : evA e_0 (.tmp 0) = _ := hA 0 _ rfl
  have ml_0 : m_0.length = 0 := by rw [hm_0]; rfl
  clear hA hm_0
  refine aw_seq ?_
  refine aw_text (by kernel_rfl) ?_
  refine al_ro' (ro_assign ev_c) trivial rfl ?_
  refine al_end (fun e_1 he_1 => ?_)
  have s0_1 := ef 0 he_1 (up_m rfl s0_0)
  clear he_1 s0_0
  refine then_n ?_
  refine aw_seq ?_
  refine aw_text (by kernel_rfl) ?_
  refine al_ro' (ro_move s0_1) trivial rfl ?_
  refine al_ro' (ro_call (evL_cons up_h (evL_cons ev_c (evL_cons ev_c evL_nil))) rfl (yWithin_ok _ _ _) y21_hcf77) trivial rfl ?_
  refine al_ro' (ro_call (evL_cons up_h (evL_cons ev_c evL_nil)) rfl (yUnless_ok _ _) y21_hcf72) trivial rfl ?_
  refine al_ro' (ro_assign up_h) trivial rfl ?_
  refine al_end (fun e_2 he_2 => ?_)
  have s2_2 := ef 2 he_2 up_h
  clear he_2 s0_1
  refine then_n ?_
  refine aw_ret ?_
  refine ret1 (.inr rfl) (by kernel_rfl) (resV_tmp s2_2) (.ro _ rfl) ?_
  clear s2_2  ml_0
  rfl
/-- The bend at a joint, over the product of both lengths. -/
def benN (l : Lin) (j : Nat) : Int := ((l.js.getD (j + 1) default).acr - (l.js.getD j default).acr) * (l.bs.getD (j - 1) default).len - ((l.js.getD j default).acr - (l.js.getD (j - 1) default).acr) * (l.bs.getD j default).len
def benD (l : Lin) (j : Nat) : Int := (l.bs.getD (j - 1) default).len * (l.bs.getD j default).len
theorem toNat_pre (n : Nat) : ((n : Int) - 1).toNat = n - 1 := by omega
set_option maxRecDepth 100000 in
set_option maxHeartbeats 4000000 in
theorem bend_ok (l : Lin) (h : Rgt l) (j : Nat) (hj : 1 ≤ j ∧ j + 2 ≤ l.js.length) : FnOk Try.prog 55 [tkA l, mA j] (fun q => q = .tuple [mA (benN l j), mA (benD l j)]) := by
  refine fnOk_of (fn := Try.f55) 79 (by kernel_rfl) rfl (by kernel_rfl) (Nat.le_of_ble_eq_true rfl) ?_
  intro e_0 m_0 hA hm_0
  have s0_0 : evA e_0 (.tmp 0) = _ := hA 0 _ rfl
  have s1_0 : evA e_0 (.tmp 1) = _ := hA 1 _ rfl
  have ml_0 : m_0.length = 0 := by rw [hm_0]; rfl
  clear hA hm_0
  have hn1 := h.n1; have hn0 := h.n0; have hjs := h.js; have j1 := h.jnt (j - 1) (by omega); have j2 := h.jnt j (by omega); have j3 := h.jnt (j + 1) (by omega); have b1 := h.bea (j - 1) (by omega); have b2 := h.bea j (by omega); have m1 := mul_in (x := (l.js.getD (j + 1) default).acr - (l.js.getD j default).acr) (y := (l.bs.getD (j - 1) default).len) 40000 30000 (by omega) (by omega); have m2 := mul_in (x := (l.js.getD j default).acr - (l.js.getD (j - 1) default).acr) (y := (l.bs.getD j default).len) 40000 30000 (by omega) (by omega); have m3 := mul_in (x := (l.bs.getD (j - 1) default).len) (y := (l.bs.getD j default).len) 30000 30000 (by omega) (by omega)
  refine aw_seq ?_
  refine aw_text (by kernel_rfl) ?_
  refine al_ro' (ro_assign ev_c) trivial rfl ?_
  refine al_ro' (ro_assign ev_c) trivial rfl ?_
  refine al_end (fun e_1 he_1 => ?_)
  have s0_1 := ef 0 he_1 (u2 rfl s0_0)
  have s1_1 := ef 1 he_1 (u2 rfl s1_0)
  clear he_1 s0_0 s1_0
  refine then_n ?_
  refine aw_seq ?_
  refine aw_draw 21 (by kernel_rfl) (by kernel_rfl) (by kernel_rfl) (by kernel_rfl) ?_
  refine ds_ro' (ro_move s0_1) trivial rfl ?_
  refine ds_ro' (ro_nilR up_h) trivial rfl ?_
  refine ds_ro' (ro_eq (ro_fld_ref y21_fl82_0 rfl up_h) (by simp only [packA_t, packA_f, iE, bE, setAt, cellsA, Value.cells, map_vc, map_vn, Nat.reduceAdd, qS, jnE, beE, Int.toNat_natCast, toNat_suc, toNat_pre] <;> rfl)) trivial rfl ?_
  refine ds_ro' (ro_eq (ro_fld_ref y21_fl26_2 rfl up_h) (by simp only [packA_t, packA_f, iE, bE, setAt, cellsA, Value.cells, map_vc, map_vn, Nat.reduceAdd, qS, jnE, beE, Int.toNat_natCast, toNat_suc, toNat_pre] <;> rfl)) trivial rfl ?_
  refine ds_ro' (ro_eq (ro_ld_ref y21_ty23 rfl up_h (by exact Nat.le_of_ble_eq_true rfl)) (by simp only [packA_t, packA_f, iE, bE, setAt, cellsA, Value.cells, map_vc, map_vn, Nat.reduceAdd, qS, jnE, beE, Int.toNat_natCast, toNat_suc, toNat_pre] <;> rfl)) trivial rfl ?_
  refine ds_ro' (ro_move (up_m rfl (u4 rfl s1_1))) trivial rfl ?_
  (refine ds_ro' (ro_sub' up_h ev_c ?_) trivial rfl ?_; · (unfold In64; omega))
  refine ds_ro' (ro_eq (ro_ix y21_sl23 (u2 rfl up_h) up_h (by omega) (by first | (refine idx_map ?_; first | omega | (simp only [lnS]; omega)) | (refine idx_mapI ?_; first | omega | (simp only [lnS]; omega)) | (refine idx_mapN ?_; first | omega | (simp only [lnS]; omega)) | rfl)) (by simp only [packA_t, packA_f, iE, bE, setAt, cellsA, Value.cells, map_vc, map_vn, Nat.reduceAdd, qS, jnE, beE, Int.toNat_natCast, toNat_suc, toNat_pre] <;> rfl)) trivial rfl ?_
  refine ds_ro' (ro_eq (ro_fld_ref y21_fl88_0 rfl up_h) (by simp only [packA_t, packA_f, iE, bE, setAt, cellsA, Value.cells, map_vc, map_vn, Nat.reduceAdd, qS, jnE, beE, Int.toNat_natCast, toNat_suc, toNat_pre] <;> rfl)) trivial rfl ?_
  refine ds_ro' (ro_eq (ro_ld_ref y21_ty3 rfl up_h (by exact Nat.le_of_ble_eq_true rfl)) (by simp only [packA_t, packA_f, iE, bE, setAt, cellsA, Value.cells, map_vc, map_vn, Nat.reduceAdd, qS, jnE, beE, Int.toNat_natCast, toNat_suc, toNat_pre] <;> rfl)) trivial rfl ?_
  refine ds_ro' (ro_move (u2 rfl (u8 rfl s0_1))) trivial rfl ?_
  refine ds_ro' (ro_nilR up_h) trivial rfl ?_
  refine ds_ro' (ro_eq (ro_fld_ref y21_fl82_0 rfl up_h) (by simp only [packA_t, packA_f, iE, bE, setAt, cellsA, Value.cells, map_vc, map_vn, Nat.reduceAdd, qS, jnE, beE, Int.toNat_natCast, toNat_suc, toNat_pre] <;> rfl)) trivial rfl ?_
  refine ds_ro' (ro_eq (ro_fld_ref y21_fl26_2 rfl up_h) (by simp only [packA_t, packA_f, iE, bE, setAt, cellsA, Value.cells, map_vc, map_vn, Nat.reduceAdd, qS, jnE, beE, Int.toNat_natCast, toNat_suc, toNat_pre] <;> rfl)) trivial rfl ?_
  refine ds_ro' (ro_eq (ro_ld_ref y21_ty23 rfl up_h (by exact Nat.le_of_ble_eq_true rfl)) (by simp only [packA_t, packA_f, iE, bE, setAt, cellsA, Value.cells, map_vc, map_vn, Nat.reduceAdd, qS, jnE, beE, Int.toNat_natCast, toNat_suc, toNat_pre] <;> rfl)) trivial rfl ?_
  refine ds_ro' (ro_move (up_m rfl (u2 rfl (u4 rfl (u8 rfl s1_1))))) trivial rfl ?_
  refine ds_ro' (ro_eq (ro_ix y21_sl23 (up_m rfl up_h) up_h (by omega) (by first | (refine idx_map ?_; first | omega | (simp only [lnS]; omega)) | (refine idx_mapI ?_; first | omega | (simp only [lnS]; omega)) | (refine idx_mapN ?_; first | omega | (simp only [lnS]; omega)) | rfl)) (by simp only [packA_t, packA_f, iE, bE, setAt, cellsA, Value.cells, map_vc, map_vn, Nat.reduceAdd, qS, jnE, beE, Int.toNat_natCast, toNat_suc, toNat_pre] <;> rfl)) trivial rfl ?_
  refine ds_ro' (ro_eq (ro_fld_ref y21_fl88_0 rfl up_h) (by simp only [packA_t, packA_f, iE, bE, setAt, cellsA, Value.cells, map_vc, map_vn, Nat.reduceAdd, qS, jnE, beE, Int.toNat_natCast, toNat_suc, toNat_pre] <;> rfl)) trivial rfl ?_
  refine ds_ro' (ro_eq (ro_ld_ref y21_ty3 rfl up_h (by exact Nat.le_of_ble_eq_true rfl)) (by simp only [packA_t, packA_f, iE, bE, setAt, cellsA, Value.cells, map_vc, map_vn, Nat.reduceAdd, qS, jnE, beE, Int.toNat_natCast, toNat_suc, toNat_pre] <;> rfl)) trivial rfl ?_
  refine ds_ro' (ro_assign (up_m rfl (u8 rfl up_h))) trivial rfl ?_
  refine ds_ro' (ro_assign (up_m rfl up_h)) trivial rfl ?_
  refine ds_nil ?_
  refine al_end (fun e_2 he_2 => ?_)
  have s0_2 := ef 0 he_2 (up_m rfl (u4 rfl (u16 rfl s0_1)))
  have s1_2 := ef 1 he_2 (up_m rfl (u4 rfl (u16 rfl s1_1)))
  have s6_2 := ef 6 he_2 (up_m rfl up_h)
  have s7_2 := ef 7 he_2 up_h
  clear he_2 s0_1 s1_1
  refine then_n ?_
  refine aw_seq ?_
  refine aw_draw 21 (by kernel_rfl) (by kernel_rfl) (by kernel_rfl) (by kernel_rfl) ?_
  refine ds_ro' (ro_move s0_2) trivial rfl ?_
  refine ds_ro' (ro_nilR up_h) trivial rfl ?_
  refine ds_ro' (ro_eq (ro_fld_ref y21_fl82_0 rfl up_h) (by simp only [packA_t, packA_f, iE, bE, setAt, cellsA, Value.cells, map_vc, map_vn, Nat.reduceAdd, qS, jnE, beE, Int.toNat_natCast, toNat_suc, toNat_pre] <;> rfl)) trivial rfl ?_
  refine ds_ro' (ro_eq (ro_fld_ref y21_fl26_1 rfl up_h) (by simp only [packA_t, packA_f, iE, bE, setAt, cellsA, Value.cells, map_vc, map_vn, Nat.reduceAdd, qS, jnE, beE, Int.toNat_natCast, toNat_suc, toNat_pre] <;> rfl)) trivial rfl ?_
  refine ds_ro' (ro_eq (ro_ld_ref y21_ty22 rfl up_h (by exact Nat.le_of_ble_eq_true rfl)) (by simp only [packA_t, packA_f, iE, bE, setAt, cellsA, Value.cells, map_vc, map_vn, Nat.reduceAdd, qS, jnE, beE, Int.toNat_natCast, toNat_suc, toNat_pre] <;> rfl)) trivial rfl ?_
  refine ds_ro' (ro_move (up_m rfl (u4 rfl s1_2))) trivial rfl ?_
  refine ds_ro' (ro_eq (ro_ix y21_sl22 (up_m rfl up_h) up_h (by omega) (by first | (refine idx_map ?_; first | omega | (simp only [lnS]; omega)) | (refine idx_mapI ?_; first | omega | (simp only [lnS]; omega)) | (refine idx_mapN ?_; first | omega | (simp only [lnS]; omega)) | rfl)) (by simp only [packA_t, packA_f, iE, bE, setAt, cellsA, Value.cells, map_vc, map_vn, Nat.reduceAdd, qS, jnE, beE, Int.toNat_natCast, toNat_suc, toNat_pre] <;> rfl)) trivial rfl ?_
  refine ds_ro' (ro_eq (ro_fld_ref y21_fl85_0 rfl up_h) (by simp only [packA_t, packA_f, iE, bE, setAt, cellsA, Value.cells, map_vc, map_vn, Nat.reduceAdd, qS, jnE, beE, Int.toNat_natCast, toNat_suc, toNat_pre] <;> rfl)) trivial rfl ?_
  refine ds_ro' (ro_eq (ro_ld_ref y21_ty3 rfl up_h (by exact Nat.le_of_ble_eq_true rfl)) (by simp only [packA_t, packA_f, iE, bE, setAt, cellsA, Value.cells, map_vc, map_vn, Nat.reduceAdd, qS, jnE, beE, Int.toNat_natCast, toNat_suc, toNat_pre] <;> rfl)) trivial rfl ?_
  refine ds_ro' (ro_move (up_m rfl (u8 rfl s0_2))) trivial rfl ?_
  refine ds_ro' (ro_nilR up_h) trivial rfl ?_
  refine ds_ro' (ro_eq (ro_fld_ref y21_fl82_0 rfl up_h) (by simp only [packA_t, packA_f, iE, bE, setAt, cellsA, Value.cells, map_vc, map_vn, Nat.reduceAdd, qS, jnE, beE, Int.toNat_natCast, toNat_suc, toNat_pre] <;> rfl)) trivial rfl ?_
  refine ds_ro' (ro_eq (ro_fld_ref y21_fl26_1 rfl up_h) (by simp only [packA_t, packA_f, iE, bE, setAt, cellsA, Value.cells, map_vc, map_vn, Nat.reduceAdd, qS, jnE, beE, Int.toNat_natCast, toNat_suc, toNat_pre] <;> rfl)) trivial rfl ?_
  refine ds_ro' (ro_eq (ro_ld_ref y21_ty22 rfl up_h (by exact Nat.le_of_ble_eq_true rfl)) (by simp only [packA_t, packA_f, iE, bE, setAt, cellsA, Value.cells, map_vc, map_vn, Nat.reduceAdd, qS, jnE, beE, Int.toNat_natCast, toNat_suc, toNat_pre] <;> rfl)) trivial rfl ?_
  refine ds_ro' (ro_move (u2 rfl (u4 rfl (u8 rfl s1_2)))) trivial rfl ?_
  (refine ds_ro' (ro_sub' up_h ev_c ?_) trivial rfl ?_; · (unfold In64; omega))
  refine ds_ro' (ro_eq (ro_ix y21_sl22 (u2 rfl up_h) up_h (by omega) (by first | (refine idx_map ?_; first | omega | (simp only [lnS]; omega)) | (refine idx_mapI ?_; first | omega | (simp only [lnS]; omega)) | (refine idx_mapN ?_; first | omega | (simp only [lnS]; omega)) | rfl)) (by simp only [packA_t, packA_f, iE, bE, setAt, cellsA, Value.cells, map_vc, map_vn, Nat.reduceAdd, qS, jnE, beE, Int.toNat_natCast, toNat_suc, toNat_pre] <;> rfl)) trivial rfl ?_
  refine ds_ro' (ro_eq (ro_fld_ref y21_fl85_0 rfl up_h) (by simp only [packA_t, packA_f, iE, bE, setAt, cellsA, Value.cells, map_vc, map_vn, Nat.reduceAdd, qS, jnE, beE, Int.toNat_natCast, toNat_suc, toNat_pre] <;> rfl)) trivial rfl ?_
  refine ds_ro' (ro_eq (ro_ld_ref y21_ty3 rfl up_h (by exact Nat.le_of_ble_eq_true rfl)) (by simp only [packA_t, packA_f, iE, bE, setAt, cellsA, Value.cells, map_vc, map_vn, Nat.reduceAdd, qS, jnE, beE, Int.toNat_natCast, toNat_suc, toNat_pre] <;> rfl)) trivial rfl ?_
  (refine ds_ro' (ro_sub' (u2 rfl (u8 rfl up_h)) up_h ?_) trivial rfl ?_; · (unfold In64; omega))
  refine ds_ro' (ro_assign up_h) trivial rfl ?_
  refine ds_nil ?_
  refine al_end (fun e_3 he_3 => ?_)
  have s0_3 := ef 0 he_3 (up_m rfl (u4 rfl (u16 rfl s0_2)))
  have s1_3 := ef 1 he_3 (up_m rfl (u4 rfl (u16 rfl s1_2)))
  have s6_3 := ef 6 he_3 (up_m rfl (u4 rfl (u16 rfl s6_2)))
  have s7_3 := ef 7 he_3 (up_m rfl (u4 rfl (u16 rfl s7_2)))
  have s8_3 := ef 8 he_3 up_h
  clear he_3 s0_2 s1_2 s6_2 s7_2
  refine then_n ?_
  refine aw_seq ?_
  refine aw_draw 21 (by kernel_rfl) (by kernel_rfl) (by kernel_rfl) (by kernel_rfl) ?_
  refine ds_ro' (ro_move s0_3) trivial rfl ?_
  refine ds_ro' (ro_nilR up_h) trivial rfl ?_
  refine ds_ro' (ro_eq (ro_fld_ref y21_fl82_0 rfl up_h) (by simp only [packA_t, packA_f, iE, bE, setAt, cellsA, Value.cells, map_vc, map_vn, Nat.reduceAdd, qS, jnE, beE, Int.toNat_natCast, toNat_suc, toNat_pre] <;> rfl)) trivial rfl ?_
  refine ds_ro' (ro_eq (ro_fld_ref y21_fl26_1 rfl up_h) (by simp only [packA_t, packA_f, iE, bE, setAt, cellsA, Value.cells, map_vc, map_vn, Nat.reduceAdd, qS, jnE, beE, Int.toNat_natCast, toNat_suc, toNat_pre] <;> rfl)) trivial rfl ?_
  refine ds_ro' (ro_eq (ro_ld_ref y21_ty22 rfl up_h (by exact Nat.le_of_ble_eq_true rfl)) (by simp only [packA_t, packA_f, iE, bE, setAt, cellsA, Value.cells, map_vc, map_vn, Nat.reduceAdd, qS, jnE, beE, Int.toNat_natCast, toNat_suc, toNat_pre] <;> rfl)) trivial rfl ?_
  refine ds_ro' (ro_move (up_m rfl (u4 rfl s1_3))) trivial rfl ?_
  (refine ds_ro' (ro_add' up_h ev_c ?_) trivial rfl ?_; · (unfold In64; omega))
  refine ds_ro' (ro_eq (ro_ix y21_sl22 (u2 rfl up_h) up_h (by omega) (by refine idx_map ?_; first | omega | (simp only [lnS]; omega))) (by simp only [packA_t, packA_f, iE, bE, setAt, cellsA, Value.cells, map_vc, map_vn, Nat.reduceAdd, qS, jnE, beE, Int.toNat_natCast, toNat_suc, toNat_pre] <;> rfl)) trivial rfl ?_
  refine ds_ro' (ro_eq (ro_fld_ref y21_fl85_0 rfl up_h) (by simp only [packA_t, packA_f, iE, bE, setAt, cellsA, Value.cells, map_vc, map_vn, Nat.reduceAdd, qS, jnE, beE, Int.toNat_natCast, toNat_suc, toNat_pre] <;> rfl)) trivial rfl ?_
  refine ds_ro' (ro_eq (ro_ld_ref y21_ty3 rfl up_h (by exact Nat.le_of_ble_eq_true rfl)) (by simp only [packA_t, packA_f, iE, bE, setAt, cellsA, Value.cells, map_vc, map_vn, Nat.reduceAdd, qS, jnE, beE, Int.toNat_natCast, toNat_suc, toNat_pre] <;> rfl)) trivial rfl ?_
  refine ds_ro' (ro_move (u2 rfl (u8 rfl s0_3))) trivial rfl ?_
  refine ds_ro' (ro_nilR up_h) trivial rfl ?_
  refine ds_ro' (ro_eq (ro_fld_ref y21_fl82_0 rfl up_h) (by simp only [packA_t, packA_f, iE, bE, setAt, cellsA, Value.cells, map_vc, map_vn, Nat.reduceAdd, qS, jnE, beE, Int.toNat_natCast, toNat_suc, toNat_pre] <;> rfl)) trivial rfl ?_
  refine ds_ro' (ro_eq (ro_fld_ref y21_fl26_1 rfl up_h) (by simp only [packA_t, packA_f, iE, bE, setAt, cellsA, Value.cells, map_vc, map_vn, Nat.reduceAdd, qS, jnE, beE, Int.toNat_natCast, toNat_suc, toNat_pre] <;> rfl)) trivial rfl ?_
  refine ds_ro' (ro_eq (ro_ld_ref y21_ty22 rfl up_h (by exact Nat.le_of_ble_eq_true rfl)) (by simp only [packA_t, packA_f, iE, bE, setAt, cellsA, Value.cells, map_vc, map_vn, Nat.reduceAdd, qS, jnE, beE, Int.toNat_natCast, toNat_suc, toNat_pre] <;> rfl)) trivial rfl ?_
  refine ds_ro' (ro_move (up_m rfl (u2 rfl (u4 rfl (u8 rfl s1_3))))) trivial rfl ?_
  refine ds_ro' (ro_eq (ro_ix y21_sl22 (up_m rfl up_h) up_h (by omega) (by first | (refine idx_map ?_; first | omega | (simp only [lnS]; omega)) | (refine idx_mapI ?_; first | omega | (simp only [lnS]; omega)) | (refine idx_mapN ?_; first | omega | (simp only [lnS]; omega)) | rfl)) (by simp only [packA_t, packA_f, iE, bE, setAt, cellsA, Value.cells, map_vc, map_vn, Nat.reduceAdd, qS, jnE, beE, Int.toNat_natCast, toNat_suc, toNat_pre] <;> rfl)) trivial rfl ?_
  refine ds_ro' (ro_eq (ro_fld_ref y21_fl85_0 rfl up_h) (by simp only [packA_t, packA_f, iE, bE, setAt, cellsA, Value.cells, map_vc, map_vn, Nat.reduceAdd, qS, jnE, beE, Int.toNat_natCast, toNat_suc, toNat_pre] <;> rfl)) trivial rfl ?_
  refine ds_ro' (ro_eq (ro_ld_ref y21_ty3 rfl up_h (by exact Nat.le_of_ble_eq_true rfl)) (by simp only [packA_t, packA_f, iE, bE, setAt, cellsA, Value.cells, map_vc, map_vn, Nat.reduceAdd, qS, jnE, beE, Int.toNat_natCast, toNat_suc, toNat_pre] <;> rfl)) trivial rfl ?_
  (refine ds_ro' (ro_sub' (up_m rfl (u8 rfl up_h)) up_h ?_) trivial rfl ?_; · (unfold In64; omega))
  refine ds_ro' (ro_assign up_h) trivial rfl ?_
  refine ds_nil ?_
  refine al_end (fun e_4 he_4 => ?_)
  have s6_4 := ef 6 he_4 (up_m rfl (u4 rfl (u16 rfl s6_3)))
  have s7_4 := ef 7 he_4 (up_m rfl (u4 rfl (u16 rfl s7_3)))
  have s8_4 := ef 8 he_4 (up_m rfl (u4 rfl (u16 rfl s8_3)))
  have s9_4 := ef 9 he_4 up_h
  clear he_4 s0_3 s1_3 s6_3 s7_3 s8_3
  refine then_n ?_
  refine aw_seq ?_
  refine aw_text (by kernel_rfl) ?_
  refine al_ro' (ro_move s9_4) trivial rfl ?_
  refine al_ro' (ro_move (up_m rfl s6_4)) trivial rfl ?_
  (refine al_ro' (ro_mul' (up_m rfl up_h) up_h ?_) trivial rfl ?_; · (unfold In64; omega))
  refine al_ro' (ro_move (up_m rfl (u2 rfl s8_4))) trivial rfl ?_
  refine al_ro' (ro_move (u4 rfl s7_4)) trivial rfl ?_
  (refine al_ro' (ro_mul' (up_m rfl up_h) up_h ?_) trivial rfl ?_; · (unfold In64; omega))
  (refine al_ro' (ro_sub' (up_m rfl (u2 rfl up_h)) up_h ?_) trivial rfl ?_; · (unfold In64; omega))
  refine al_ro' (ro_move (up_m rfl (u2 rfl (u4 rfl s6_4)))) trivial rfl ?_
  refine al_ro' (ro_move (u8 rfl s7_4)) trivial rfl ?_
  (refine al_ro' (ro_mul' (up_m rfl up_h) up_h ?_) trivial rfl ?_; · (unfold In64; omega))
  refine al_ro' (ro_assign (up_m rfl (u2 rfl up_h))) trivial rfl ?_
  refine al_ro' (ro_assign (up_m rfl up_h)) trivial rfl ?_
  refine al_end (fun e_5 he_5 => ?_)
  have s4_5 := ef 4 he_5 (up_m rfl up_h)
  have s5_5 := ef 5 he_5 up_h
  clear he_5 s6_4 s7_4 s8_4 s9_4
  refine then_n ?_
  refine aw_ret ?_
  refine ret2 (.inr rfl) (by kernel_rfl) (resV_tmp s4_5) (resV_tmp s5_5) (.ro _ rfl) (.ro _ rfl) ?_
  clear s4_5 s5_5  ml_0
  rfl
end Go.Proofs.Ytlebjleebclmgaa

/- Contracts of chapter 1: gradients and bends. No conditions on a program. -/
namespace Go.Proofs.Ytlebjleebclmgaa
open Go Go.RowKit Go.Proofs
set_option linter.unusedSimpArgs false
set_option linter.unusedVariables false
theorem y30_az46 : (Try.prog.info? 46).bind (·.zero) = some (.agg #[.int .i64 0, .int .i64 0]) := by kernel_rfl
theorem y30_bz46 : (Try.prog.info? 46).bind (·.zero) = some (.agg #[.int .i64 0, .int .i64 0]) := by kernel_rfl
theorem y30_bu46 : Try.prog.underlying 46 = some (.struct (fsOf Try.prog 46)) := by kernel_rfl
theorem y30_bp46 : ∀ w, ((fsOf Try.prog 46).mapM fun f => Prod.mk f.offset <$> sizeOf f.type : Sem (Array (Nat × Nat))).run Try.prog w = .ok (#[(0, 1), (1, 1)]) w := fun _ => by kernel_rfl
theorem y30_fl26_1 : FldIs Try.prog 26 1 1 false 1 := by unfold FldIs; kernel_rfl
theorem y30_fl26_2 : FldIs Try.prog 26 2 2 false 1 := by unfold FldIs; kernel_rfl
theorem y30_fl46_0 : FldIs Try.prog 46 0 0 false 1 := by unfold FldIs; kernel_rfl
theorem y30_fl46_1 : FldIs Try.prog 46 1 1 false 1 := by unfold FldIs; kernel_rfl
theorem y30_fl82_0 : FldIs Try.prog 82 0 0 true 4 := by unfold FldIs; kernel_rfl
theorem y30_fl85_1 : FldIs Try.prog 85 1 1 false 1 := by unfold FldIs; kernel_rfl
theorem y30_fl88_0 : FldIs Try.prog 88 0 0 false 1 := by unfold FldIs; kernel_rfl
theorem y30_hcf29 : ∀ args w, (callFunc 29 args).run Try.prog w = .ok (.enter 29 args) w := fun _ _ => by kernel_rfl
theorem y30_hcf39 : ∀ args w, (callFunc 39 args).run Try.prog w = .ok (.enter 39 args) w := fun _ _ => by kernel_rfl
theorem y30_hcf52 : ∀ args w, (callFunc 52 args).run Try.prog w = .ok (.enter 52 args) w := fun _ _ => by kernel_rfl
theorem y30_hcf53 : ∀ args w, (callFunc 53 args).run Try.prog w = .ok (.enter 53 args) w := fun _ _ => by kernel_rfl
theorem y30_hcf56 : ∀ args w, (callFunc 56 args).run Try.prog w = .ok (.enter 56 args) w := fun _ _ => by kernel_rfl
theorem y30_hcf58 : ∀ args w, (callFunc 58 args).run Try.prog w = .ok (.enter 58 args) w := fun _ _ => by kernel_rfl
theorem y30_hcf59 : ∀ args w, (callFunc 59 args).run Try.prog w = .ok (.enter 59 args) w := fun _ _ => by kernel_rfl
theorem y30_hcf60 : ∀ args w, (callFunc 60 args).run Try.prog w = .ok (.enter 60 args) w := fun _ _ => by kernel_rfl
theorem y30_sl22 : SlIs Try.prog 22 85 4 32 (.agg #[.int .i64 0, .int .i64 0, .int .i64 0, .int .i64 0]) := ⟨by kernel_rfl, by kernel_rfl, by kernel_rfl⟩
theorem y30_sl23 : SlIs Try.prog 23 88 2 16 (.agg #[.int .i64 0, .int .i64 0]) := ⟨by kernel_rfl, by kernel_rfl, by kernel_rfl⟩
theorem y30_sz46 : (Try.prog.info? 46).map (·.size) = some 2 := by kernel_rfl
theorem y30_ty22 : TyIs Try.prog 22 false 1 := ⟨by kernel_rfl, by kernel_rfl⟩
theorem y30_ty23 : TyIs Try.prog 23 false 1 := ⟨by kernel_rfl, by kernel_rfl⟩
theorem y30_ty26 : TyIs Try.prog 26 true 4 := ⟨by kernel_rfl, by kernel_rfl⟩
theorem y30_ty3 : TyIs Try.prog 3 false 1 := ⟨by kernel_rfl, by kernel_rfl⟩
theorem y30_ty46 : TyIs Try.prog 46 true 2 := ⟨by kernel_rfl, by kernel_rfl⟩

theorem fraD_bd {n b : Int} (hb : 0 < b) : 1 ≤ fraD n b ∧ fraD n b ≤ b := by
  have hg : 0 < Int.gcd n b := Int.gcd_pos_of_ne_zero_right _ (by omega)
  have hd : (Int.gcd n b : Int) ∣ b := Int.gcd_dvd_right ..
  unfold fraD
  rw [Int.tdiv_eq_ediv_of_nonneg (by omega)]
  have h1 := Int.ediv_le_self (a := b) (Int.gcd n b : Int) (by omega)
  have h2 := Int.ediv_mul_cancel hd
  refine ⟨?_, h1⟩
  by_cases h0 : 0 < b / (Int.gcd n b : Int)
  · omega
  · have := Int.mul_le_mul_of_nonneg_right (show b / (Int.gcd n b : Int) ≤ 0 by omega) (show (0 : Int) ≤ Int.gcd n b by omega)
    rw [h2] at this; omega
theorem fraN_bd {n b : Int} : (fraN n b).natAbs ≤ n.natAbs := Int.natAbs_tdiv_le_natAbs _ _
/-- The gradient of a beam. -/
def graN (l : Lin) (i : Nat) : Int := 1000 * ((l.js.getD (i + 1) default).up - (l.js.getD i default).up)
def graX (l : Lin) (i : Nat) : Int := fraN (graN l i) (l.bs.getD i default).len
def graY (l : Lin) (i : Nat) : Int := fraD (graN l i) (l.bs.getD i default).len
theorem gra_bd {l : Lin} (h : Rgt l) {i : Nat} (hi : i < l.bs.length) : (graN l i).natAbs ≤ 40000000 ∧ (graX l i).natAbs ≤ 40000000 ∧ 1 ≤ graY l i ∧ graY l i ≤ 30000 := by
  have hjs := h.js
  have j1 := h.jnt i (by omega)
  have j2 := h.jnt (i + 1) (by omega)
  have b1 := h.bea i hi
  have f1 := fraN_bd (n := graN l i) (b := (l.bs.getD i default).len)
  have f2 := fraD_bd (n := graN l i) (b := (l.bs.getD i default).len) (by omega)
  have h0 : (graN l i).natAbs ≤ 40000000 := by unfold graN; omega
  exact ⟨h0, by unfold graX; omega, by unfold graY; omega, by unfold graY; omega⟩
set_option maxRecDepth 100000 in
set_option maxHeartbeats 4000000 in
theorem gradient_ok (l : Lin) (h : Rgt l) (i : Nat) (hi : i < l.bs.length) : FnOk Try.prog 53 [tkA l, mA i] (fun q => q = frA (graX l i) (graY l i)) := by
  refine fnOk_of (fn := Try.f53) 36 (by kernel_rfl) rfl (by kernel_rfl) (Nat.le_of_ble_eq_true rfl) ?_
  intro e_0 m_0 hA hm_0
  have s0_0 : evA e_0 (.tmp 0) = _ := hA 0 _ rfl
  have s1_0 : evA e_0 (.tmp 1) = _ := hA 1 _ rfl
  have ml_0 : m_0.length = 0 := by rw [hm_0]; rfl
  clear hA hm_0
  have hn1 := h.n1; have hjs := h.js; have j1 := h.jnt i (by omega); have j2 := h.jnt (i + 1) (by omega); have b1 := h.bea i hi
  refine aw_seq ?_
  refine aw_text (by kernel_rfl) ?_
  refine al_stm (st_alloc y30_az46 rfl ml_0) trivial rfl (fun m_1 hm_1 => ?_)
  have mo0_1 := m_push hm_1 ml_0
  simp only [packA_t, packA_f, iE, bE, setAt, cellsA, Value.cells, map_vc, map_vn, Nat.reduceAdd, qS, jnE, beE, Int.toNat_natCast, toNat_suc] at mo0_1
  have ml_1 := m_push_l hm_1 ml_0
  have ml_1 : _ = 1 := ml_1
  clear hm_1
  refine al_end (fun e_2 he_2 => ?_)
  have s0_2 := ef 0 he_2 (up_m rfl s0_0)
  have s1_2 := ef 1 he_2 (up_m rfl s1_0)
  have s4_2 := ef 4 he_2 up_h
  clear he_2 s0_0 s1_0
  refine then_n ?_
  refine aw_seq ?_
  refine aw_draw 31 (by kernel_rfl) (by kernel_rfl) (by kernel_rfl) (by kernel_rfl) ?_
  refine ds_ro' (ro_move s0_2) trivial rfl ?_
  refine ds_ro' (ro_nilR up_h) trivial rfl ?_
  refine ds_ro' (ro_eq (ro_fld_ref y30_fl82_0 rfl up_h) (by simp only [packA_t, packA_f, iE, bE, setAt, cellsA, Value.cells, map_vc, map_vn, Nat.reduceAdd, qS, jnE, beE, Int.toNat_natCast, toNat_suc] <;> rfl)) trivial rfl ?_
  refine ds_ro' (ro_eq (ro_fld_ref y30_fl26_1 rfl up_h) (by simp only [packA_t, packA_f, iE, bE, setAt, cellsA, Value.cells, map_vc, map_vn, Nat.reduceAdd, qS, jnE, beE, Int.toNat_natCast, toNat_suc] <;> rfl)) trivial rfl ?_
  refine ds_ro' (ro_eq (ro_ld_ref y30_ty22 rfl up_h (by exact Nat.le_of_ble_eq_true rfl)) (by simp only [packA_t, packA_f, iE, bE, setAt, cellsA, Value.cells, map_vc, map_vn, Nat.reduceAdd, qS, jnE, beE, Int.toNat_natCast, toNat_suc] <;> rfl)) trivial rfl ?_
  refine ds_ro' (ro_move (up_m rfl (u4 rfl s1_2))) trivial rfl ?_
  (refine ds_ro' (ro_add' up_h ev_c ?_) trivial rfl ?_; · (unfold In64; omega))
  refine ds_ro' (ro_eq (ro_ix y30_sl22 (u2 rfl up_h) up_h (by omega) (by refine idx_map ?_; first | omega | (simp only [lnS]; omega))) (by simp only [packA_t, packA_f, iE, bE, setAt, cellsA, Value.cells, map_vc, map_vn, Nat.reduceAdd, qS, jnE, beE, Int.toNat_natCast, toNat_suc] <;> rfl)) trivial rfl ?_
  refine ds_ro' (ro_eq (ro_fld_ref y30_fl85_1 rfl up_h) (by simp only [packA_t, packA_f, iE, bE, setAt, cellsA, Value.cells, map_vc, map_vn, Nat.reduceAdd, qS, jnE, beE, Int.toNat_natCast, toNat_suc] <;> rfl)) trivial rfl ?_
  refine ds_ro' (ro_eq (ro_ld_ref y30_ty3 rfl up_h (by exact Nat.le_of_ble_eq_true rfl)) (by simp only [packA_t, packA_f, iE, bE, setAt, cellsA, Value.cells, map_vc, map_vn, Nat.reduceAdd, qS, jnE, beE, Int.toNat_natCast, toNat_suc] <;> rfl)) trivial rfl ?_
  refine ds_ro' (ro_move (u2 rfl (u8 rfl s0_2))) trivial rfl ?_
  refine ds_ro' (ro_nilR up_h) trivial rfl ?_
  refine ds_ro' (ro_eq (ro_fld_ref y30_fl82_0 rfl up_h) (by simp only [packA_t, packA_f, iE, bE, setAt, cellsA, Value.cells, map_vc, map_vn, Nat.reduceAdd, qS, jnE, beE, Int.toNat_natCast, toNat_suc] <;> rfl)) trivial rfl ?_
  refine ds_ro' (ro_eq (ro_fld_ref y30_fl26_1 rfl up_h) (by simp only [packA_t, packA_f, iE, bE, setAt, cellsA, Value.cells, map_vc, map_vn, Nat.reduceAdd, qS, jnE, beE, Int.toNat_natCast, toNat_suc] <;> rfl)) trivial rfl ?_
  refine ds_ro' (ro_eq (ro_ld_ref y30_ty22 rfl up_h (by exact Nat.le_of_ble_eq_true rfl)) (by simp only [packA_t, packA_f, iE, bE, setAt, cellsA, Value.cells, map_vc, map_vn, Nat.reduceAdd, qS, jnE, beE, Int.toNat_natCast, toNat_suc] <;> rfl)) trivial rfl ?_
  refine ds_ro' (ro_move (up_m rfl (u2 rfl (u4 rfl (u8 rfl s1_2))))) trivial rfl ?_
  refine ds_ro' (ro_eq (ro_ix y30_sl22 (up_m rfl up_h) up_h (by omega) (by first | (refine idx_map ?_; first | omega | (simp only [lnS]; omega)) | (refine idx_mapI ?_; first | omega | (simp only [lnS]; omega)) | (refine idx_mapN ?_; first | omega | (simp only [lnS]; omega)) | rfl)) (by simp only [packA_t, packA_f, iE, bE, setAt, cellsA, Value.cells, map_vc, map_vn, Nat.reduceAdd, qS, jnE, beE, Int.toNat_natCast, toNat_suc] <;> rfl)) trivial rfl ?_
  refine ds_ro' (ro_eq (ro_fld_ref y30_fl85_1 rfl up_h) (by simp only [packA_t, packA_f, iE, bE, setAt, cellsA, Value.cells, map_vc, map_vn, Nat.reduceAdd, qS, jnE, beE, Int.toNat_natCast, toNat_suc] <;> rfl)) trivial rfl ?_
  refine ds_ro' (ro_eq (ro_ld_ref y30_ty3 rfl up_h (by exact Nat.le_of_ble_eq_true rfl)) (by simp only [packA_t, packA_f, iE, bE, setAt, cellsA, Value.cells, map_vc, map_vn, Nat.reduceAdd, qS, jnE, beE, Int.toNat_natCast, toNat_suc] <;> rfl)) trivial rfl ?_
  (refine ds_ro' (ro_sub' (up_m rfl (u8 rfl up_h)) up_h ?_) trivial rfl ?_; · (unfold In64; omega))
  (refine ds_ro' (ro_mul' ev_c up_h ?_) trivial rfl ?_; · (unfold In64; omega))
  refine ds_ro' (ro_move (up_m rfl (u4 rfl (u16 rfl s0_2)))) trivial rfl ?_
  refine ds_ro' (ro_nilR up_h) trivial rfl ?_
  refine ds_ro' (ro_eq (ro_fld_ref y30_fl82_0 rfl up_h) (by simp only [packA_t, packA_f, iE, bE, setAt, cellsA, Value.cells, map_vc, map_vn, Nat.reduceAdd, qS, jnE, beE, Int.toNat_natCast, toNat_suc] <;> rfl)) trivial rfl ?_
  refine ds_ro' (ro_eq (ro_fld_ref y30_fl26_2 rfl up_h) (by simp only [packA_t, packA_f, iE, bE, setAt, cellsA, Value.cells, map_vc, map_vn, Nat.reduceAdd, qS, jnE, beE, Int.toNat_natCast, toNat_suc] <;> rfl)) trivial rfl ?_
  refine ds_ro' (ro_eq (ro_ld_ref y30_ty23 rfl up_h (by exact Nat.le_of_ble_eq_true rfl)) (by simp only [packA_t, packA_f, iE, bE, setAt, cellsA, Value.cells, map_vc, map_vn, Nat.reduceAdd, qS, jnE, beE, Int.toNat_natCast, toNat_suc] <;> rfl)) trivial rfl ?_
  refine ds_ro' (ro_move (u2 rfl (u8 rfl (u16 rfl s1_2)))) trivial rfl ?_
  refine ds_ro' (ro_eq (ro_ix y30_sl23 (up_m rfl up_h) up_h (by omega) (by first | (refine idx_map ?_; first | omega | (simp only [lnS]; omega)) | (refine idx_mapI ?_; first | omega | (simp only [lnS]; omega)) | (refine idx_mapN ?_; first | omega | (simp only [lnS]; omega)) | rfl)) (by simp only [packA_t, packA_f, iE, bE, setAt, cellsA, Value.cells, map_vc, map_vn, Nat.reduceAdd, qS, jnE, beE, Int.toNat_natCast, toNat_suc] <;> rfl)) trivial rfl ?_
  refine ds_ro' (ro_eq (ro_fld_ref y30_fl88_0 rfl up_h) (by simp only [packA_t, packA_f, iE, bE, setAt, cellsA, Value.cells, map_vc, map_vn, Nat.reduceAdd, qS, jnE, beE, Int.toNat_natCast, toNat_suc] <;> rfl)) trivial rfl ?_
  refine ds_ro' (ro_eq (ro_ld_ref y30_ty3 rfl up_h (by exact Nat.le_of_ble_eq_true rfl)) (by simp only [packA_t, packA_f, iE, bE, setAt, cellsA, Value.cells, map_vc, map_vn, Nat.reduceAdd, qS, jnE, beE, Int.toNat_natCast, toNat_suc] <;> rfl)) trivial rfl ?_
  refine ds_ro' (ro_call (evL_cons (up_m rfl (u8 rfl up_h)) (evL_cons up_h evL_nil)) rfl (frac_ok _ _ (by omega) (by omega)) y30_hcf56) trivial rfl ?_
  refine ds_nil ?_
  refine al_stm (st_store (up_m rfl (u2 rfl (u4 rfl (u8 rfl (u16 rfl s4_2))))) up_h rfl rfl mo0_1 y30_sz46 rfl (by exact Nat.le_of_ble_eq_true rfl)) trivial rfl (fun m_3 hm_3 => ?_)
  have mo0_3 := m_set hm_3 mo0_1
  simp only [packA_t, packA_f, iE, bE, setAt, cellsA, Value.cells, map_vc, map_vn, Nat.reduceAdd, qS, jnE, beE, Int.toNat_natCast, toNat_suc] at mo0_3
  have ml_3 := m_set_l hm_3 ml_1
  clear hm_3 mo0_1
  refine al_end (fun e_4 he_4 => ?_)
  have s4_4 := ef 4 he_4 (up_n (up_m rfl (u2 rfl (u4 rfl (u8 rfl (u16 rfl s4_2))))))
  clear he_4 s0_2 s1_2 s4_2
  refine then_n ?_
  refine aw_ret ?_
  refine ret1 (.inr rfl) (by kernel_rfl) (resV_cell s4_4 mo0_3 y30_ty46 (by exact Nat.le_of_ble_eq_true rfl) (by simp)) (vw_r (.ro _ rfl)) ?_
  clear s4_4 mo0_3 ml_3
  rfl
set_option maxRecDepth 100000 in
set_option maxHeartbeats 4000000 in
theorem rGradientOf_ok (l : Lin) (h : Rgt l) (i : Nat) (hi : i < l.bs.length) : FnOk Try.prog 29 [lnA l, mA i] (fun q => q = frA (graX l i) (graY l i)) := by
  refine fnOk_of (fn := Try.f29) 27 (by kernel_rfl) rfl (by kernel_rfl) (Nat.le_of_ble_eq_true rfl) ?_
  intro e_0 m_0 hA hm_0
  have s0_0 : evA e_0 (.tmp 0) = _ := hA 0 _ rfl
  have s1_0 : evA e_0 (.tmp 1) = _ := hA 1 _ rfl
  have ml_0 : m_0.length = 0 := by rw [hm_0]; rfl
  clear hA hm_0
  have hn1 := h.n1; have hjs := h.js; have j1 := h.jnt i (by omega); have j2 := h.jnt (i + 1) (by omega); have b1 := h.bea i hi
  refine aw_seq ?_
  refine aw_text (by kernel_rfl) ?_
  refine al_stm (st_box s0_0 rfl ml_0) trivial rfl (fun m_1 hm_1 => ?_)
  have mo0_1 := m_push hm_1 ml_0
  have ml_1 := m_push_l hm_1 ml_0
  have ml_1 : _ = 1 := ml_1
  clear hm_1
  refine al_stm (st_alloc y30_az46 rfl ml_1) trivial rfl (fun m_2 hm_2 => ?_)
  have mo1_2 := m_push hm_2 ml_1
  simp only [packA_t, packA_f, iE, bE, setAt, cellsA, Value.cells, map_vc, map_vn, Nat.reduceAdd, qS, jnE, beE, Int.toNat_natCast, toNat_suc] at mo1_2
  have mo0_2 := m_push_o hm_2 mo0_1
  have ml_2 := m_push_l hm_2 ml_1
  have ml_2 : _ = 2 := ml_2
  clear hm_2 mo0_1
  refine al_end (fun e_3 he_3 => ?_)
  have s1_3 := ef 1 he_3 (u2 rfl s1_0)
  have s2_3 := ef 2 he_3 (up_m rfl up_h)
  have s4_3 := ef 4 he_3 up_h
  clear he_3 s0_0 s1_0
  refine then_n ?_
  refine aw_seq ?_
  refine aw_draw 22 (by kernel_rfl) (by kernel_rfl) (by kernel_rfl) (by kernel_rfl) ?_
  refine ds_ro' (ro_fld_ptr y30_fl26_1 rfl s2_3) trivial rfl ?_
  refine ds_ro' (ro_eq (ro_ld_ptr y30_ty22 rfl mo0_2 up_h (by exact Nat.le_of_ble_eq_true rfl)) (by simp only [packA_t, packA_f, iE, bE, setAt, cellsA, Value.cells, map_vc, map_vn, Nat.reduceAdd, qS, jnE, beE, Int.toNat_natCast, toNat_suc] <;> rfl)) trivial rfl ?_
  refine ds_ro' (ro_move (u2 rfl s1_3)) trivial rfl ?_
  (refine ds_ro' (ro_add' up_h ev_c ?_) trivial rfl ?_; · (unfold In64; omega))
  refine ds_ro' (ro_eq (ro_ix y30_sl22 (u2 rfl up_h) up_h (by omega) (by refine idx_map ?_; first | omega | (simp only [lnS]; omega))) (by simp only [packA_t, packA_f, iE, bE, setAt, cellsA, Value.cells, map_vc, map_vn, Nat.reduceAdd, qS, jnE, beE, Int.toNat_natCast, toNat_suc] <;> rfl)) trivial rfl ?_
  refine ds_ro' (ro_eq (ro_fld_ref y30_fl85_1 rfl up_h) (by simp only [packA_t, packA_f, iE, bE, setAt, cellsA, Value.cells, map_vc, map_vn, Nat.reduceAdd, qS, jnE, beE, Int.toNat_natCast, toNat_suc] <;> rfl)) trivial rfl ?_
  refine ds_ro' (ro_eq (ro_ld_ref y30_ty3 rfl up_h (by exact Nat.le_of_ble_eq_true rfl)) (by simp only [packA_t, packA_f, iE, bE, setAt, cellsA, Value.cells, map_vc, map_vn, Nat.reduceAdd, qS, jnE, beE, Int.toNat_natCast, toNat_suc] <;> rfl)) trivial rfl ?_
  refine ds_ro' (ro_fld_ptr y30_fl26_1 rfl (up_m rfl (u2 rfl (u4 rfl s2_3)))) trivial rfl ?_
  refine ds_ro' (ro_eq (ro_ld_ptr y30_ty22 rfl mo0_2 up_h (by exact Nat.le_of_ble_eq_true rfl)) (by simp only [packA_t, packA_f, iE, bE, setAt, cellsA, Value.cells, map_vc, map_vn, Nat.reduceAdd, qS, jnE, beE, Int.toNat_natCast, toNat_suc] <;> rfl)) trivial rfl ?_
  refine ds_ro' (ro_move (up_m rfl (u8 rfl s1_3))) trivial rfl ?_
  refine ds_ro' (ro_eq (ro_ix y30_sl22 (up_m rfl up_h) up_h (by omega) (by first | (refine idx_map ?_; first | omega | (simp only [lnS]; omega)) | (refine idx_mapI ?_; first | omega | (simp only [lnS]; omega)) | (refine idx_mapN ?_; first | omega | (simp only [lnS]; omega)) | rfl)) (by simp only [packA_t, packA_f, iE, bE, setAt, cellsA, Value.cells, map_vc, map_vn, Nat.reduceAdd, qS, jnE, beE, Int.toNat_natCast, toNat_suc] <;> rfl)) trivial rfl ?_
  refine ds_ro' (ro_eq (ro_fld_ref y30_fl85_1 rfl up_h) (by simp only [packA_t, packA_f, iE, bE, setAt, cellsA, Value.cells, map_vc, map_vn, Nat.reduceAdd, qS, jnE, beE, Int.toNat_natCast, toNat_suc] <;> rfl)) trivial rfl ?_
  refine ds_ro' (ro_eq (ro_ld_ref y30_ty3 rfl up_h (by exact Nat.le_of_ble_eq_true rfl)) (by simp only [packA_t, packA_f, iE, bE, setAt, cellsA, Value.cells, map_vc, map_vn, Nat.reduceAdd, qS, jnE, beE, Int.toNat_natCast, toNat_suc] <;> rfl)) trivial rfl ?_
  (refine ds_ro' (ro_sub' (u2 rfl (u4 rfl up_h)) up_h ?_) trivial rfl ?_; · (unfold In64; omega))
  (refine ds_ro' (ro_mul' ev_c up_h ?_) trivial rfl ?_; · (unfold In64; omega))
  refine ds_ro' (ro_fld_ptr y30_fl26_2 rfl (up_m rfl (u2 rfl (u4 rfl (u8 rfl s2_3))))) trivial rfl ?_
  refine ds_ro' (ro_eq (ro_ld_ptr y30_ty23 rfl mo0_2 up_h (by exact Nat.le_of_ble_eq_true rfl)) (by simp only [packA_t, packA_f, iE, bE, setAt, cellsA, Value.cells, map_vc, map_vn, Nat.reduceAdd, qS, jnE, beE, Int.toNat_natCast, toNat_suc] <;> rfl)) trivial rfl ?_
  refine ds_ro' (ro_move (up_m rfl (u16 rfl s1_3))) trivial rfl ?_
  refine ds_ro' (ro_eq (ro_ix y30_sl23 (up_m rfl up_h) up_h (by omega) (by first | (refine idx_map ?_; first | omega | (simp only [lnS]; omega)) | (refine idx_mapI ?_; first | omega | (simp only [lnS]; omega)) | (refine idx_mapN ?_; first | omega | (simp only [lnS]; omega)) | rfl)) (by simp only [packA_t, packA_f, iE, bE, setAt, cellsA, Value.cells, map_vc, map_vn, Nat.reduceAdd, qS, jnE, beE, Int.toNat_natCast, toNat_suc] <;> rfl)) trivial rfl ?_
  refine ds_ro' (ro_eq (ro_fld_ref y30_fl88_0 rfl up_h) (by simp only [packA_t, packA_f, iE, bE, setAt, cellsA, Value.cells, map_vc, map_vn, Nat.reduceAdd, qS, jnE, beE, Int.toNat_natCast, toNat_suc] <;> rfl)) trivial rfl ?_
  refine ds_ro' (ro_eq (ro_ld_ref y30_ty3 rfl up_h (by exact Nat.le_of_ble_eq_true rfl)) (by simp only [packA_t, packA_f, iE, bE, setAt, cellsA, Value.cells, map_vc, map_vn, Nat.reduceAdd, qS, jnE, beE, Int.toNat_natCast, toNat_suc] <;> rfl)) trivial rfl ?_
  refine ds_ro' (ro_call (evL_cons (u2 rfl (u4 rfl up_h)) (evL_cons up_h evL_nil)) rfl (lowest_ok _ _ (by omega) (by omega)) y30_hcf60) trivial rfl ?_
  refine ds_nil ?_
  refine al_stm (st_store (u2 rfl (u4 rfl (u16 rfl s4_3))) up_h rfl rfl mo1_2 y30_sz46 rfl (by exact Nat.le_of_ble_eq_true rfl)) trivial rfl (fun m_4 hm_4 => ?_)
  have mo1_4 := m_set hm_4 mo1_2
  simp only [packA_t, packA_f, iE, bE, setAt, cellsA, Value.cells, map_vc, map_vn, Nat.reduceAdd, qS, jnE, beE, Int.toNat_natCast, toNat_suc] at mo1_4
  have mo0_4 := m_set_o hm_4 mo0_2 (by decide)
  have ml_4 := m_set_l hm_4 ml_2
  clear hm_4 mo1_2 mo0_2
  refine al_end (fun e_5 he_5 => ?_)
  have s4_5 := ef 4 he_5 (up_n (u2 rfl (u4 rfl (u16 rfl s4_3))))
  clear he_5 s1_3 s2_3 s4_3
  refine then_n ?_
  refine aw_ret ?_
  refine ret1 (.inr rfl) (by kernel_rfl) (resV_cell s4_5 mo1_4 y30_ty46 (by exact Nat.le_of_ble_eq_true rfl) (by simp)) (vw_r (.ro _ rfl)) ?_
  clear s4_5 mo1_4 mo0_4 ml_4
  rfl
set_option maxRecDepth 100000 in
set_option maxHeartbeats 4000000 in
theorem gradientOf_bad (l : Lin) (hl : Sho l) (hb : (linM l).2 ≠ 0) (i : Int) : FnOk Try.prog 24 [lnA l, mA i] (fun q => q = .tuple [frA 0 0, mA (linM l).2]) := by
  refine fnOk_of (fn := Try.f24) 28 (by kernel_rfl) rfl (by kernel_rfl) (Nat.le_of_ble_eq_true rfl) ?_
  intro e_0 m_0 hA hm_0
  have s0_0 : evA e_0 (.tmp 0) = _ := hA 0 _ rfl
  have s1_0 : evA e_0 (.tmp 1) = _ := hA 1 _ rfl
  have ml_0 : m_0.length = 0 := by rw [hm_0]; rfl
  clear hA hm_0
  refine aw_seq ?_
  refine aw_text (by kernel_rfl) ?_
  refine al_stm (st_box s0_0 rfl ml_0) trivial rfl (fun m_1 hm_1 => ?_)
  have mo0_1 := m_push hm_1 ml_0
  have ml_1 := m_push_l hm_1 ml_0
  have ml_1 : _ = 1 := ml_1
  clear hm_1
  refine al_stm (st_alloc y30_az46 rfl ml_1) trivial rfl (fun m_2 hm_2 => ?_)
  have mo1_2 := m_push hm_2 ml_1
  simp only [packA_t, packA_f, iE, bE, setAt, cellsA, Value.cells, map_vc, map_vn, Nat.reduceAdd, qS] at mo1_2
  have mo0_2 := m_push_o hm_2 mo0_1
  have ml_2 := m_push_l hm_2 ml_1
  have ml_2 : _ = 2 := ml_2
  clear hm_2 mo0_1
  refine al_ro' (ro_assign ev_c) trivial rfl ?_
  refine al_end (fun e_3 he_3 => ?_)
  have s1_3 := ef 1 he_3 (up_m rfl (u2 rfl s1_0))
  have s2_3 := ef 2 he_3 (u2 rfl up_h)
  have s4_3 := ef 4 he_3 (up_m rfl up_h)
  clear he_3 s0_0 s1_0
  refine then_n ?_
  refine aw_seq ?_
  refine aw_text (by kernel_rfl) ?_
  refine al_ro' (ro_eq (ro_ld_ptr y30_ty26 rfl mo0_2 s2_3 (by exact Nat.le_of_ble_eq_true rfl)) (by simp only [packA_t, packA_f, iE, bE, setAt, cellsA, Value.cells, map_vc, map_vn, Nat.reduceAdd, qS] <;> rfl)) trivial rfl ?_
  refine al_ro' (ro_call (evL_cons up_h evL_nil) rfl (yOpen_bad l hl hb) y30_hcf39) trivial rfl ?_
  refine al_ro' (ro_move up_h) trivial rfl ?_
  refine al_ro' (ro_extract up_h rfl) trivial rfl ?_
  refine al_ro' (ro_extract (up_m rfl up_h) rfl) trivial rfl ?_
  refine al_ro' (ro_assign (up_m rfl up_h)) trivial rfl ?_
  refine al_ro' (ro_assign (up_m rfl up_h)) trivial rfl ?_
  refine al_end (fun e_4 he_4 => ?_)
  have s1_4 := ef 1 he_4 (up_m rfl (u2 rfl (u4 rfl s1_3)))
  have s4_4 := ef 4 he_4 (up_m rfl (u2 rfl (u4 rfl s4_3)))
  have s6_4 := ef 6 he_4 (up_m rfl up_h)
  have s7_4 := ef 7 he_4 up_h
  clear he_4 s1_3 s2_3 s4_3
  refine then_n ?_
  refine aw_seq ?_
  refine aw_seq ?_
  refine aw_text (by kernel_rfl) ?_
  refine al_ro' (ro_move s7_4) trivial rfl ?_
  refine al_ro' (ro_neq up_h ev_c) trivial rfl ?_
  refine al_end (fun e_5 he_5 => ?_)
  have s1_5 := ef 1 he_5 (u2 rfl s1_4)
  have s4_5 := ef 4 he_5 (u2 rfl s4_4)
  have s6_5 := ef 6 he_5 (u2 rfl s6_4)
  have s7_5 := ef 7 he_5 (u2 rfl s7_4)
  have s15_5 := ef 15 he_5 up_h
  clear he_5 s1_4 s4_4 s6_4 s7_4
  refine then_n ?_
  refine aw_case s15_5 (fun hq_6 => ?_) (fun hq_6 => ?_)
  ·replace hq_6 := bnt hq_6
   refine aw_seq ?_
   refine aw_text (by kernel_rfl) ?_
   refine al_ro' (ro_build evP_nil y30_bz46 y30_bu46 y30_bp46 rfl) trivial rfl ?_
   refine al_ro' (ro_move (up_m rfl s7_5)) trivial rfl ?_
   refine al_stm (st_store (u2 rfl s4_5) (up_m rfl up_h) rfl rfl mo1_2 y30_sz46 rfl (by exact Nat.le_of_ble_eq_true rfl)) trivial rfl (fun m_7 hm_7 => ?_)
   have mo1_7 := m_set hm_7 mo1_2
   simp only [packA_t, packA_f, iE, bE, setAt, cellsA, Value.cells, map_vc, map_vn, Nat.reduceAdd, qS] at mo1_7
   have mo0_7 := m_set_o hm_7 mo0_2 (by decide)
   have ml_7 := m_set_l hm_7 ml_2
   clear hm_7 mo1_2 mo0_2
   refine al_ro' (ro_assign (up_n up_h)) trivial rfl ?_
   refine al_end (fun e_8 he_8 => ?_)
   have s4_8 := ef 4 he_8 (up_m rfl (up_n (u2 rfl s4_5)))
   have s5_8 := ef 5 he_8 up_h
   clear he_8 s15_5 s1_5 s4_5 s6_5 s7_5
   refine then_n ?_
   refine aw_ret ?_
   refine then_r ?_
   refine ret2 (.inr rfl) (by kernel_rfl) (resV_cell s4_8 mo1_7 y30_ty46 (by exact Nat.le_of_ble_eq_true rfl) (by simp)) (resV_tmp s5_8) (vw_r (.ro _ rfl)) (.ro _ rfl) ?_
   clear s4_8 s5_8 mo1_7 mo0_7 ml_7
   rfl
  · replace hq_6 := bnf hq_6; exfalso; omega
set_option maxRecDepth 100000 in
set_option maxHeartbeats 4000000 in
theorem gradientOf_out (l : Lin) (hl : Sho l) (hg : (linM l).2 = 0) (i : Int) (hm : misE i 0 (l.bs.length - 1) ≠ 0) : FnOk Try.prog 24 [lnA l, mA i] (fun q => q = .tuple [frA 0 0, mA (misE i 0 (l.bs.length - 1))]) := by
  refine fnOk_of (fn := Try.f24) 28 (by kernel_rfl) rfl (by kernel_rfl) (Nat.le_of_ble_eq_true rfl) ?_
  intro e_0 m_0 hA hm_0
  have s0_0 : evA e_0 (.tmp 0) = _ := hA 0 _ rfl
  have s1_0 : evA e_0 (.tmp 1) = _ := hA 1 _ rfl
  have ml_0 : m_0.length = 0 := by rw [hm_0]; rfl
  clear hA hm_0
  have h := rgt_of hg
  refine aw_seq ?_
  refine aw_text (by kernel_rfl) ?_
  refine al_stm (st_box s0_0 rfl ml_0) trivial rfl (fun m_1 hm_1 => ?_)
  have mo0_1 := m_push hm_1 ml_0
  have ml_1 := m_push_l hm_1 ml_0
  have ml_1 : _ = 1 := ml_1
  clear hm_1
  refine al_stm (st_alloc y30_az46 rfl ml_1) trivial rfl (fun m_2 hm_2 => ?_)
  have mo1_2 := m_push hm_2 ml_1
  simp only [packA_t, packA_f, iE, bE, setAt, cellsA, Value.cells, map_vc, map_vn, Nat.reduceAdd, qS] at mo1_2
  have mo0_2 := m_push_o hm_2 mo0_1
  have ml_2 := m_push_l hm_2 ml_1
  have ml_2 : _ = 2 := ml_2
  clear hm_2 mo0_1
  refine al_ro' (ro_assign ev_c) trivial rfl ?_
  refine al_end (fun e_3 he_3 => ?_)
  have s1_3 := ef 1 he_3 (up_m rfl (u2 rfl s1_0))
  have s2_3 := ef 2 he_3 (u2 rfl up_h)
  have s4_3 := ef 4 he_3 (up_m rfl up_h)
  clear he_3 s0_0 s1_0
  refine then_n ?_
  refine aw_seq ?_
  refine aw_text (by kernel_rfl) ?_
  refine al_ro' (ro_eq (ro_ld_ptr y30_ty26 rfl mo0_2 s2_3 (by exact Nat.le_of_ble_eq_true rfl)) (by simp only [packA_t, packA_f, iE, bE, setAt, cellsA, Value.cells, map_vc, map_vn, Nat.reduceAdd, qS] <;> rfl)) trivial rfl ?_
  refine al_ro' (ro_call (evL_cons up_h evL_nil) rfl (yOpen_good l hl hg) y30_hcf39) trivial rfl ?_
  refine al_ro' (ro_move up_h) trivial rfl ?_
  refine al_ro' (ro_extract up_h rfl) trivial rfl ?_
  refine al_ro' (ro_extract (up_m rfl up_h) rfl) trivial rfl ?_
  refine al_ro' (ro_assign (up_m rfl up_h)) trivial rfl ?_
  refine al_ro' (ro_assign (up_m rfl up_h)) trivial rfl ?_
  refine al_end (fun e_4 he_4 => ?_)
  have s1_4 := ef 1 he_4 (up_m rfl (u2 rfl (u4 rfl s1_3)))
  have s4_4 := ef 4 he_4 (up_m rfl (u2 rfl (u4 rfl s4_3)))
  have s6_4 := ef 6 he_4 (up_m rfl up_h)
  have s7_4 := ef 7 he_4 up_h
  clear he_4 s1_3 s2_3 s4_3
  refine then_n ?_
  refine aw_seq ?_
  refine aw_seq ?_
  refine aw_text (by kernel_rfl) ?_
  refine al_ro' (ro_move s7_4) trivial rfl ?_
  refine al_ro' (ro_neq up_h ev_c) trivial rfl ?_
  refine al_end (fun e_5 he_5 => ?_)
  have s1_5 := ef 1 he_5 (u2 rfl s1_4)
  have s4_5 := ef 4 he_5 (u2 rfl s4_4)
  have s6_5 := ef 6 he_5 (u2 rfl s6_4)
  have s7_5 := ef 7 he_5 (u2 rfl s7_4)
  have s15_5 := ef 15 he_5 up_h
  clear he_5 s1_4 s4_4 s6_4 s7_4
  refine then_n ?_
  refine aw_case s15_5 (fun hq_6 => ?_) (fun hq_6 => ?_)
  · cases hq_6
  replace hq_6 := bnf hq_6
  refine aw_skip ?_
  refine then_n ?_
  refine aw_seq ?_
  refine aw_seq ?_
  refine aw_text (by kernel_rfl) ?_
  refine al_ro' (ro_move s6_5) trivial rfl ?_
  refine al_ro' (ro_move (up_m rfl s1_5)) trivial rfl ?_
  refine al_ro' (ro_call (evL_cons (up_m rfl up_h) (evL_cons up_h evL_nil)) rfl (yBeamErr_ok l h i) y30_hcf52) trivial rfl ?_
  refine al_ro' (ro_assign up_h) trivial rfl ?_
  refine al_end (fun e_7 he_7 => ?_)
  have s1_7 := ef 1 he_7 (u4 rfl s1_5)
  have s4_7 := ef 4 he_7 (u4 rfl s4_5)
  have s6_7 := ef 6 he_7 (u4 rfl s6_5)
  have s8_7 := ef 8 he_7 up_h
  clear he_7 s15_5 s1_5 s4_5 s6_5 s7_5
  refine then_n ?_
  refine aw_seq ?_
  refine aw_text (by kernel_rfl) ?_
  refine al_ro' (ro_move s8_7) trivial rfl ?_
  refine al_ro' (ro_neq up_h ev_c) trivial rfl ?_
  refine al_end (fun e_8 he_8 => ?_)
  have s1_8 := ef 1 he_8 (u2 rfl s1_7)
  have s4_8 := ef 4 he_8 (u2 rfl s4_7)
  have s6_8 := ef 6 he_8 (u2 rfl s6_7)
  have s8_8 := ef 8 he_8 (u2 rfl s8_7)
  have s22_8 := ef 22 he_8 up_h
  clear he_8 s1_7 s4_7 s6_7 s8_7
  refine then_n ?_
  refine aw_case s22_8 (fun hq_9 => ?_) (fun hq_9 => ?_)
  ·replace hq_9 := bnt hq_9
   refine aw_seq ?_
   refine aw_text (by kernel_rfl) ?_
   refine al_ro' (ro_build evP_nil y30_bz46 y30_bu46 y30_bp46 rfl) trivial rfl ?_
   refine al_ro' (ro_move (up_m rfl s8_8)) trivial rfl ?_
   refine al_stm (st_store (u2 rfl s4_8) (up_m rfl up_h) rfl rfl mo1_2 y30_sz46 rfl (by exact Nat.le_of_ble_eq_true rfl)) trivial rfl (fun m_10 hm_10 => ?_)
   have mo1_10 := m_set hm_10 mo1_2
   simp only [packA_t, packA_f, iE, bE, setAt, cellsA, Value.cells, map_vc, map_vn, Nat.reduceAdd, qS] at mo1_10
   have mo0_10 := m_set_o hm_10 mo0_2 (by decide)
   have ml_10 := m_set_l hm_10 ml_2
   clear hm_10 mo1_2 mo0_2
   refine al_ro' (ro_assign (up_n up_h)) trivial rfl ?_
   refine al_end (fun e_11 he_11 => ?_)
   have s4_11 := ef 4 he_11 (up_m rfl (up_n (u2 rfl s4_8)))
   have s5_11 := ef 5 he_11 up_h
   clear he_11 s1_8 s22_8 s4_8 s6_8 s8_8
   refine then_n ?_
   refine aw_ret ?_
   refine then_r ?_
   refine ret2 (.inr rfl) (by kernel_rfl) (resV_cell s4_11 mo1_10 y30_ty46 (by exact Nat.le_of_ble_eq_true rfl) (by simp)) (resV_tmp s5_11) (vw_r (.ro _ rfl)) (.ro _ rfl) ?_
   clear s4_11 s5_11 mo1_10 mo0_10 ml_10
   rfl
  · replace hq_9 := bnf hq_9; exfalso; omega
set_option maxRecDepth 100000 in
set_option maxHeartbeats 4000000 in
theorem gradientOf_in (l : Lin) (hl : Sho l) (hg : (linM l).2 = 0) (i : Int) (hm : misE i 0 (l.bs.length - 1) = 0) : FnOk Try.prog 24 [lnA l, mA i] (fun q => q = .tuple [frA (graX l i.toNat) (graY l i.toNat), mA 0]) := by
  refine fnOk_of (fn := Try.f24) 28 (by kernel_rfl) rfl (by kernel_rfl) (Nat.le_of_ble_eq_true rfl) ?_
  intro e_0 m_0 hA hm_0
  have s0_0 : evA e_0 (.tmp 0) = _ := hA 0 _ rfl
  have s1_0 : evA e_0 (.tmp 1) = _ := hA 1 _ rfl
  have ml_0 : m_0.length = 0 := by rw [hm_0]; rfl
  clear hA hm_0
  have h := rgt_of hg; have hm2 := misE_z.1 hm; have gr := gradient_ok l h i.toNat (by omega); rw [show ((i.toNat : Nat) : Int) = i by omega] at gr
  refine aw_seq ?_
  refine aw_text (by kernel_rfl) ?_
  refine al_stm (st_box s0_0 rfl ml_0) trivial rfl (fun m_1 hm_1 => ?_)
  have mo0_1 := m_push hm_1 ml_0
  have ml_1 := m_push_l hm_1 ml_0
  have ml_1 : _ = 1 := ml_1
  clear hm_1
  refine al_stm (st_alloc y30_az46 rfl ml_1) trivial rfl (fun m_2 hm_2 => ?_)
  have mo1_2 := m_push hm_2 ml_1
  simp only [packA_t, packA_f, iE, bE, setAt, cellsA, Value.cells, map_vc, map_vn, Nat.reduceAdd, qS] at mo1_2
  have mo0_2 := m_push_o hm_2 mo0_1
  have ml_2 := m_push_l hm_2 ml_1
  have ml_2 : _ = 2 := ml_2
  clear hm_2 mo0_1
  refine al_ro' (ro_assign ev_c) trivial rfl ?_
  refine al_end (fun e_3 he_3 => ?_)
  have s1_3 := ef 1 he_3 (up_m rfl (u2 rfl s1_0))
  have s2_3 := ef 2 he_3 (u2 rfl up_h)
  have s4_3 := ef 4 he_3 (up_m rfl up_h)
  clear he_3 s0_0 s1_0
  refine then_n ?_
  refine aw_seq ?_
  refine aw_text (by kernel_rfl) ?_
  refine al_ro' (ro_eq (ro_ld_ptr y30_ty26 rfl mo0_2 s2_3 (by exact Nat.le_of_ble_eq_true rfl)) (by simp only [packA_t, packA_f, iE, bE, setAt, cellsA, Value.cells, map_vc, map_vn, Nat.reduceAdd, qS] <;> rfl)) trivial rfl ?_
  refine al_ro' (ro_call (evL_cons up_h evL_nil) rfl (yOpen_good l hl hg) y30_hcf39) trivial rfl ?_
  refine al_ro' (ro_move up_h) trivial rfl ?_
  refine al_ro' (ro_extract up_h rfl) trivial rfl ?_
  refine al_ro' (ro_extract (up_m rfl up_h) rfl) trivial rfl ?_
  refine al_ro' (ro_assign (up_m rfl up_h)) trivial rfl ?_
  refine al_ro' (ro_assign (up_m rfl up_h)) trivial rfl ?_
  refine al_end (fun e_4 he_4 => ?_)
  have s1_4 := ef 1 he_4 (up_m rfl (u2 rfl (u4 rfl s1_3)))
  have s4_4 := ef 4 he_4 (up_m rfl (u2 rfl (u4 rfl s4_3)))
  have s6_4 := ef 6 he_4 (up_m rfl up_h)
  have s7_4 := ef 7 he_4 up_h
  clear he_4 s1_3 s2_3 s4_3
  refine then_n ?_
  refine aw_seq ?_
  refine aw_seq ?_
  refine aw_text (by kernel_rfl) ?_
  refine al_ro' (ro_move s7_4) trivial rfl ?_
  refine al_ro' (ro_neq up_h ev_c) trivial rfl ?_
  refine al_end (fun e_5 he_5 => ?_)
  have s1_5 := ef 1 he_5 (u2 rfl s1_4)
  have s4_5 := ef 4 he_5 (u2 rfl s4_4)
  have s6_5 := ef 6 he_5 (u2 rfl s6_4)
  have s7_5 := ef 7 he_5 (u2 rfl s7_4)
  have s15_5 := ef 15 he_5 up_h
  clear he_5 s1_4 s4_4 s6_4 s7_4
  refine then_n ?_
  refine aw_case s15_5 (fun hq_6 => ?_) (fun hq_6 => ?_)
  · cases hq_6
  replace hq_6 := bnf hq_6
  refine aw_skip ?_
  refine then_n ?_
  refine aw_seq ?_
  refine aw_seq ?_
  refine aw_text (by kernel_rfl) ?_
  refine al_ro' (ro_move s6_5) trivial rfl ?_
  refine al_ro' (ro_move (up_m rfl s1_5)) trivial rfl ?_
  refine al_ro' (ro_call (evL_cons (up_m rfl up_h) (evL_cons up_h evL_nil)) rfl (yBeamErr_ok l h i) y30_hcf52) trivial rfl ?_
  refine al_ro' (ro_assign up_h) trivial rfl ?_
  refine al_end (fun e_7 he_7 => ?_)
  have s1_7 := ef 1 he_7 (u4 rfl s1_5)
  have s4_7 := ef 4 he_7 (u4 rfl s4_5)
  have s6_7 := ef 6 he_7 (u4 rfl s6_5)
  have s8_7 := ef 8 he_7 up_h
  clear he_7 s15_5 s1_5 s4_5 s6_5 s7_5
  refine then_n ?_
  refine aw_seq ?_
  refine aw_text (by kernel_rfl) ?_
  refine al_ro' (ro_move s8_7) trivial rfl ?_
  refine al_ro' (ro_neq up_h ev_c) trivial rfl ?_
  refine al_end (fun e_8 he_8 => ?_)
  have s1_8 := ef 1 he_8 (u2 rfl s1_7)
  have s4_8 := ef 4 he_8 (u2 rfl s4_7)
  have s6_8 := ef 6 he_8 (u2 rfl s6_7)
  have s8_8 := ef 8 he_8 (u2 rfl s8_7)
  have s22_8 := ef 22 he_8 up_h
  clear he_8 s1_7 s4_7 s6_7 s8_7
  refine then_n ?_
  refine aw_case s22_8 (fun hq_9 => ?_) (fun hq_9 => ?_)
  · replace hq_9 := bnt hq_9; exfalso; omega
  replace hq_9 := bnf hq_9
  refine aw_skip ?_
  refine then_n ?_
  refine aw_seq ?_
  refine aw_text (by kernel_rfl) ?_
  refine al_ro' (ro_move s6_8) trivial rfl ?_
  refine al_ro' (ro_move (up_m rfl s1_8)) trivial rfl ?_
  refine al_ro' (ro_call (evL_cons (up_m rfl up_h) (evL_cons up_h evL_nil)) rfl (gr) y30_hcf53) trivial rfl ?_
  refine al_stm (st_store (up_m rfl (u2 rfl s4_8)) up_h rfl rfl mo1_2 y30_sz46 rfl (by exact Nat.le_of_ble_eq_true rfl)) trivial rfl (fun m_10 hm_10 => ?_)
  have mo1_10 := m_set hm_10 mo1_2
  simp only [packA_t, packA_f, iE, bE, setAt, cellsA, Value.cells, map_vc, map_vn, Nat.reduceAdd, qS] at mo1_10
  have mo0_10 := m_set_o hm_10 mo0_2 (by decide)
  have ml_10 := m_set_l hm_10 ml_2
  clear hm_10 mo1_2 mo0_2
  refine al_ro' (ro_assign ev_c) trivial rfl ?_
  refine al_end (fun e_11 he_11 => ?_)
  have s4_11 := ef 4 he_11 (up_m rfl (up_n (up_m rfl (u2 rfl s4_8))))
  have s5_11 := ef 5 he_11 up_h
  clear he_11 s1_8 s22_8 s4_8 s6_8 s8_8
  refine then_n ?_
  refine aw_ret ?_
  refine ret2 (.inr rfl) (by kernel_rfl) (resV_cell s4_11 mo1_10 y30_ty46 (by exact Nat.le_of_ble_eq_true rfl) (by simp)) (resV_tmp s5_11) (vw_r (.ro _ rfl)) (.ro _ rfl) ?_
  clear s4_11 s5_11 mo1_10 mo0_10 ml_10
  rfl
/-- Whether a beam is steeper than another one. -/
def steG (l : Lin) (i b : Nat) : Bool := decide (((graX l b).natAbs : Int) * graY l i < ((graX l i).natAbs : Int) * graY l b)
/-- The steepest one of the first n beams. -/
def steN (l : Lin) : Nat → Nat
  | 0 => 0
  | n + 1 => if steG l n (steN l n) then n else steN l n
theorem steN_1 (l : Lin) : steN l 1 = 0 := by
  show (if steG l 0 0 = true then 0 else 0) = 0
  cases steG l 0 0 <;> rfl
theorem max_abs (x : Int) : max x (-x) = (x.natAbs : Int) := by omega
theorem ste_bd {l : Lin} (h : Rgt l) {i b : Nat} (hi : i < l.bs.length) (hb : b < l.bs.length) : 0 ≤ ((graX l i).natAbs : Int) * graY l b ∧ ((graX l i).natAbs : Int) * graY l b ≤ 1200000000000 := by
  obtain ⟨_, a2, _, _⟩ := gra_bd h hi
  obtain ⟨_, _, b3, b4⟩ := gra_bd h hb
  have m := mul_in (x := ((graX l i).natAbs : Int)) (y := graY l b) 40000000 30000 (by omega) (by omega)
  have := Int.mul_nonneg (show 0 ≤ ((graX l i).natAbs : Int) by omega) (show 0 ≤ graY l b by omega)
  omega
theorem steN_T {l : Lin} {k b : Nat} (hb : b = steN l k) (h : max (graX l b) (-graX l b) * graY l k < max (graX l k) (-graX l k) * graY l b) : steN l (k + 1) = k := by
  rw [max_abs, max_abs] at h
  simp only [steN]; rw [← hb, if_pos]; unfold steG; exact decide_eq_true h
theorem steN_F {l : Lin} {k b : Nat} (hb : b = steN l k) (h : ¬ max (graX l b) (-graX l b) * graY l k < max (graX l k) (-graX l k) * graY l b) : steN l (k + 1) = b := by
  rw [max_abs, max_abs] at h
  simp only [steN]; rw [← hb, if_neg]; unfold steG; simp only [decide_eq_true_eq]; exact h
set_option maxRecDepth 100000 in
set_option maxHeartbeats 4000000 in
theorem steepestOf_bad (l : Lin) (hl : Sho l) (hb : (linM l).2 ≠ 0) : FnOk Try.prog 25 [lnA l] (fun q => q = .tuple [mA 0, frA 0 0, mA (linM l).2]) := by
  refine fnOk_of (fn := Try.f25) 58 (by kernel_rfl) rfl (by kernel_rfl) (Nat.le_of_ble_eq_true rfl) ?_
  intro e_0 m_0 hA hm_0
  have s0_0 : evA e_0 (.tmp 0) = _ := hA 0 _ rfl
  have ml_0 : m_0.length = 0 := by rw [hm_0]; rfl
  clear hA hm_0
  refine aw_seq ?_
  refine aw_text (by kernel_rfl) ?_
  refine al_stm (st_box s0_0 rfl ml_0) trivial rfl (fun m_1 hm_1 => ?_)
  have mo0_1 := m_push hm_1 ml_0
  have ml_1 := m_push_l hm_1 ml_0
  have ml_1 : _ = 1 := ml_1
  clear hm_1
  refine al_ro' (ro_assign ev_c) trivial rfl ?_
  refine al_stm (st_alloc y30_az46 rfl ml_1) trivial rfl (fun m_2 hm_2 => ?_)
  have mo1_2 := m_push hm_2 ml_1
  simp only [packA_t, packA_f, iE, bE, setAt, cellsA, Value.cells, map_vc, map_vn, Nat.reduceAdd, qS] at mo1_2
  have mo0_2 := m_push_o hm_2 mo0_1
  have ml_2 := m_push_l hm_2 ml_1
  have ml_2 : _ = 2 := ml_2
  clear hm_2 mo0_1
  refine al_ro' (ro_assign ev_c) trivial rfl ?_
  refine al_end (fun e_3 he_3 => ?_)
  have s1_3 := ef 1 he_3 (up_m rfl (u2 rfl up_h))
  have s3_3 := ef 3 he_3 (up_m rfl up_h)
  clear he_3 s0_0
  refine then_n ?_
  refine aw_seq ?_
  refine aw_text (by kernel_rfl) ?_
  refine al_ro' (ro_eq (ro_ld_ptr y30_ty26 rfl mo0_2 s1_3 (by exact Nat.le_of_ble_eq_true rfl)) (by simp only [packA_t, packA_f, iE, bE, setAt, cellsA, Value.cells, map_vc, map_vn, Nat.reduceAdd, qS] <;> rfl)) trivial rfl ?_
  refine al_ro' (ro_call (evL_cons up_h evL_nil) rfl (yOpen_bad l hl hb) y30_hcf39) trivial rfl ?_
  refine al_ro' (ro_move up_h) trivial rfl ?_
  refine al_ro' (ro_extract up_h rfl) trivial rfl ?_
  refine al_ro' (ro_extract (up_m rfl up_h) rfl) trivial rfl ?_
  refine al_ro' (ro_assign (up_m rfl up_h)) trivial rfl ?_
  refine al_ro' (ro_assign (up_m rfl up_h)) trivial rfl ?_
  refine al_end (fun e_4 he_4 => ?_)
  have s3_4 := ef 3 he_4 (up_m rfl (u2 rfl (u4 rfl s3_3)))
  have s5_4 := ef 5 he_4 (up_m rfl up_h)
  have s6_4 := ef 6 he_4 up_h
  clear he_4 s1_3 s3_3
  refine then_n ?_
  refine aw_seq ?_
  refine aw_seq ?_
  refine aw_text (by kernel_rfl) ?_
  refine al_ro' (ro_move s6_4) trivial rfl ?_
  refine al_ro' (ro_neq up_h ev_c) trivial rfl ?_
  refine al_end (fun e_5 he_5 => ?_)
  have s3_5 := ef 3 he_5 (u2 rfl s3_4)
  have s5_5 := ef 5 he_5 (u2 rfl s5_4)
  have s6_5 := ef 6 he_5 (u2 rfl s6_4)
  have s17_5 := ef 17 he_5 up_h
  clear he_5 s3_4 s5_4 s6_4
  refine then_n ?_
  refine aw_case s17_5 (fun hq_6 => ?_) (fun hq_6 => ?_)
  ·replace hq_6 := bnt hq_6
   refine aw_seq ?_
   refine aw_text (by kernel_rfl) ?_
   refine al_ro' (ro_build evP_nil y30_bz46 y30_bu46 y30_bp46 rfl) trivial rfl ?_
   refine al_ro' (ro_move (up_m rfl s6_5)) trivial rfl ?_
   refine al_ro' (ro_assign ev_c) trivial rfl ?_
   refine al_stm (st_store (up_m rfl (u2 rfl s3_5)) (u2 rfl up_h) rfl rfl mo1_2 y30_sz46 rfl (by exact Nat.le_of_ble_eq_true rfl)) trivial rfl (fun m_7 hm_7 => ?_)
   have mo1_7 := m_set hm_7 mo1_2
   simp only [packA_t, packA_f, iE, bE, setAt, cellsA, Value.cells, map_vc, map_vn, Nat.reduceAdd, qS] at mo1_7
   have mo0_7 := m_set_o hm_7 mo0_2 (by decide)
   have ml_7 := m_set_l hm_7 ml_2
   clear hm_7 mo1_2 mo0_2
   refine al_ro' (ro_assign (up_n (up_m rfl up_h))) trivial rfl ?_
   refine al_end (fun e_8 he_8 => ?_)
   have s2_8 := ef 2 he_8 (up_m rfl (up_n up_h))
   have s3_8 := ef 3 he_8 (up_m rfl (up_n (up_m rfl (u2 rfl s3_5))))
   have s4_8 := ef 4 he_8 up_h
   clear he_8 s17_5 s3_5 s5_5 s6_5
   refine then_n ?_
   refine aw_ret ?_
   refine then_r ?_
   refine ret3 (.inr rfl) (by kernel_rfl) (resV_tmp s2_8) (resV_cell s3_8 mo1_7 y30_ty46 (by exact Nat.le_of_ble_eq_true rfl) (by simp)) (resV_tmp s4_8) (.ro _ rfl) (vw_r (.ro _ rfl)) (.ro _ rfl) ?_
   clear s2_8 s3_8 s4_8 mo1_7 mo0_7 ml_7
   rfl
  · replace hq_6 := bnf hq_6; exfalso; omega
set_option maxRecDepth 100000 in
set_option maxHeartbeats 4000000 in
theorem steepestOf_good (l : Lin) (hl : Sho l) (hg : (linM l).2 = 0) : FnOk Try.prog 25 [lnA l] (fun q => q = .tuple [mA (steN l l.bs.length), frA (graX l (steN l l.bs.length)) (graY l (steN l l.bs.length)), mA 0]) := by
  refine fnOk_of (fn := Try.f25) 58 (by kernel_rfl) rfl (by kernel_rfl) (Nat.le_of_ble_eq_true rfl) ?_
  intro e_0 m_0 hA hm_0
  have s0_0 : evA e_0 (.tmp 0) = _ := hA 0 _ rfl
  have ml_0 : m_0.length = 0 := by rw [hm_0]; rfl
  clear hA hm_0
  have h := rgt_of hg; have hn0 := h.n0; have hn1 := h.n1; have g0 := gra_bd h (i := 0) (by omega)
  refine aw_seq ?_
  refine aw_text (by kernel_rfl) ?_
  refine al_stm (st_box s0_0 rfl ml_0) trivial rfl (fun m_1 hm_1 => ?_)
  have mo0_1 := m_push hm_1 ml_0
  have ml_1 := m_push_l hm_1 ml_0
  have ml_1 : _ = 1 := ml_1
  clear hm_1
  refine al_ro' (ro_assign ev_c) trivial rfl ?_
  refine al_stm (st_alloc y30_az46 rfl ml_1) trivial rfl (fun m_2 hm_2 => ?_)
  have mo1_2 := m_push hm_2 ml_1
  simp only [packA_t, packA_f, iE, bE, setAt, cellsA, Value.cells, map_vc, map_vn, Nat.reduceAdd, qS] at mo1_2
  have mo0_2 := m_push_o hm_2 mo0_1
  have ml_2 := m_push_l hm_2 ml_1
  have ml_2 : _ = 2 := ml_2
  clear hm_2 mo0_1
  refine al_ro' (ro_assign ev_c) trivial rfl ?_
  refine al_end (fun e_3 he_3 => ?_)
  have s1_3 := ef 1 he_3 (up_m rfl (u2 rfl up_h))
  have s3_3 := ef 3 he_3 (up_m rfl up_h)
  clear he_3 s0_0
  refine then_n ?_
  refine aw_seq ?_
  refine aw_text (by kernel_rfl) ?_
  refine al_ro' (ro_eq (ro_ld_ptr y30_ty26 rfl mo0_2 s1_3 (by exact Nat.le_of_ble_eq_true rfl)) (by simp only [packA_t, packA_f, iE, bE, setAt, cellsA, Value.cells, map_vc, map_vn, Nat.reduceAdd, qS] <;> rfl)) trivial rfl ?_
  refine al_ro' (ro_call (evL_cons up_h evL_nil) rfl (yOpen_good l hl hg) y30_hcf39) trivial rfl ?_
  refine al_ro' (ro_move up_h) trivial rfl ?_
  refine al_ro' (ro_extract up_h rfl) trivial rfl ?_
  refine al_ro' (ro_extract (up_m rfl up_h) rfl) trivial rfl ?_
  refine al_ro' (ro_assign (up_m rfl up_h)) trivial rfl ?_
  refine al_ro' (ro_assign (up_m rfl up_h)) trivial rfl ?_
  refine al_end (fun e_4 he_4 => ?_)
  have s3_4 := ef 3 he_4 (up_m rfl (u2 rfl (u4 rfl s3_3)))
  have s5_4 := ef 5 he_4 (up_m rfl up_h)
  have s6_4 := ef 6 he_4 up_h
  clear he_4 s1_3 s3_3
  refine then_n ?_
  refine aw_seq ?_
  refine aw_seq ?_
  refine aw_text (by kernel_rfl) ?_
  refine al_ro' (ro_move s6_4) trivial rfl ?_
  refine al_ro' (ro_neq up_h ev_c) trivial rfl ?_
  refine al_end (fun e_5 he_5 => ?_)
  have s3_5 := ef 3 he_5 (u2 rfl s3_4)
  have s5_5 := ef 5 he_5 (u2 rfl s5_4)
  have s6_5 := ef 6 he_5 (u2 rfl s6_4)
  have s17_5 := ef 17 he_5 up_h
  clear he_5 s3_4 s5_4 s6_4
  refine then_n ?_
  refine aw_case s17_5 (fun hq_6 => ?_) (fun hq_6 => ?_)
  · replace hq_6 := bnt hq_6; exfalso; omega
  replace hq_6 := bnf hq_6
  refine aw_skip ?_
  refine then_n ?_
  refine aw_seq ?_
  refine aw_text (by kernel_rfl) ?_
  refine al_ro' (ro_move s5_5) trivial rfl ?_
  refine al_ro' (ro_call (evL_cons up_h (evL_cons ev_c evL_nil)) rfl (gradient_ok l h 0 (by omega)) y30_hcf53) trivial rfl ?_
  refine al_stm (st_alloc y30_az46 rfl ml_2) trivial rfl (fun m_7 hm_7 => ?_)
  have mo2_7 := m_push hm_7 ml_2
  simp only [packA_t, packA_f, iE, bE, setAt, cellsA, Value.cells, map_vc, map_vn, Nat.reduceAdd, qS] at mo2_7
  have mo1_7 := m_push_o hm_7 mo1_2
  have mo0_7 := m_push_o hm_7 mo0_2
  have ml_7 := m_push_l hm_7 ml_2
  have ml_7 : _ = 3 := ml_7
  clear hm_7 mo1_2 mo0_2
  refine al_ro' (ro_assign ev_c) trivial rfl ?_
  refine al_stm (st_store (up_m rfl up_h) (u2 rfl up_h) rfl rfl mo2_7 y30_sz46 rfl (by exact Nat.le_of_ble_eq_true rfl)) trivial rfl (fun m_8 hm_8 => ?_)
  have mo2_8 := m_set hm_8 mo2_7
  simp only [packA_t, packA_f, iE, bE, setAt, cellsA, Value.cells, map_vc, map_vn, Nat.reduceAdd, qS] at mo2_8
  have mo1_8 := m_set_o hm_8 mo1_7 (by decide)
  have mo0_8 := m_set_o hm_8 mo0_7 (by decide)
  have ml_8 := m_set_l hm_8 ml_7
  clear hm_8 mo2_7 mo1_7 mo0_7
  refine al_end (fun e_9 he_9 => ?_)
  have s3_9 := ef 3 he_9 (up_n (u4 rfl s3_5))
  have s5_9 := ef 5 he_9 (up_n (u4 rfl s5_5))
  have s7_9 := ef 7 he_9 (up_n up_h)
  have s8_9 := ef 8 he_9 (up_n (up_m rfl up_h))
  clear he_9 s17_5 s3_5 s5_5 s6_5
  refine then_n ?_
  refine aw_seq ?_
  refine aw_seq ?_
  refine aw_text (by kernel_rfl) ?_
  refine al_ro' (ro_move s5_9) trivial rfl ?_
  refine al_ro' (ro_nilR up_h) trivial rfl ?_
  refine al_ro' (ro_eq (ro_fld_ref y30_fl82_0 rfl up_h) (by simp only [packA_t, packA_f, iE, bE, setAt, cellsA, Value.cells, map_vc, map_vn, Nat.reduceAdd, qS] <;> rfl)) trivial rfl ?_
  refine al_ro' (ro_eq (ro_fld_ref y30_fl26_2 rfl up_h) (by simp only [packA_t, packA_f, iE, bE, setAt, cellsA, Value.cells, map_vc, map_vn, Nat.reduceAdd, qS] <;> rfl)) trivial rfl ?_
  refine al_ro' (ro_eq (ro_ld_ref y30_ty23 rfl up_h (by exact Nat.le_of_ble_eq_true rfl)) (by simp only [packA_t, packA_f, iE, bE, setAt, cellsA, Value.cells, map_vc, map_vn, Nat.reduceAdd, qS] <;> rfl)) trivial rfl ?_
  refine al_ro' (ro_eq (ro_len_row up_h rfl y30_sl23.1) (by simp only [lnS] <;> rfl)) trivial rfl ?_
  refine al_ro' (ro_move ev_c) trivial rfl ?_
  refine al_end (fun e_10 he_10 => ?_)
  have s3_10 := ef 3 he_10 (up_m rfl (u2 rfl (u4 rfl s3_9)))
  have s5_10 := ef 5 he_10 (up_m rfl (u2 rfl (u4 rfl s5_9)))
  have s7_10 := ef 7 he_10 (up_m rfl (u2 rfl (u4 rfl s7_9)))
  have s8_10 := ef 8 he_10 (up_m rfl (u2 rfl (u4 rfl s8_9)))
  have s27_10 := ef 27 he_10 (up_m rfl up_h)
  have s28_10 := ef 28 he_10 up_h
  clear he_10 s3_9 s5_9 s7_9 s8_9
  refine then_n ?_
  refine aw_block ?_
  refine aw_loop (S := (Int × Int)) (fun s e mem => match s with | ⟨k, b⟩ => (evA e (.tmp 28) = .v (.int .i64 k)) ∧ (evA e (.tmp 7) = .v (.int .i64 b)) ∧ (evA e (.tmp 3) = evA e_10 (.tmp 3)) ∧ (evA e (.tmp 5) = evA e_10 (.tmp 5)) ∧ (evA e (.tmp 8) = evA e_10 (.tmp 8)) ∧ (evA e (.tmp 27) = evA e_10 (.tmp 27)) ∧ (mem[2]? = some (.box 46 [mA (graX l b.toNat), mA (graY l b.toNat)])) ∧ (mem[1]? = m_8[1]?) ∧ (mem[0]? = m_8[0]?) ∧ (∃ n, mem.length = n ∧ 3 ≤ n) ∧ ((0 ≤ k ∧ k ≤ l.bs.length ∧ 0 ≤ b ∧ b < l.bs.length ∧ b.toNat = steN l k.toNat))) (fun s => match s with | ⟨k, b⟩ => (l.bs.length - k).toNat) ⟨_, 0⟩ ⟨s28_10, s7_10, rfl, rfl, rfl, rfl, mo2_8, rfl, rfl, ⟨_, ml_8, Nat.le_refl _⟩, ?_⟩ ?_
  · (exact ⟨by omega, by omega, by omega, by omega, rfl⟩)
  · rintro ⟨k, b⟩ e_11 m_11 ⟨s28_11, s7_11, k3_11, k5_11, k8_11, k27_11, mo2_11, mk1_11, mk0_11, ⟨n_11, ml_11, hn_11⟩, hinv⟩
    have s3_11 := k3_11.trans s3_10
    have s5_11 := k5_11.trans s5_10
    have s8_11 := k8_11.trans s8_10
    have s27_11 := k27_11.trans s27_10
    have mo1_11 := mk1_11.trans mo1_8
    have mo0_11 := mk0_11.trans mo0_8
    (obtain ⟨p1, p2, p3, p5, p4⟩ := hinv; have hbb : b.toNat < l.bs.length := (by omega); have gb := gra_bd h hbb)
    refine aw_seq ?_
    refine aw_text (by kernel_rfl) ?_
    refine al_ro' (ro_lss s28_11 s27_11) trivial rfl ?_
    refine al_end (fun e_12 he_12 => ?_)
    have s3_12 := ef 3 he_12 (up_m rfl s3_11)
    have s5_12 := ef 5 he_12 (up_m rfl s5_11)
    have s7_12 := ef 7 he_12 (up_m rfl s7_11)
    have s8_12 := ef 8 he_12 (up_m rfl s8_11)
    have s27_12 := ef 27 he_12 (up_m rfl s27_11)
    have s28_12 := ef 28 he_12 (up_m rfl s28_11)
    have s29_12 := ef 29 he_12 up_h
    clear he_12 s27_11 s28_11 s3_11 s5_11 s7_11 s8_11
    refine then_n ?_
    refine aw_seq ?_
    refine aw_case s29_12 (fun hq_13 => ?_) (fun hq_13 => ?_)
    ·replace hq_13 := bt hq_13
     (have hk : k.toNat < l.bs.length := (by omega); have gk := gradient_ok l h k.toNat hk; rw [show ((k.toNat : Nat) : Int) = k by omega] at gk; have gg := gra_bd h hk; have e1 := ste_bd h hk hbb; have e2 := ste_bd h hbb hk; rw [← max_abs] at e1 e2)
     refine aw_skip ?_
     refine then_n ?_
     refine aw_seq ?_
     refine aw_block ?_
     refine aw_seq ?_
     refine aw_text (by kernel_rfl) ?_
     refine al_ro' (ro_move s28_12) trivial rfl ?_
     refine al_ro' (ro_assign up_h) trivial rfl ?_
     refine al_end (fun e_14 he_14 => ?_)
     have s3_14 := ef 3 he_14 (u2 rfl s3_12)
     have s5_14 := ef 5 he_14 (u2 rfl s5_12)
     have s7_14 := ef 7 he_14 (u2 rfl s7_12)
     have s8_14 := ef 8 he_14 (u2 rfl s8_12)
     have s9_14 := ef 9 he_14 up_h
     have s27_14 := ef 27 he_14 (u2 rfl s27_12)
     have s28_14 := ef 28 he_14 (u2 rfl s28_12)
     clear he_14 s27_12 s28_12 s29_12 s3_12 s5_12 s7_12 s8_12
     refine then_n ?_
     refine aw_seq ?_
     refine aw_text (by kernel_rfl) ?_
     refine al_ro' (ro_move s5_14) trivial rfl ?_
     refine al_ro' (ro_move (up_m rfl s9_14)) trivial rfl ?_
     refine al_ro' (ro_call (evL_cons (up_m rfl up_h) (evL_cons up_h evL_nil)) rfl (gk) y30_hcf53) trivial rfl ?_
     refine al_stm (st_alloc y30_az46 rfl ml_11) trivial rfl (fun m_15 hm_15 => ?_)
     have mon_11_15 := m_push hm_15 ml_11
     simp only [packA_t, packA_f, iE, bE, setAt, cellsA, Value.cells, map_vc, map_vn, Nat.reduceAdd, qS] at mon_11_15
     have mo2_15 := m_push_o hm_15 mo2_11
     have mo1_15 := m_push_o hm_15 mo1_11
     have mo0_15 := m_push_o hm_15 mo0_11
     have ml_15 := m_push_l hm_15 ml_11
     clear hm_15 mo2_11 mo1_11 mo0_11
     refine al_stm (st_store up_h (up_m rfl up_h) rfl rfl mon_11_15 y30_sz46 rfl (by exact Nat.le_of_ble_eq_true rfl)) trivial rfl (fun m_16 hm_16 => ?_)
     have mon_11_16 := m_set hm_16 mon_11_15
     simp only [packA_t, packA_f, iE, bE, setAt, cellsA, Value.cells, map_vc, map_vn, Nat.reduceAdd, qS] at mon_11_16
     have mo2_16 := m_set_o hm_16 mo2_15 (by omega)
     have mo1_16 := m_set_o hm_16 mo1_15 (by omega)
     have mo0_16 := m_set_o hm_16 mo0_15 (by omega)
     have ml_16 := m_set_l hm_16 ml_15
     clear hm_16 mon_11_15 mo2_15 mo1_15 mo0_15
     refine al_end (fun e_17 he_17 => ?_)
     have s3_17 := ef 3 he_17 (up_n (u4 rfl s3_14))
     have s5_17 := ef 5 he_17 (up_n (u4 rfl s5_14))
     have s7_17 := ef 7 he_17 (up_n (u4 rfl s7_14))
     have s8_17 := ef 8 he_17 (up_n (u4 rfl s8_14))
     have s9_17 := ef 9 he_17 (up_n (u4 rfl s9_14))
     have s10_17 := ef 10 he_17 (up_n up_h)
     have s27_17 := ef 27 he_17 (up_n (u4 rfl s27_14))
     have s28_17 := ef 28 he_17 (up_n (u4 rfl s28_14))
     clear he_17 s27_14 s28_14 s3_14 s5_14 s7_14 s8_14 s9_14
     refine then_n ?_
     refine aw_seq ?_
     refine aw_text (by kernel_rfl) ?_
     refine al_ro' (ro_fld_ptr y30_fl46_0 rfl s10_17) trivial rfl ?_
     refine al_ro' (ro_eq (ro_ld_ptr y30_ty3 rfl mon_11_16 up_h (by exact Nat.le_of_ble_eq_true rfl)) (by simp only [packA_t, packA_f, iE, bE, setAt, cellsA, Value.cells, map_vc, map_vn, Nat.reduceAdd, qS] <;> rfl)) trivial rfl ?_
     refine al_ro' (ro_fld_ptr y30_fl46_0 rfl (u2 rfl s10_17)) trivial rfl ?_
     refine al_ro' (ro_eq (ro_ld_ptr y30_ty3 rfl mon_11_16 up_h (by exact Nat.le_of_ble_eq_true rfl)) (by simp only [packA_t, packA_f, iE, bE, setAt, cellsA, Value.cells, map_vc, map_vn, Nat.reduceAdd, qS] <;> rfl)) trivial rfl ?_
     (refine al_ro' (ro_neg' up_h ?_) trivial rfl ?_; · (unfold In64; omega))
     refine al_ro' (ro_max (up_m rfl (u2 rfl up_h)) up_h) trivial rfl ?_
     refine al_ro' (ro_fld_ptr y30_fl46_1 rfl (u2 rfl (u4 rfl s8_17))) trivial rfl ?_
     refine al_ro' (ro_eq (ro_ld_ptr y30_ty3 rfl mo2_16 up_h (by exact Nat.le_of_ble_eq_true rfl)) (by simp only [packA_t, packA_f, iE, bE, setAt, cellsA, Value.cells, map_vc, map_vn, Nat.reduceAdd, qS] <;> rfl)) trivial rfl ?_
     (refine al_ro' (ro_mul' (u2 rfl up_h) up_h ?_) trivial rfl ?_; · (unfold In64; omega))
     refine al_ro' (ro_fld_ptr y30_fl46_0 rfl (up_m rfl (u8 rfl s8_17))) trivial rfl ?_
     refine al_ro' (ro_eq (ro_ld_ptr y30_ty3 rfl mo2_16 up_h (by exact Nat.le_of_ble_eq_true rfl)) (by simp only [packA_t, packA_f, iE, bE, setAt, cellsA, Value.cells, map_vc, map_vn, Nat.reduceAdd, qS] <;> rfl)) trivial rfl ?_
     refine al_ro' (ro_fld_ptr y30_fl46_0 rfl (up_m rfl (u2 rfl (u8 rfl s8_17)))) trivial rfl ?_
     refine al_ro' (ro_eq (ro_ld_ptr y30_ty3 rfl mo2_16 up_h (by exact Nat.le_of_ble_eq_true rfl)) (by simp only [packA_t, packA_f, iE, bE, setAt, cellsA, Value.cells, map_vc, map_vn, Nat.reduceAdd, qS] <;> rfl)) trivial rfl ?_
     (refine al_ro' (ro_neg' up_h ?_) trivial rfl ?_; · (unfold In64; omega))
     refine al_ro' (ro_max (up_m rfl (u2 rfl up_h)) up_h) trivial rfl ?_
     refine al_ro' (ro_fld_ptr y30_fl46_1 rfl (up_m rfl (u2 rfl (u4 rfl (u8 rfl s10_17))))) trivial rfl ?_
     refine al_ro' (ro_eq (ro_ld_ptr y30_ty3 rfl mon_11_16 up_h (by exact Nat.le_of_ble_eq_true rfl)) (by simp only [packA_t, packA_f, iE, bE, setAt, cellsA, Value.cells, map_vc, map_vn, Nat.reduceAdd, qS] <;> rfl)) trivial rfl ?_
     (refine al_ro' (ro_mul' (u2 rfl up_h) up_h ?_) trivial rfl ?_; · (unfold In64; omega))
     refine al_ro' (ro_gtr (up_m rfl (u8 rfl up_h)) up_h) trivial rfl ?_
     refine al_end (fun e_18 he_18 => ?_)
     have s3_18 := ef 3 he_18 (up_m rfl (u2 rfl (u16 rfl s3_17)))
     have s5_18 := ef 5 he_18 (up_m rfl (u2 rfl (u16 rfl s5_17)))
     have s7_18 := ef 7 he_18 (up_m rfl (u2 rfl (u16 rfl s7_17)))
     have s8_18 := ef 8 he_18 (up_m rfl (u2 rfl (u16 rfl s8_17)))
     have s9_18 := ef 9 he_18 (up_m rfl (u2 rfl (u16 rfl s9_17)))
     have s10_18 := ef 10 he_18 (up_m rfl (u2 rfl (u16 rfl s10_17)))
     have s27_18 := ef 27 he_18 (up_m rfl (u2 rfl (u16 rfl s27_17)))
     have s28_18 := ef 28 he_18 (up_m rfl (u2 rfl (u16 rfl s28_17)))
     have s52_18 := ef 52 he_18 up_h
     clear he_18 s10_17 s27_17 s28_17 s3_17 s5_17 s7_17 s8_17 s9_17
     refine then_n ?_
     refine aw_case s52_18 (fun hq_19 => ?_) (fun hq_19 => ?_)
     ·replace hq_19 := bt hq_19
      refine aw_draw 3 (by kernel_rfl) (by kernel_rfl) (by kernel_rfl) (by kernel_rfl) ?_
      refine ds_ro' (ro_move s9_18) trivial rfl ?_
      refine ds_ro' (ro_eq (ro_ld_ptr y30_ty46 rfl mon_11_16 (up_m rfl s10_18) (by exact Nat.le_of_ble_eq_true rfl)) (by simp only [packA_t, packA_f, iE, bE, setAt, cellsA, Value.cells, map_vc, map_vn, Nat.reduceAdd, qS] <;> rfl)) trivial rfl ?_
      refine ds_ro' (ro_assign (up_m rfl up_h)) trivial rfl ?_
      refine ds_nil ?_
      refine al_stm (st_store (up_m rfl (u2 rfl s8_18)) (up_m rfl up_h) rfl rfl mo2_16 y30_sz46 rfl (by exact Nat.le_of_ble_eq_true rfl)) trivial rfl (fun m_20 hm_20 => ?_)
      have mo2_20 := m_set hm_20 mo2_16
      simp only [packA_t, packA_f, iE, bE, setAt, cellsA, Value.cells, map_vc, map_vn, Nat.reduceAdd, qS] at mo2_20
      have mon_11_20 := m_set_o hm_20 mon_11_16 (by omega)
      have mo1_20 := m_set_o hm_20 mo1_16 (by decide)
      have mo0_20 := m_set_o hm_20 mo0_16 (by decide)
      have ml_20 := m_set_l hm_20 ml_16
      clear hm_20 mon_11_16 mo2_16 mo1_16 mo0_16
      refine al_end (fun e_21 he_21 => ?_)
      have s3_21 := ef 3 he_21 (up_n (up_m rfl (u2 rfl s3_18)))
      have s5_21 := ef 5 he_21 (up_n (up_m rfl (u2 rfl s5_18)))
      have s7_21 := ef 7 he_21 (up_n up_h)
      have s8_21 := ef 8 he_21 (up_n (up_m rfl (u2 rfl s8_18)))
      have s27_21 := ef 27 he_21 (up_n (up_m rfl (u2 rfl s27_18)))
      have s28_21 := ef 28 he_21 (up_n (up_m rfl (u2 rfl s28_18)))
      clear he_21 s10_18 s27_18 s28_18 s3_18 s52_18 s5_18 s7_18 s8_18 s9_18
      refine block_n ?_
      refine then_n ?_
      refine aw_text (by kernel_rfl) ?_
      (refine al_ro' (ro_add' s28_21 ev_c ?_) trivial rfl ?_; · (unfold In64; omega))
      refine al_ro' (ro_move up_h) trivial rfl ?_
      refine al_end (fun e_22 he_22 => ?_)
      have s3_22 := ef 3 he_22 (u2 rfl s3_21)
      have s5_22 := ef 5 he_22 (u2 rfl s5_21)
      have s7_22 := ef 7 he_22 (u2 rfl s7_21)
      have s8_22 := ef 8 he_22 (u2 rfl s8_21)
      have s27_22 := ef 27 he_22 (u2 rfl s27_21)
      have s28_22 := ef 28 he_22 up_h
      clear he_22 s27_21 s28_21 s3_21 s5_21 s7_21 s8_21
      refine then_n ?_
      refine ⟨⟨_, _⟩, ⟨s28_22, s7_22, (s3_22.trans s3_10.symm), (s5_22.trans s5_10.symm), (s8_22.trans s8_10.symm), (s27_22.trans s27_10.symm), mo2_20, (mo1_20.trans mo1_8.symm), (mo0_20.trans mo0_8.symm), ⟨_, ml_20, by omega⟩, ?_⟩, ?_⟩
      · (refine ⟨by omega, by omega, by omega, by omega, ?_⟩; rw [show (k + 1).toNat = k.toNat + 1 by omega]; first | (rw [steN_T p4 (by assumption)]; done) | (rw [steN_F p4 (by assumption)]; done))
      · ((try dsimp only); omega)
     replace hq_19 := bf hq_19
     refine aw_skip ?_
     refine block_n ?_
     refine then_n ?_
     refine aw_text (by kernel_rfl) ?_
     (refine al_ro' (ro_add' s28_18 ev_c ?_) trivial rfl ?_; · (unfold In64; omega))
     refine al_ro' (ro_move up_h) trivial rfl ?_
     refine al_end (fun e_23 he_23 => ?_)
     have s3_23 := ef 3 he_23 (u2 rfl s3_18)
     have s5_23 := ef 5 he_23 (u2 rfl s5_18)
     have s7_23 := ef 7 he_23 (u2 rfl s7_18)
     have s8_23 := ef 8 he_23 (u2 rfl s8_18)
     have s27_23 := ef 27 he_23 (u2 rfl s27_18)
     have s28_23 := ef 28 he_23 up_h
     clear he_23 s10_18 s27_18 s28_18 s3_18 s52_18 s5_18 s7_18 s8_18 s9_18
     refine then_n ?_
     refine ⟨⟨_, _⟩, ⟨s28_23, s7_23, (s3_23.trans s3_10.symm), (s5_23.trans s5_10.symm), (s8_23.trans s8_10.symm), (s27_23.trans s27_10.symm), mo2_16, (mo1_16.trans mo1_8.symm), (mo0_16.trans mo0_8.symm), ⟨_, ml_16, by omega⟩, ?_⟩, ?_⟩
     · (refine ⟨by omega, by omega, by omega, by omega, ?_⟩; rw [show (k + 1).toNat = k.toNat + 1 by omega]; first | (rw [steN_T p4 (by assumption)]; done) | (rw [steN_F p4 (by assumption)]; done))
     · ((try dsimp only); omega)
    replace hq_13 := bf hq_13
    refine aw_exit ?_
    refine then_x ?_
    refine then_x ?_
    refine block_hit ?_
    refine then_n ?_
    refine aw_seq ?_
    refine aw_draw 3 (by kernel_rfl) (by kernel_rfl) (by kernel_rfl) (by kernel_rfl) ?_
    refine ds_ro' (ro_move s7_12) trivial rfl ?_
    refine ds_ro' (ro_eq (ro_ld_ptr y30_ty46 rfl mo2_11 (up_m rfl s8_12) (by exact Nat.le_of_ble_eq_true rfl)) (by simp only [packA_t, packA_f, iE, bE, setAt, cellsA, Value.cells, map_vc, map_vn, Nat.reduceAdd, qS] <;> rfl)) trivial rfl ?_
    refine ds_ro' (ro_assign (up_m rfl up_h)) trivial rfl ?_
    refine ds_nil ?_
    refine al_stm (st_store (up_m rfl (u2 rfl s3_12)) (up_m rfl up_h) rfl rfl mo1_11 y30_sz46 rfl (by exact Nat.le_of_ble_eq_true rfl)) trivial rfl (fun m_24 hm_24 => ?_)
    have mo1_24 := m_set hm_24 mo1_11
    simp only [packA_t, packA_f, iE, bE, setAt, cellsA, Value.cells, map_vc, map_vn, Nat.reduceAdd, qS] at mo1_24
    have mo2_24 := m_set_o hm_24 mo2_11 (by decide)
    have mo0_24 := m_set_o hm_24 mo0_11 (by decide)
    have ml_24 := m_set_l hm_24 ml_11
    clear hm_24 mo2_11 mo1_11 mo0_11
    refine al_ro' (ro_assign ev_c) trivial rfl ?_
    refine al_end (fun e_25 he_25 => ?_)
    have s2_25 := ef 2 he_25 (up_m rfl (up_n up_h))
    have s3_25 := ef 3 he_25 (up_m rfl (up_n (up_m rfl (u2 rfl s3_12))))
    have s4_25 := ef 4 he_25 up_h
    clear he_25 s27_12 s28_12 s29_12 s3_12 s5_12 s7_12 s8_12
    refine then_n ?_
    refine aw_ret ?_
    refine ret3 (.inr rfl) (by kernel_rfl) (resV_tmp s2_25) (resV_cell s3_25 mo1_24 y30_ty46 (by exact Nat.le_of_ble_eq_true rfl) (by simp)) (resV_tmp s4_25) (.ro _ rfl) (vw_r (.ro _ rfl)) (.ro _ rfl) ?_
    clear s2_25 s3_25 s4_25 mo1_24 mo2_24 mo0_24 ml_24
    (have hk : k.toNat = l.bs.length := (by omega); rw [hk] at p4; have hb : b = (steN l l.bs.length : Int) := (by omega); rw [p4, hb]; rfl)
set_option maxRecDepth 100000 in
set_option maxHeartbeats 1000000 in
theorem cmp_ok (a b c d : Int) (h1 : -4000000000000000000 ≤ a * d ∧ a * d ≤ 4000000000000000000) (h2 : -4000000000000000000 ≤ c * b ∧ c * b ≤ 4000000000000000000) : FnOk Try.prog 58 [frA a b, frA c d] (fun q => q = mA (if a * d < c * b then -1 else if c * b < a * d then 1 else 0)) := by
  refine fnOk_of (fn := Try.f58) 23 (by kernel_rfl) rfl (by kernel_rfl) (Nat.le_of_ble_eq_true rfl) ?_
  intro e_0 m_0 hA hm_0
  have s0_0 : evA e_0 (.tmp 0) = _ := hA 0 _ rfl
  have s1_0 : evA e_0 (.tmp 1) = _ := hA 1 _ rfl
  have ml_0 : m_0.length = 0 := by rw [hm_0]; rfl
  clear hA hm_0
  refine aw_seq ?_
  refine aw_text (by kernel_rfl) ?_
  refine al_stm (st_box s0_0 rfl ml_0) trivial rfl (fun m_1 hm_1 => ?_)
  have mo0_1 := m_push hm_1 ml_0
  have ml_1 := m_push_l hm_1 ml_0
  have ml_1 : _ = 1 := ml_1
  clear hm_1
  refine al_stm (st_box (up_m rfl s1_0) rfl ml_1) trivial rfl (fun m_2 hm_2 => ?_)
  have mo1_2 := m_push hm_2 ml_1
  have mo0_2 := m_push_o hm_2 mo0_1
  have ml_2 := m_push_l hm_2 ml_1
  have ml_2 : _ = 2 := ml_2
  clear hm_2 mo0_1
  refine al_ro' (ro_assign ev_c) trivial rfl ?_
  refine al_end (fun e_3 he_3 => ?_)
  have s2_3 := ef 2 he_3 (u2 rfl up_h)
  have s3_3 := ef 3 he_3 (up_m rfl up_h)
  clear he_3 s0_0 s1_0
  refine then_n ?_
  refine aw_seq ?_
  refine aw_draw 12 (by kernel_rfl) (by kernel_rfl) (by kernel_rfl) (by kernel_rfl) ?_
  refine ds_ro' (ro_fld_ptr y30_fl46_0 rfl s2_3) trivial rfl ?_
  refine ds_ro' (ro_eq (ro_ld_ptr y30_ty3 rfl mo0_2 up_h (by exact Nat.le_of_ble_eq_true rfl)) (by simp only [packA_t, packA_f, iE, bE, setAt, cellsA, Value.cells, map_vc, map_vn, Nat.reduceAdd, qS] <;> rfl)) trivial rfl ?_
  refine ds_ro' (ro_fld_ptr y30_fl46_1 rfl (u2 rfl s3_3)) trivial rfl ?_
  refine ds_ro' (ro_eq (ro_ld_ptr y30_ty3 rfl mo1_2 up_h (by exact Nat.le_of_ble_eq_true rfl)) (by simp only [packA_t, packA_f, iE, bE, setAt, cellsA, Value.cells, map_vc, map_vn, Nat.reduceAdd, qS] <;> rfl)) trivial rfl ?_
  (refine ds_ro' (ro_mul' (u2 rfl up_h) up_h ?_) trivial rfl ?_; · (unfold In64; omega))
  refine ds_ro' (ro_fld_ptr y30_fl46_0 rfl (up_m rfl (u4 rfl s3_3))) trivial rfl ?_
  refine ds_ro' (ro_eq (ro_ld_ptr y30_ty3 rfl mo1_2 up_h (by exact Nat.le_of_ble_eq_true rfl)) (by simp only [packA_t, packA_f, iE, bE, setAt, cellsA, Value.cells, map_vc, map_vn, Nat.reduceAdd, qS] <;> rfl)) trivial rfl ?_
  refine ds_ro' (ro_fld_ptr y30_fl46_1 rfl (up_m rfl (u2 rfl (u4 rfl s2_3)))) trivial rfl ?_
  refine ds_ro' (ro_eq (ro_ld_ptr y30_ty3 rfl mo0_2 up_h (by exact Nat.le_of_ble_eq_true rfl)) (by simp only [packA_t, packA_f, iE, bE, setAt, cellsA, Value.cells, map_vc, map_vn, Nat.reduceAdd, qS] <;> rfl)) trivial rfl ?_
  (refine ds_ro' (ro_mul' (u2 rfl up_h) up_h ?_) trivial rfl ?_; · (unfold In64; omega))
  refine ds_ro' (ro_assign (up_m rfl (u4 rfl up_h))) trivial rfl ?_
  refine ds_ro' (ro_assign (up_m rfl up_h)) trivial rfl ?_
  refine ds_nil ?_
  refine al_end (fun e_4 he_4 => ?_)
  have s5_4 := ef 5 he_4 (up_m rfl up_h)
  have s6_4 := ef 6 he_4 up_h
  clear he_4 s2_3 s3_3
  refine then_n ?_
  refine aw_seq ?_
  refine aw_seq ?_
  refine aw_text (by kernel_rfl) ?_
  refine al_ro' (ro_move s5_4) trivial rfl ?_
  refine al_ro' (ro_move (up_m rfl s6_4)) trivial rfl ?_
  refine al_ro' (ro_lss (up_m rfl up_h) up_h) trivial rfl ?_
  refine al_end (fun e_5 he_5 => ?_)
  have s5_5 := ef 5 he_5 (up_m rfl (u2 rfl s5_4))
  have s6_5 := ef 6 he_5 (up_m rfl (u2 rfl s6_4))
  have s19_5 := ef 19 he_5 up_h
  clear he_5 s5_4 s6_4
  refine then_n ?_
  refine aw_case s19_5 (fun hq_6 => ?_) (fun hq_6 => ?_)
  ·replace hq_6 := bt hq_6
   refine aw_seq ?_
   refine aw_text (by kernel_rfl) ?_
   refine al_ro' (ro_assign ev_c) trivial rfl ?_
   refine al_end (fun e_7 he_7 => ?_)
   have s4_7 := ef 4 he_7 up_h
   clear he_7 s19_5 s5_5 s6_5
   refine then_n ?_
   refine aw_ret ?_
   refine then_r ?_
   refine ret1 (.inr rfl) (by kernel_rfl) (resV_tmp s4_7) (.ro _ rfl) ?_
   clear s4_7 mo1_2 mo0_2 ml_2
   (simp_all; try omega)
  replace hq_6 := bf hq_6
  refine aw_skip ?_
  refine then_n ?_
  refine aw_seq ?_
  refine aw_seq ?_
  refine aw_text (by kernel_rfl) ?_
  refine al_ro' (ro_move s5_5) trivial rfl ?_
  refine al_ro' (ro_move (up_m rfl s6_5)) trivial rfl ?_
  refine al_ro' (ro_gtr (up_m rfl up_h) up_h) trivial rfl ?_
  refine al_end (fun e_8 he_8 => ?_)
  have s22_8 := ef 22 he_8 up_h
  clear he_8 s19_5 s5_5 s6_5
  refine then_n ?_
  refine aw_case s22_8 (fun hq_9 => ?_) (fun hq_9 => ?_)
  ·replace hq_9 := bt hq_9
   refine aw_seq ?_
   refine aw_text (by kernel_rfl) ?_
   refine al_ro' (ro_assign ev_c) trivial rfl ?_
   refine al_end (fun e_10 he_10 => ?_)
   have s4_10 := ef 4 he_10 up_h
   clear he_10 s22_8
   refine then_n ?_
   refine aw_ret ?_
   refine then_r ?_
   refine ret1 (.inr rfl) (by kernel_rfl) (resV_tmp s4_10) (.ro _ rfl) ?_
   clear s4_10 mo1_2 mo0_2 ml_2
   (simp_all; try omega)
  replace hq_9 := bf hq_9
  refine aw_skip ?_
  refine then_n ?_
  refine aw_seq ?_
  refine aw_text (by kernel_rfl) ?_
  refine al_ro' (ro_assign ev_c) trivial rfl ?_
  refine al_end (fun e_11 he_11 => ?_)
  have s4_11 := ef 4 he_11 up_h
  clear he_11 s22_8
  refine then_n ?_
  refine aw_ret ?_
  refine ret1 (.inr rfl) (by kernel_rfl) (resV_tmp s4_11) (.ro _ rfl) ?_
  clear s4_11 mo1_2 mo0_2 ml_2
  (simp_all; try omega)
set_option maxRecDepth 100000 in
set_option maxHeartbeats 4000000 in
theorem rSteepestOf_ok (l : Lin) (h : Rgt l) : FnOk Try.prog 27 [lnA l] (fun q => q = .tuple [mA (steN l l.bs.length), frA (graX l (steN l l.bs.length)) (graY l (steN l l.bs.length))]) := by
  refine fnOk_of (fn := Try.f27) 40 (by kernel_rfl) rfl (by kernel_rfl) (Nat.le_of_ble_eq_true rfl) ?_
  intro e_0 m_0 hA hm_0
  have s0_0 : evA e_0 (.tmp 0) = _ := hA 0 _ rfl
  have ml_0 : m_0.length = 0 := by rw [hm_0]; rfl
  clear hA hm_0
  have hn0 := h.n0; have hn1 := h.n1
  refine aw_seq ?_
  refine aw_text (by kernel_rfl) ?_
  refine al_stm (st_box s0_0 rfl ml_0) trivial rfl (fun m_1 hm_1 => ?_)
  have mo0_1 := m_push hm_1 ml_0
  have ml_1 := m_push_l hm_1 ml_0
  have ml_1 : _ = 1 := ml_1
  clear hm_1
  refine al_ro' (ro_assign ev_c) trivial rfl ?_
  refine al_stm (st_alloc y30_az46 rfl ml_1) trivial rfl (fun m_2 hm_2 => ?_)
  have mo1_2 := m_push hm_2 ml_1
  simp only [packA_t, packA_f, iE, bE, setAt, cellsA, Value.cells, map_vc, map_vn, Nat.reduceAdd, qS] at mo1_2
  have mo0_2 := m_push_o hm_2 mo0_1
  have ml_2 := m_push_l hm_2 ml_1
  have ml_2 : _ = 2 := ml_2
  clear hm_2 mo0_1
  refine al_end (fun e_3 he_3 => ?_)
  have s1_3 := ef 1 he_3 (u2 rfl up_h)
  have s3_3 := ef 3 he_3 up_h
  clear he_3 s0_0
  refine then_n ?_
  refine aw_seq ?_
  refine aw_text (by kernel_rfl) ?_
  refine al_ro' (ro_assign ev_c) trivial rfl ?_
  refine al_end (fun e_4 he_4 => ?_)
  have s1_4 := ef 1 he_4 (up_m rfl s1_3)
  have s3_4 := ef 3 he_4 (up_m rfl s3_3)
  have s4_4 := ef 4 he_4 up_h
  clear he_4 s1_3 s3_3
  refine then_n ?_
  refine aw_seq ?_
  refine aw_seq ?_
  refine aw_text (by kernel_rfl) ?_
  refine al_ro' (ro_assign ev_c) trivial rfl ?_
  refine al_end (fun e_5 he_5 => ?_)
  have s1_5 := ef 1 he_5 (up_m rfl s1_4)
  have s3_5 := ef 3 he_5 (up_m rfl s3_4)
  have s4_5 := ef 4 he_5 (up_m rfl s4_4)
  have s5_5 := ef 5 he_5 up_h
  clear he_5 s1_4 s3_4 s4_4
  refine then_n ?_
  refine aw_block ?_
  refine aw_loop (S := (Int × Int)) (fun s e mem => match s with | ⟨k, b⟩ => (evA e (.tmp 5) = .v (.int .i64 k)) ∧ (evA e (.tmp 4) = .v (.int .i64 b)) ∧ (evA e (.tmp 1) = evA e_5 (.tmp 1)) ∧ (evA e (.tmp 3) = evA e_5 (.tmp 3)) ∧ (mem[1]? = m_2[1]?) ∧ (mem[0]? = m_2[0]?) ∧ (∃ n, mem.length = n ∧ 2 ≤ n) ∧ ((1 ≤ k ∧ k ≤ l.bs.length ∧ 0 ≤ b ∧ b < l.bs.length ∧ b.toNat = steN l k.toNat))) (fun s => match s with | ⟨k, b⟩ => (l.bs.length - k).toNat) ⟨_, _⟩ ⟨s5_5, s4_5, rfl, rfl, rfl, rfl, ⟨_, ml_2, Nat.le_refl _⟩, ?_⟩ ?_
  · (exact ⟨by omega, by omega, by omega, by omega, (steN_1 l).symm⟩)
  · rintro ⟨k, b⟩ e_6 m_6 ⟨s5_6, s4_6, k1_6, k3_6, mk1_6, mk0_6, ⟨n_6, ml_6, hn_6⟩, hinv⟩
    have s1_6 := k1_6.trans s1_5
    have s3_6 := k3_6.trans s3_5
    have mo1_6 := mk1_6.trans mo1_2
    have mo0_6 := mk0_6.trans mo0_2
    (obtain ⟨p1, p2, p3, p5, p4⟩ := hinv; have hbb : b.toNat < l.bs.length := (by omega); have gb := gra_bd h hbb; have gb2 := rGradientOf_ok l h b.toNat hbb; rw [show ((b.toNat : Nat) : Int) = b by omega] at gb2)
    refine aw_seq ?_
    refine aw_seq ?_
    refine aw_text (by kernel_rfl) ?_
    refine al_ro' (ro_move s5_6) trivial rfl ?_
    refine al_ro' (ro_fld_ptr y30_fl26_2 rfl (up_m rfl s1_6)) trivial rfl ?_
    refine al_ro' (ro_eq (ro_ld_ptr y30_ty23 rfl mo0_6 up_h (by exact Nat.le_of_ble_eq_true rfl)) (by simp only [packA_t, packA_f, iE, bE, setAt, cellsA, Value.cells, map_vc, map_vn, Nat.reduceAdd, qS] <;> rfl)) trivial rfl ?_
    refine al_ro' (ro_eq (ro_len_row up_h rfl y30_sl23.1) (by simp only [lnS] <;> rfl)) trivial rfl ?_
    refine al_ro' (ro_lss (up_m rfl (u2 rfl up_h)) up_h) trivial rfl ?_
    refine al_end (fun e_7 he_7 => ?_)
    have s1_7 := ef 1 he_7 (up_m rfl (u4 rfl s1_6))
    have s3_7 := ef 3 he_7 (up_m rfl (u4 rfl s3_6))
    have s4_7 := ef 4 he_7 (up_m rfl (u4 rfl s4_6))
    have s5_7 := ef 5 he_7 (up_m rfl (u4 rfl s5_6))
    have s12_7 := ef 12 he_7 up_h
    clear he_7 s1_6 s3_6 s4_6 s5_6
    refine then_n ?_
    refine aw_case s12_7 (fun hq_8 => ?_) (fun hq_8 => ?_)
    ·replace hq_8 := bt hq_8
     (have hk : k.toNat < l.bs.length := (by omega); have gk := rGradientOf_ok l h k.toNat hk; rw [show ((k.toNat : Nat) : Int) = k by omega] at gk; have gg := gra_bd h hk; have e1 := ste_bd h hk hbb; have e2 := ste_bd h hbb hk)
     refine aw_skip ?_
     refine then_n ?_
     refine aw_seq ?_
     refine aw_block ?_
     refine aw_seq ?_
     refine aw_drawK 8 2 ml_6 (by kernel_rfl) (by kernel_rfl) (by kernel_rfl) (by kernel_rfl) (fun m_9 hm_9 => ?_)
     have mo1_9 := m_room_o hm_9 mo1_6
     have mo0_9 := m_room_o hm_9 mo0_6
     have mon_6_9 : m_9[n_6]? = _ := m_room_g hm_9 ml_6 0 rfl rfl
     have mon_6_1_9 : m_9[n_6 + 1]? = _ := m_room_g hm_9 ml_6 1 rfl rfl
     have ml_9 : _ = n_6 + 2 := m_room_l (K := 2) hm_9 ml_6
     clear hm_9 mo1_6 mo0_6 ml_6
     refine dh_ld (0) (fun M_ hM_ => (ro_eq (ro_ld_ptr y30_ty26 rfl (agr hM_ mo0_9 (by simp)) s1_7 (by exact Nat.le_of_ble_eq_true rfl)) (by simp only [packA_t, packA_f, iE, bE, setAt, cellsA, Value.cells, map_vc, map_vn, Nat.reduceAdd, qS] <;> rfl))) trivial trivial ?_
     refine dh_ro (fun M_ hM_ => (ro_move (up_m rfl s5_7))) trivial ?_
     refine dh_ro (fun M_ hM_ => (ro_call (evL_cons (up_m rfl up_h) (evL_cons up_h evL_nil)) rfl (gk) y30_hcf29)) trivial ?_
     refine dh_ld (0) (fun M_ hM_ => (ro_eq (ro_ld_ptr y30_ty26 rfl (agr hM_ mo0_9 (by simp)) (up_m rfl (u2 rfl s1_7)) (by exact Nat.le_of_ble_eq_true rfl)) (by simp only [packA_t, packA_f, iE, bE, setAt, cellsA, Value.cells, map_vc, map_vn, Nat.reduceAdd, qS] <;> rfl))) trivial trivial ?_
     refine dh_ro (fun M_ hM_ => (ro_move (u4 rfl s4_7))) trivial ?_
     refine dh_ro (fun M_ hM_ => (ro_call (evL_cons (up_m rfl up_h) (evL_cons up_h evL_nil)) rfl (gb2) y30_hcf29)) trivial ?_
     refine dh_nw (n_6) (fun M_ hM_ => (nw_alloc y30_az46 rfl)) trivial mon_6_9 rfl trivial ⟨.inl (by simp <;> omega), ⟨.inl (by simp <;> omega), trivial⟩⟩ (fun m_10 hm_10 => ?_)
     have mon_6_10 := m_set hm_10 mon_6_9
     simp only [packA_t, packA_f, iE, bE, setAt, cellsA, Value.cells, map_vc, map_vn, Nat.reduceAdd, qS] at mon_6_10
     have mo1_10 := m_set_o hm_10 mo1_9 (by omega)
     have mo0_10 := m_set_o hm_10 mo0_9 (by omega)
     have mon_6_1_10 := m_set_o hm_10 mon_6_1_9 (by omega)
     have ml_10 := m_set_l hm_10 ml_9
     clear hm_10 mo1_9 mo0_9 mon_6_9 mon_6_1_9
     refine dh_nw (n_6 + 1) (fun M_ hM_ => (nw_alloc y30_az46 rfl)) trivial mon_6_1_10 rfl ⟨.inl (by simp <;> omega), trivial⟩ ⟨.inl (by simp <;> omega), ⟨.inl (by simp <;> omega), ⟨.inl (by simp <;> omega), trivial⟩⟩⟩ (fun m_11 hm_11 => ?_)
     have mon_6_1_11 := m_set hm_11 mon_6_1_10
     simp only [packA_t, packA_f, iE, bE, setAt, cellsA, Value.cells, map_vc, map_vn, Nat.reduceAdd, qS] at mon_6_1_11
     have mon_6_11 := m_set_o hm_11 mon_6_10 (by omega)
     have mo1_11 := m_set_o hm_11 mo1_10 (by omega)
     have mo0_11 := m_set_o hm_11 mo0_10 (by omega)
     have ml_11 := m_set_l hm_11 ml_10
     clear hm_11 mon_6_10 mo1_10 mo0_10 mon_6_1_10
     refine dh_nil rfl ?_
     refine al_stm (st_store (up_m rfl up_h) (up_m rfl (u4 rfl up_h)) rfl rfl mon_6_11 y30_sz46 rfl (by exact Nat.le_of_ble_eq_true rfl)) trivial rfl (fun m_12 hm_12 => ?_)
     have mon_6_12 := m_set hm_12 mon_6_11
     simp only [packA_t, packA_f, iE, bE, setAt, cellsA, Value.cells, map_vc, map_vn, Nat.reduceAdd, qS] at mon_6_12
     have mon_6_1_12 := m_set_o hm_12 mon_6_1_11 (by omega)
     have mo1_12 := m_set_o hm_12 mo1_11 (by omega)
     have mo0_12 := m_set_o hm_12 mo0_11 (by omega)
     have ml_12 := m_set_l hm_12 ml_11
     clear hm_12 mon_6_1_11 mon_6_11 mo1_11 mo0_11
     refine al_stm (st_store (up_n up_h) (up_n (u2 rfl up_h)) rfl rfl mon_6_1_12 y30_sz46 rfl (by exact Nat.le_of_ble_eq_true rfl)) trivial rfl (fun m_13 hm_13 => ?_)
     have mon_6_1_13 := m_set hm_13 mon_6_1_12
     simp only [packA_t, packA_f, iE, bE, setAt, cellsA, Value.cells, map_vc, map_vn, Nat.reduceAdd, qS] at mon_6_1_13
     have mon_6_13 := m_set_o hm_13 mon_6_12 (by omega)
     have mo1_13 := m_set_o hm_13 mo1_12 (by omega)
     have mo0_13 := m_set_o hm_13 mo0_12 (by omega)
     have ml_13 := m_set_l hm_13 ml_12
     clear hm_13 mon_6_12 mon_6_1_12 mo1_12 mo0_12
     refine al_end (fun e_14 he_14 => ?_)
     have s1_14 := ef 1 he_14 (up_n (up_n (u8 rfl s1_7)))
     have s3_14 := ef 3 he_14 (up_n (up_n (u8 rfl s3_7)))
     have s4_14 := ef 4 he_14 (up_n (up_n (u8 rfl s4_7)))
     have s5_14 := ef 5 he_14 (up_n (up_n (u8 rfl s5_7)))
     have s6_14 := ef 6 he_14 (up_n (up_n (up_m rfl up_h)))
     have s7_14 := ef 7 he_14 (up_n (up_n up_h))
     clear he_14 s12_7 s1_7 s3_7 s4_7 s5_7
     refine then_n ?_
     refine aw_seq ?_
     refine aw_draw 14 (by kernel_rfl) (by kernel_rfl) (by kernel_rfl) (by kernel_rfl) ?_
     refine ds_ro' (ro_fld_ptr y30_fl46_0 rfl s6_14) trivial rfl ?_
     refine ds_ro' (ro_eq (ro_ld_ptr y30_ty3 rfl mon_6_13 up_h (by exact Nat.le_of_ble_eq_true rfl)) (by simp only [packA_t, packA_f, iE, bE, setAt, cellsA, Value.cells, map_vc, map_vn, Nat.reduceAdd, qS] <;> rfl)) trivial rfl ?_
     refine ds_ro' (ro_call (evL_cons up_h evL_nil) rfl (size0_ok _ (by omega)) y30_hcf59) trivial rfl ?_
     refine ds_ro' (ro_fld_ptr y30_fl46_1 rfl (up_m rfl (u2 rfl s6_14))) trivial rfl ?_
     refine ds_ro' (ro_eq (ro_ld_ptr y30_ty3 rfl mon_6_13 up_h (by exact Nat.le_of_ble_eq_true rfl)) (by simp only [packA_t, packA_f, iE, bE, setAt, cellsA, Value.cells, map_vc, map_vn, Nat.reduceAdd, qS] <;> rfl)) trivial rfl ?_
     refine ds_ro' (ro_build (evP_cons (u2 rfl up_h) (evP_cons up_h evP_nil)) y30_bz46 y30_bu46 y30_bp46 rfl) trivial rfl ?_
     refine ds_ro' (ro_fld_ptr y30_fl46_0 rfl (u2 rfl (u4 rfl s7_14))) trivial rfl ?_
     refine ds_ro' (ro_eq (ro_ld_ptr y30_ty3 rfl mon_6_1_13 up_h (by exact Nat.le_of_ble_eq_true rfl)) (by simp only [packA_t, packA_f, iE, bE, setAt, cellsA, Value.cells, map_vc, map_vn, Nat.reduceAdd, qS] <;> rfl)) trivial rfl ?_
     refine ds_ro' (ro_call (evL_cons up_h evL_nil) rfl (size0_ok _ (by omega)) y30_hcf59) trivial rfl ?_
     refine ds_ro' (ro_fld_ptr y30_fl46_1 rfl (up_m rfl (u8 rfl s7_14))) trivial rfl ?_
     refine ds_ro' (ro_eq (ro_ld_ptr y30_ty3 rfl mon_6_1_13 up_h (by exact Nat.le_of_ble_eq_true rfl)) (by simp only [packA_t, packA_f, iE, bE, setAt, cellsA, Value.cells, map_vc, map_vn, Nat.reduceAdd, qS] <;> rfl)) trivial rfl ?_
     refine ds_ro' (ro_build (evP_cons (u2 rfl up_h) (evP_cons up_h evP_nil)) y30_bz46 y30_bu46 y30_bp46 rfl) trivial rfl ?_
     refine ds_ro' (ro_call (evL_cons (u2 rfl (u4 rfl up_h)) (evL_cons up_h evL_nil)) rfl (cmp_ok _ _ _ _ (by omega) (by omega)) y30_hcf58) trivial rfl ?_
     refine ds_ro' (ro_gtr up_h ev_c) trivial rfl ?_
     refine ds_nil ?_
     refine al_end (fun e_15 he_15 => ?_)
     have s1_15 := ef 1 he_15 (u2 rfl (u4 rfl (u8 rfl s1_14)))
     have s3_15 := ef 3 he_15 (u2 rfl (u4 rfl (u8 rfl s3_14)))
     have s4_15 := ef 4 he_15 (u2 rfl (u4 rfl (u8 rfl s4_14)))
     have s5_15 := ef 5 he_15 (u2 rfl (u4 rfl (u8 rfl s5_14)))
     have s34_15 := ef 34 he_15 up_h
     clear he_15 s1_14 s3_14 s4_14 s5_14 s6_14 s7_14
     refine then_n ?_
     refine aw_case s34_15 (fun hq_16 => ?_) (fun hq_16 => ?_)
     ·replace hq_16 := bt hq_16
      refine aw_text (by kernel_rfl) ?_
      refine al_ro' (ro_move s5_15) trivial rfl ?_
      refine al_ro' (ro_assign up_h) trivial rfl ?_
      refine al_end (fun e_17 he_17 => ?_)
      have s1_17 := ef 1 he_17 (u2 rfl s1_15)
      have s3_17 := ef 3 he_17 (u2 rfl s3_15)
      have s4_17 := ef 4 he_17 up_h
      have s5_17 := ef 5 he_17 (u2 rfl s5_15)
      clear he_17 s1_15 s34_15 s3_15 s4_15 s5_15
      refine block_n ?_
      refine then_n ?_
      refine aw_text (by kernel_rfl) ?_
      refine al_ro' (ro_move s5_17) trivial rfl ?_
      (refine al_ro' (ro_add' up_h ev_c ?_) trivial rfl ?_; · (unfold In64; omega))
      refine al_ro' (ro_assign up_h) trivial rfl ?_
      refine al_end (fun e_18 he_18 => ?_)
      have s1_18 := ef 1 he_18 (up_m rfl (u2 rfl s1_17))
      have s3_18 := ef 3 he_18 (up_m rfl (u2 rfl s3_17))
      have s4_18 := ef 4 he_18 (up_m rfl (u2 rfl s4_17))
      have s5_18 := ef 5 he_18 up_h
      clear he_18 s1_17 s3_17 s4_17 s5_17
      refine then_n ?_
      refine ⟨⟨_, _⟩, ⟨s5_18, s4_18, (s1_18.trans s1_5.symm), (s3_18.trans s3_5.symm), (mo1_13.trans mo1_2.symm), (mo0_13.trans mo0_2.symm), ⟨_, ml_13, by omega⟩, ?_⟩, ?_⟩
      · (refine ⟨by omega, by omega, by omega, by omega, ?_⟩; rw [show (k + 1).toNat = k.toNat + 1 by omega]; first | (rw [steN_T p4 (by rw [max_abs, max_abs]; omega)]; done) | (rw [steN_F p4 (by rw [max_abs, max_abs]; omega)]; done))
      · ((try dsimp only); omega)
     replace hq_16 := bf hq_16
     refine aw_skip ?_
     refine block_n ?_
     refine then_n ?_
     refine aw_text (by kernel_rfl) ?_
     refine al_ro' (ro_move s5_15) trivial rfl ?_
     (refine al_ro' (ro_add' up_h ev_c ?_) trivial rfl ?_; · (unfold In64; omega))
     refine al_ro' (ro_assign up_h) trivial rfl ?_
     refine al_end (fun e_19 he_19 => ?_)
     have s1_19 := ef 1 he_19 (up_m rfl (u2 rfl s1_15))
     have s3_19 := ef 3 he_19 (up_m rfl (u2 rfl s3_15))
     have s4_19 := ef 4 he_19 (up_m rfl (u2 rfl s4_15))
     have s5_19 := ef 5 he_19 up_h
     clear he_19 s1_15 s34_15 s3_15 s4_15 s5_15
     refine then_n ?_
     refine ⟨⟨_, _⟩, ⟨s5_19, s4_19, (s1_19.trans s1_5.symm), (s3_19.trans s3_5.symm), (mo1_13.trans mo1_2.symm), (mo0_13.trans mo0_2.symm), ⟨_, ml_13, by omega⟩, ?_⟩, ?_⟩
     · (refine ⟨by omega, by omega, by omega, by omega, ?_⟩; rw [show (k + 1).toNat = k.toNat + 1 by omega]; first | (rw [steN_T p4 (by rw [max_abs, max_abs]; omega)]; done) | (rw [steN_F p4 (by rw [max_abs, max_abs]; omega)]; done))
     · ((try dsimp only); omega)
    replace hq_8 := bf hq_8
    refine aw_exit ?_
    refine then_x ?_
    refine then_x ?_
    refine block_hit ?_
    refine then_n ?_
    refine aw_seq ?_
    refine aw_text (by kernel_rfl) ?_
    refine al_ro' (ro_move s4_7) trivial rfl ?_
    refine al_ro' (ro_eq (ro_ld_ptr y30_ty26 rfl mo0_6 (up_m rfl s1_7) (by exact Nat.le_of_ble_eq_true rfl)) (by simp only [packA_t, packA_f, iE, bE, setAt, cellsA, Value.cells, map_vc, map_vn, Nat.reduceAdd, qS] <;> rfl)) trivial rfl ?_
    refine al_ro' (ro_move (u2 rfl s4_7)) trivial rfl ?_
    refine al_ro' (ro_call (evL_cons (up_m rfl up_h) (evL_cons up_h evL_nil)) rfl (gb2) y30_hcf29) trivial rfl ?_
    refine al_ro' (ro_assign (up_m rfl (u2 rfl up_h))) trivial rfl ?_
    refine al_stm (st_store (up_m rfl (u4 rfl s3_7)) (up_m rfl up_h) rfl rfl mo1_6 y30_sz46 rfl (by exact Nat.le_of_ble_eq_true rfl)) trivial rfl (fun m_20 hm_20 => ?_)
    have mo1_20 := m_set hm_20 mo1_6
    simp only [packA_t, packA_f, iE, bE, setAt, cellsA, Value.cells, map_vc, map_vn, Nat.reduceAdd, qS] at mo1_20
    have mo0_20 := m_set_o hm_20 mo0_6 (by decide)
    have ml_20 := m_set_l hm_20 ml_6
    clear hm_20 mo1_6 mo0_6
    refine al_end (fun e_21 he_21 => ?_)
    have s2_21 := ef 2 he_21 (up_n up_h)
    have s3_21 := ef 3 he_21 (up_n (up_m rfl (u4 rfl s3_7)))
    clear he_21 s12_7 s1_7 s3_7 s4_7 s5_7
    refine then_n ?_
    refine aw_ret ?_
    refine ret2 (.inr rfl) (by kernel_rfl) (resV_tmp s2_21) (resV_cell s3_21 mo1_20 y30_ty46 (by exact Nat.le_of_ble_eq_true rfl) (by simp)) (.ro _ rfl) (vw_r (.ro _ rfl)) ?_
    clear s2_21 s3_21 mo1_20 mo0_20 ml_20
    (have hk : k.toNat = l.bs.length := (by omega); rw [hk] at p4; have hb : b = (steN l l.bs.length : Int) := (by omega); rw [p4, hb]; rfl)
end Go.Proofs.Ytlebjleebclmgaa

