/- Texts of this claim, one behind the other: lemmas for the statement. -/
import Derived.Test.YtknclifdncmgpaaM5
import Derived.Test.YtknclifdncmgpaaA24
/- Contracts: a number sought in a sorted list. No conditions on a program. -/
namespace Go.Proofs.Ytknclifdncmgpaa
open Go Go.RowKit Go.Proofs
set_option linter.unusedSimpArgs false
set_option linter.unusedVariables false
theorem y17_fl116_0 : FldIs Try.prog 116 0 0 true 4 := by unfold FldIs; kernel_rfl
theorem y17_fl116_1 : FldIs Try.prog 116 1 4 false 1 := by unfold FldIs; kernel_rfl
theorem y17_fl26_2 : FldIs Try.prog 26 2 2 false 1 := by unfold FldIs; kernel_rfl
theorem y17_hcf114 : ∀ args w, (callFunc 114 args).run Try.prog w = .ok (.enter 114 args) w := fun _ _ => by kernel_rfl
theorem y17_hcf130 : ∀ args w, (callFunc 130 args).run Try.prog w = .ok (.enter 130 args) w := fun _ _ => by kernel_rfl
theorem y17_hcf131 : ∀ args w, (callFunc 131 args).run Try.prog w = .ok (.enter 131 args) w := fun _ _ => by kernel_rfl
theorem y17_hcf132 : ∀ args w, (callFunc 132 args).run Try.prog w = .ok (.enter 132 args) w := fun _ _ => by kernel_rfl
theorem y17_sl23 : SlIs Try.prog 23 47 2 16 (.agg #[.int .i64 0, .int .i64 0]) := ⟨by kernel_rfl, by kernel_rfl, by kernel_rfl⟩
theorem y17_sl60 : SlIs Try.prog 60 3 1 8 (.int .i64 0) := ⟨by kernel_rfl, by kernel_rfl, by kernel_rfl⟩
theorem y17_ty23 : TyIs Try.prog 23 false 1 := ⟨by kernel_rfl, by kernel_rfl⟩
theorem y17_ty3 : TyIs Try.prog 3 false 1 := ⟨by kernel_rfl, by kernel_rfl⟩
theorem y17_ty60 : TyIs Try.prog 60 false 1 := ⟨by kernel_rfl, by kernel_rfl⟩

set_option maxRecDepth 100000 in
set_option maxHeartbeats 1000000 in
theorem cNaN_ok (n : Int) : FnOk Try.prog 132 [mA n] (fun q => q = tbA false) := by
  refine fnOk_of (fn := Try.f132) 6 (by kernel_rfl) rfl (by kernel_rfl) (Nat.le_of_ble_eq_true rfl) ?_
  intro e_0 m_0 hA hm_0
  have s0_0 : evA e_0 (.tmp 0) = _ := hA 0 _ rfl
  have ml_0 : m_0.length = 0 := by rw [hm_0]; rfl
  clear hA hm_0
  refine aw_seq ?_
  refine aw_text (by kernel_rfl) ?_
  refine al_ro' (ro_assign ev_c) trivial rfl ?_
  refine al_end (fun e_1 he_1 => ?_)
  have s0_1 := ef 0 he_1 (up_m rfl s0_0)
  clear he_1 s0_0
  refine then_n ?_
  refine aw_seq ?_
  refine aw_text (by kernel_rfl) ?_
  refine al_ro' (ro_move s0_1) trivial rfl ?_
  refine al_ro' (ro_move (up_m rfl s0_1)) trivial rfl ?_
  refine al_ro' (ro_neq (up_m rfl up_h) up_h) trivial rfl ?_
  refine al_ro' (ro_assign up_h) trivial rfl ?_
  refine al_end (fun e_2 he_2 => ?_)
  have s2_2 := ef 2 he_2 up_h
  clear he_2 s0_1
  refine then_n ?_
  refine aw_ret ?_
  refine ret1 (.inr rfl) (by kernel_rfl) (resV_tmp s2_2) (.ro _ rfl) ?_
  clear s2_2  ml_0
  simp
set_option maxRecDepth 100000 in
set_option maxHeartbeats 1000000 in
theorem sNaN_ok (n : Int) : FnOk Try.prog 131 [mA n] (fun q => q = tbA false) := by
  refine fnOk_of (fn := Try.f131) 6 (by kernel_rfl) rfl (by kernel_rfl) (Nat.le_of_ble_eq_true rfl) ?_
  intro e_0 m_0 hA hm_0
  have s0_0 : evA e_0 (.tmp 0) = _ := hA 0 _ rfl
  have ml_0 : m_0.length = 0 := by rw [hm_0]; rfl
  clear hA hm_0
  refine aw_seq ?_
  refine aw_text (by kernel_rfl) ?_
  refine al_ro' (ro_assign ev_c) trivial rfl ?_
  refine al_end (fun e_1 he_1 => ?_)
  have s0_1 := ef 0 he_1 (up_m rfl s0_0)
  clear he_1 s0_0
  refine then_n ?_
  refine aw_seq ?_
  refine aw_text (by kernel_rfl) ?_
  refine al_ro' (ro_move s0_1) trivial rfl ?_
  refine al_ro' (ro_move (up_m rfl s0_1)) trivial rfl ?_
  refine al_ro' (ro_neq (up_m rfl up_h) up_h) trivial rfl ?_
  refine al_ro' (ro_assign up_h) trivial rfl ?_
  refine al_end (fun e_2 he_2 => ?_)
  have s2_2 := ef 2 he_2 up_h
  clear he_2 s0_1
  refine then_n ?_
  refine aw_ret ?_
  refine ret1 (.inr rfl) (by kernel_rfl) (resV_tmp s2_2) (.ro _ rfl) ?_
  clear s2_2  ml_0
  simp
set_option maxRecDepth 100000 in
set_option maxHeartbeats 1000000 in
theorem less_ok (m n : Int) : FnOk Try.prog 130 [mA m, mA n] (fun q => q = tbA (decide (m < n))) := by
  refine fnOk_of (fn := Try.f130) 17 (by kernel_rfl) rfl (by kernel_rfl) (Nat.le_of_ble_eq_true rfl) ?_
  intro e_0 m_0 hA hm_0
  have s0_0 : evA e_0 (.tmp 0) = _ := hA 0 _ rfl
  have s1_0 : evA e_0 (.tmp 1) = _ := hA 1 _ rfl
  have ml_0 : m_0.length = 0 := by rw [hm_0]; rfl
  clear hA hm_0
  refine aw_seq ?_
  refine aw_text (by kernel_rfl) ?_
  refine al_ro' (ro_assign ev_c) trivial rfl ?_
  refine al_end (fun e_1 he_1 => ?_)
  have s0_1 := ef 0 he_1 (up_m rfl s0_0)
  have s1_1 := ef 1 he_1 (up_m rfl s1_0)
  clear he_1 s0_0 s1_0
  refine then_n ?_
  refine aw_seq ?_
  refine aw_text (by kernel_rfl) ?_
  refine al_ro' (ro_move s0_1) trivial rfl ?_
  refine al_ro' (ro_call (evL_cons up_h evL_nil) rfl (cNaN_ok _) y17_hcf132) trivial rfl ?_
  refine al_ro' (ro_move up_h) trivial rfl ?_
  refine al_case up_h (fun hb_2 hq_2 => ?_) (fun hb_2 hq_2 => ?_)
  · cases hq_2
  refine al_skip' ⟨_, rfl, .inl hb_2⟩ rfl ?_
  refine al_skip' ⟨_, rfl, .inl (up_m rfl hb_2)⟩ rfl ?_
  refine al_skip' ⟨_, rfl, .inl (u2 rfl hb_2)⟩ rfl ?_
  refine al_ro' (ro_pickF (up_m rfl (u2 rfl hb_2)) ev_c) trivial rfl ?_
  refine al_ro' (ro_move up_h) trivial rfl ?_
  refine al_ro' (ro_move (u8 rfl s0_1)) ⟨_, rfl, up_h⟩ rfl ?_
  refine al_ro' (ro_move (up_m rfl (u8 rfl s1_1))) ⟨_, rfl, (up_m rfl up_h)⟩ rfl ?_
  refine al_ro' (ro_lss (up_m rfl up_h) up_h) ⟨_, rfl, (u2 rfl up_h)⟩ rfl ?_
  refine al_ro' (ro_pickF (up_m rfl (u2 rfl up_h)) up_h) trivial rfl ?_
  refine al_ro' (ro_assign up_h) trivial rfl ?_
  refine al_end (fun e_6 he_6 => ?_)
  have s4_6 := ef 4 he_6 up_h
  clear he_6 hb_2 s0_1 s1_1
  refine then_n ?_
  refine aw_ret ?_
  refine ret1 (.inr rfl) (by kernel_rfl) (resV_tmp s4_6) (.ro _ rfl) ?_
  clear s4_6  ml_0
  rfl
/-- Those below i are less than a number; those from i on are not. -/
def Blw (xs : List Int) (t : Int) (i : Nat) : Prop := ∀ k : Nat, k < i → xs.getD k default < t
def Abo (xs : List Int) (t : Int) (i : Nat) : Prop := ∀ k : Nat, i ≤ k → k < xs.length → t ≤ xs.getD k default
/-- No number is less than one before it. -/
def Srt (xs : List Int) : Prop := ∀ i j : Nat, i ≤ j → j < xs.length → xs.getD i default ≤ xs.getD j default
/-- How many numbers are less, up to the first one that is not. -/
def lowN (xs : List Int) (t : Int) : Nat := (xs.takeWhile (fun x => decide (x < t))).length
theorem lowN_eq {t : Int} : ∀ {xs : List Int} {i : Nat}, i ≤ xs.length → Blw xs t i → Abo xs t i → lowN xs t = i
  | [], i, h, _, _ => by simp at h; subst h; rfl
  | x :: xs, 0, _, _, h => by
    have := h 0 (Nat.le_refl _) (by simp)
    simp at this
    simp [lowN, show ¬ x < t by omega]
  | x :: xs, i + 1, h, hb, ha => by
    have := hb 0 (by omega)
    simp at this
    have ih := lowN_eq (xs := xs) (i := i) (t := t) (by simpa using h) (fun k hk => by have := hb (k + 1) (by omega); simpa using this) (fun k h1 h2 => by have := ha (k + 1) (by omega) (by simpa using h2); simpa using this)
    unfold lowN at ih ⊢
    simp [this, ih]
theorem Blw.step {xs : List Int} {t : Int} (hs : Srt xs) {i : Nat} (hi : i < xs.length) (h : xs.getD i default < t) : Blw xs t (i + 1) := fun k hk => by
  have := hs k i (by omega) hi; omega
theorem Abo.step {xs : List Int} {t : Int} (hs : Srt xs) {i : Nat} (h : t ≤ xs.getD i default) : Abo xs t i := fun k h1 h2 => by
  have := hs i k h1 h2; omega
set_option maxRecDepth 100000 in
set_option maxHeartbeats 4000000 in
theorem search_ok (xs : List Int) (t : Int) (hs : Srt xs) (hl : xs.length ≤ 1000000) : FnOk Try.prog 114 [.row 1 (xs.map iE), mA t] (fun q => q = .tuple [mA (lowN xs t), tbA (decide (lowN xs t < xs.length ∧ xs.getD (lowN xs t) default = t))]) := by
  refine fnOk_of (fn := Try.f114) 54 (by kernel_rfl) rfl (by kernel_rfl) (Nat.le_of_ble_eq_true rfl) ?_
  intro e_0 m_0 hA hm_0
  have s0_0 : evA e_0 (.tmp 0) = _ := hA 0 _ rfl
  have s1_0 : evA e_0 (.tmp 1) = _ := hA 1 _ rfl
  have ml_0 : m_0.length = 0 := by rw [hm_0]; rfl
  clear hA hm_0
  refine aw_seq ?_
  refine aw_text (by kernel_rfl) ?_
  refine al_ro' (ro_assign ev_c) trivial rfl ?_
  refine al_ro' (ro_assign ev_c) trivial rfl ?_
  refine al_end (fun e_1 he_1 => ?_)
  have s0_1 := ef 0 he_1 (u2 rfl s0_0)
  have s1_1 := ef 1 he_1 (u2 rfl s1_0)
  clear he_1 s0_0 s1_0
  refine then_n ?_
  refine aw_seq ?_
  refine aw_text (by kernel_rfl) ?_
  refine al_ro' (ro_move s0_1) trivial rfl ?_
  refine al_ro' (ro_eq (ro_len_row up_h rfl y17_sl60.1) (by simp only [lnS] <;> rfl)) trivial rfl ?_
  refine al_ro' (ro_assign up_h) trivial rfl ?_
  refine al_end (fun e_2 he_2 => ?_)
  have s0_2 := ef 0 he_2 (up_m rfl (u2 rfl s0_1))
  have s1_2 := ef 1 he_2 (up_m rfl (u2 rfl s1_1))
  have s6_2 := ef 6 he_2 up_h
  clear he_2 s0_1 s1_1
  refine then_n ?_
  refine aw_seq ?_
  refine aw_text (by kernel_rfl) ?_
  refine al_ro' (ro_move s6_2) trivial rfl ?_
  refine al_ro' (ro_assign ev_c) trivial rfl ?_
  refine al_ro' (ro_assign (up_m rfl up_h)) trivial rfl ?_
  refine al_end (fun e_3 he_3 => ?_)
  have s0_3 := ef 0 he_3 (up_m rfl (u2 rfl s0_2))
  have s1_3 := ef 1 he_3 (up_m rfl (u2 rfl s1_2))
  have s6_3 := ef 6 he_3 (up_m rfl (u2 rfl s6_2))
  have s7_3 := ef 7 he_3 (up_m rfl up_h)
  have s8_3 := ef 8 he_3 up_h
  clear he_3 s0_2 s1_2 s6_2
  refine then_n ?_
  refine aw_seq ?_
  refine aw_block ?_
  refine aw_loop (S := (Int × Int)) (fun s e mem => match s with | ⟨i, j⟩ => (evA e (.tmp 7) = .v (.int .i64 i)) ∧ (evA e (.tmp 8) = .v (.int .i64 j)) ∧ (evA e (.tmp 0) = evA e_3 (.tmp 0)) ∧ (evA e (.tmp 1) = evA e_3 (.tmp 1)) ∧ (evA e (.tmp 6) = evA e_3 (.tmp 6)) ∧ (mem.length = 0) ∧ ((0 ≤ i ∧ i ≤ j ∧ j ≤ xs.length ∧ Blw xs t i.toNat ∧ Abo xs t j.toNat))) (fun s => match s with | ⟨i, j⟩ => (j - i).toNat) ⟨_, _⟩ ⟨s7_3, s8_3, rfl, rfl, rfl, ml_0, ?_⟩ ?_
  · (exact ⟨by omega, by omega, by omega, fun k hk => absurd hk (by simp), fun k h1 h2 => absurd h1 (by omega)⟩)
  · rintro ⟨i, j⟩ e_4 m_4 ⟨s7_4, s8_4, k0_4, k1_4, k6_4, ml_4, hinv⟩
    have s0_4 := k0_4.trans s0_3
    have s1_4 := k1_4.trans s1_3
    have s6_4 := k6_4.trans s6_3
    (obtain ⟨p1, p2, p3, p4, p5⟩ := hinv)
    refine aw_seq ?_
    refine aw_seq ?_
    refine aw_text (by kernel_rfl) ?_
    refine al_ro' (ro_move s7_4) trivial rfl ?_
    refine al_ro' (ro_move (up_m rfl s8_4)) trivial rfl ?_
    refine al_ro' (ro_lss (up_m rfl up_h) up_h) trivial rfl ?_
    refine al_end (fun e_5 he_5 => ?_)
    have s0_5 := ef 0 he_5 (up_m rfl (u2 rfl s0_4))
    have s1_5 := ef 1 he_5 (up_m rfl (u2 rfl s1_4))
    have s6_5 := ef 6 he_5 (up_m rfl (u2 rfl s6_4))
    have s7_5 := ef 7 he_5 (up_m rfl (u2 rfl s7_4))
    have s8_5 := ef 8 he_5 (up_m rfl (u2 rfl s8_4))
    have s15_5 := ef 15 he_5 up_h
    clear he_5 s0_4 s1_4 s6_4 s7_4 s8_4
    refine then_n ?_
    refine aw_case s15_5 (fun hq_6 => ?_) (fun hq_6 => ?_)
    ·replace hq_6 := bt hq_6
     refine aw_skip ?_
     refine then_n ?_
     refine aw_block ?_
     refine aw_seq ?_
     refine aw_text (by kernel_rfl) ?_
     refine al_ro' (ro_move s7_5) trivial rfl ?_
     refine al_ro' (ro_move (up_m rfl s8_5)) trivial rfl ?_
     (refine al_ro' (ro_add' (up_m rfl up_h) up_h ?_) trivial rfl ?_; · ((first | unfold In64 | unfold InU64); omega))
     (refine al_ro' (ro_cvU up_h (by kernel_rfl) (by kernel_rfl) ?_) trivial rfl ?_; · ((first | unfold In64 | unfold InU64); omega))
     refine al_ro' (ro_shr (c := 2) up_h ev_c (by decide) (by decide)) trivial rfl ?_
     (refine al_ro' (ro_cvI up_h (by kernel_rfl) (by kernel_rfl) ?_) trivial rfl ?_; · ((first | unfold In64 | unfold InU64); omega))
     refine al_ro' (ro_assign up_h) trivial rfl ?_
     refine al_end (fun e_7 he_7 => ?_)
     have s0_7 := ef 0 he_7 (up_m rfl (u2 rfl (u4 rfl s0_5)))
     have s1_7 := ef 1 he_7 (up_m rfl (u2 rfl (u4 rfl s1_5)))
     have s6_7 := ef 6 he_7 (up_m rfl (u2 rfl (u4 rfl s6_5)))
     have s7_7 := ef 7 he_7 (up_m rfl (u2 rfl (u4 rfl s7_5)))
     have s8_7 := ef 8 he_7 (up_m rfl (u2 rfl (u4 rfl s8_5)))
     have s9_7 := ef 9 he_7 up_h
     clear he_7 s0_5 s15_5 s1_5 s6_5 s7_5 s8_5
     refine then_n ?_
     refine aw_seq ?_
     refine aw_text (by kernel_rfl) ?_
     refine al_ro' (ro_move s0_7) trivial rfl ?_
     refine al_ro' (ro_move (up_m rfl s9_7)) trivial rfl ?_
     refine al_ro' (ro_eq (ro_ix y17_sl60 (up_m rfl up_h) up_h (by omega) (by first | (refine idx_map ?_; first | omega | (simp only [lnS]; omega)) | (refine idx_mapI ?_; first | omega | (simp only [lnS]; omega)) | (refine idx_mapN ?_; first | omega | (simp only [lnS]; omega)) | rfl)) (by simp only [packA_t, packA_f, iE, bE, setAt, cellsA, Value.cells, map_vc, map_vn, Nat.reduceAdd, qS] <;> rfl)) trivial rfl ?_
     refine al_ro' (ro_eq (ro_ld_ref y17_ty3 rfl up_h (by exact Nat.le_of_ble_eq_true rfl)) (by simp only [packA_t, packA_f, iE, bE, setAt, cellsA, Value.cells, map_vc, map_vn, Nat.reduceAdd, qS] <;> rfl)) trivial rfl ?_
     refine al_ro' (ro_move (u4 rfl s1_7)) trivial rfl ?_
     refine al_ro' (ro_call (evL_cons (up_m rfl up_h) (evL_cons up_h evL_nil)) rfl (less_ok _ _) y17_hcf130) trivial rfl ?_
     refine al_end (fun e_8 he_8 => ?_)
     have s0_8 := ef 0 he_8 (u2 rfl (u4 rfl s0_7))
     have s1_8 := ef 1 he_8 (u2 rfl (u4 rfl s1_7))
     have s6_8 := ef 6 he_8 (u2 rfl (u4 rfl s6_7))
     have s7_8 := ef 7 he_8 (u2 rfl (u4 rfl s7_7))
     have s8_8 := ef 8 he_8 (u2 rfl (u4 rfl s8_7))
     have s9_8 := ef 9 he_8 (u2 rfl (u4 rfl s9_7))
     have s27_8 := ef 27 he_8 up_h
     clear he_8 s0_7 s1_7 s6_7 s7_7 s8_7 s9_7
     refine then_n ?_
     refine aw_case s27_8 (fun hq_9 => ?_) (fun hq_9 => ?_)
     ·replace hq_9 := bt hq_9
      refine aw_text (by kernel_rfl) ?_
      refine al_ro' (ro_move s9_8) trivial rfl ?_
      (refine al_ro' (ro_add' up_h ev_c ?_) trivial rfl ?_; · ((first | unfold In64 | unfold InU64); omega))
      refine al_ro' (ro_assign up_h) trivial rfl ?_
      refine al_end (fun e_10 he_10 => ?_)
      have s0_10 := ef 0 he_10 (up_m rfl (u2 rfl s0_8))
      have s1_10 := ef 1 he_10 (up_m rfl (u2 rfl s1_8))
      have s6_10 := ef 6 he_10 (up_m rfl (u2 rfl s6_8))
      have s7_10 := ef 7 he_10 up_h
      have s8_10 := ef 8 he_10 (up_m rfl (u2 rfl s8_8))
      clear he_10 s0_8 s1_8 s27_8 s6_8 s7_8 s8_8 s9_8
      refine block_n ?_
      refine then_n ?_
      refine ⟨⟨_, _⟩, ⟨s7_10, s8_10, (s0_10.trans s0_3.symm), (s1_10.trans s1_3.symm), (s6_10.trans s6_3.symm), ml_4, ?_⟩, ?_⟩
      · (first | (have hk : xs.getD ((i + j) / 2).toNat default < t := (by assumption); refine ⟨by omega, by omega, by omega, ?_, p5⟩; rw [show ((i + j) / 2 + 1).toNat = ((i + j) / 2).toNat + 1 by omega]; exact Blw.step hs (by omega) hk) | (have hk : t ≤ xs.getD ((i + j) / 2).toNat default := (by first | omega | (simp_all; done)); exact ⟨by omega, by omega, by omega, p4, Abo.step hs hk⟩))
      · ((try dsimp only); omega)
     replace hq_9 := bf hq_9
     refine aw_text (by kernel_rfl) ?_
     refine al_ro' (ro_move s9_8) trivial rfl ?_
     refine al_ro' (ro_assign up_h) trivial rfl ?_
     refine al_end (fun e_11 he_11 => ?_)
     have s0_11 := ef 0 he_11 (u2 rfl s0_8)
     have s1_11 := ef 1 he_11 (u2 rfl s1_8)
     have s6_11 := ef 6 he_11 (u2 rfl s6_8)
     have s7_11 := ef 7 he_11 (u2 rfl s7_8)
     have s8_11 := ef 8 he_11 up_h
     clear he_11 s0_8 s1_8 s27_8 s6_8 s7_8 s8_8 s9_8
     refine block_n ?_
     refine then_n ?_
     refine ⟨⟨_, _⟩, ⟨s7_11, s8_11, (s0_11.trans s0_3.symm), (s1_11.trans s1_3.symm), (s6_11.trans s6_3.symm), ml_4, ?_⟩, ?_⟩
     · (first | (have hk : xs.getD ((i + j) / 2).toNat default < t := (by assumption); refine ⟨by omega, by omega, by omega, ?_, p5⟩; rw [show ((i + j) / 2 + 1).toNat = ((i + j) / 2).toNat + 1 by omega]; exact Blw.step hs (by omega) hk) | (have hk : t ≤ xs.getD ((i + j) / 2).toNat default := (by first | omega | (simp_all; done)); exact ⟨by omega, by omega, by omega, p4, Abo.step hs hk⟩))
     · ((try dsimp only); omega)
    replace hq_6 := bf hq_6
    refine aw_exit ?_
    refine then_x ?_
    refine then_x ?_
    refine block_hit ?_
    refine then_n ?_
    refine aw_seq ?_
    refine aw_text (by kernel_rfl) ?_
    refine al_ro' (ro_move s7_5) trivial rfl ?_
    refine al_ro' (ro_move (up_m rfl s7_5)) trivial rfl ?_
    refine al_ro' (ro_move (u2 rfl s6_5)) trivial rfl ?_
    refine al_ro' (ro_lss (up_m rfl up_h) up_h) trivial rfl ?_
    refine al_ro' (ro_move up_h) trivial rfl ?_
    refine al_case up_h (fun hb_12 hq_12 => ?_) (fun hb_12 hq_12 => ?_)
    ·replace hq_12 := bt hq_12
     refine al_ro' (ro_move (up_m rfl (u4 rfl s0_5))) ⟨_, rfl, hb_12⟩ rfl ?_
     refine al_ro' (ro_move (u2 rfl (u4 rfl s7_5))) ⟨_, rfl, (up_m rfl hb_12)⟩ rfl ?_
     refine al_ro' (ro_eq (ro_ix y17_sl60 (up_m rfl up_h) up_h (by omega) (by first | (refine idx_map ?_; first | omega | (simp only [lnS]; omega)) | (refine idx_mapI ?_; first | omega | (simp only [lnS]; omega)) | (refine idx_mapN ?_; first | omega | (simp only [lnS]; omega)) | rfl)) (by simp only [packA_t, packA_f, iE, bE, setAt, cellsA, Value.cells, map_vc, map_vn, Nat.reduceAdd, qS] <;> rfl)) ⟨_, rfl, (u2 rfl hb_12)⟩ rfl ?_
     refine al_ro' (ro_eq (ro_ld_ref y17_ty3 rfl up_h (by exact Nat.le_of_ble_eq_true rfl)) (by simp only [packA_t, packA_f, iE, bE, setAt, cellsA, Value.cells, map_vc, map_vn, Nat.reduceAdd, qS] <;> rfl)) ⟨_, rfl, (up_m rfl (u2 rfl hb_12))⟩ rfl ?_
     refine al_ro' (ro_move (up_m rfl (u8 rfl s1_5))) ⟨_, rfl, (u4 rfl hb_12)⟩ rfl ?_
     refine al_ro' (ro_eql (up_m rfl up_h) up_h) ⟨_, rfl, (up_m rfl (u4 rfl hb_12))⟩ rfl ?_
     refine al_ro' (ro_move up_h) ⟨_, rfl, (u2 rfl (u4 rfl hb_12))⟩ rfl ?_
     refine al_case up_h (fun hb_13 hq_13 => ?_) (fun hb_13 hq_13 => ?_)
     ·replace hq_13 := bt hq_13
      refine al_skip' ⟨_, rfl, .inl hb_13⟩ rfl ?_
      refine al_skip' ⟨_, rfl, .inl (up_m rfl hb_13)⟩ rfl ?_
      refine al_skip' ⟨_, rfl, .inl (u2 rfl hb_13)⟩ rfl ?_
      refine al_skip' ⟨_, rfl, .inl (up_m rfl (u2 rfl hb_13))⟩ rfl ?_
      refine al_skip' ⟨_, rfl, .inl (u4 rfl hb_13)⟩ rfl ?_
      refine al_skip' ⟨_, rfl, .inl (up_m rfl (u4 rfl hb_13))⟩ rfl ?_
      refine al_skip' ⟨_, rfl, .inr up_h⟩ rfl ?_
      refine al_skip' ⟨_, rfl, .inr (up_m rfl up_h)⟩ rfl ?_
      refine al_skip' ⟨_, rfl, .inl (u8 rfl hb_13)⟩ rfl ?_
      refine al_ro' (ro_pickT (up_m rfl (u8 rfl hb_13)) ev_c) ⟨_, rfl, (u16 rfl hb_12)⟩ rfl ?_
      refine al_ro' (ro_pickT (up_m rfl (u16 rfl hb_12)) up_h) trivial rfl ?_
      refine al_ro' (ro_assign (u2 rfl (u4 rfl (u16 rfl up_h)))) trivial rfl ?_
      refine al_ro' (ro_assign (up_m rfl up_h)) trivial rfl ?_
      refine al_end (fun e_14 he_14 => ?_)
      have s4_14 := ef 4 he_14 (up_m rfl up_h)
      have s5_14 := ef 5 he_14 up_h
      clear he_14 hb_12 hb_13 s0_5 s15_5 s1_5 s6_5 s7_5 s8_5
      refine then_n ?_
      refine aw_ret ?_
      refine ret2 (.inr rfl) (by kernel_rfl) (resV_tmp s4_14) (resV_tmp s5_14) (.ro _ rfl) (.ro _ rfl) ?_
      clear s4_14 s5_14  ml_4
      (have hlo := lowN_eq (by omega) p4 (show Abo xs t i.toNat by rwa [show i.toNat = j.toNat by omega]); have hi : ((i.toNat : Nat) : Int) = i := (by omega); rw [hlo, hi]; refine congrArg (fun b => AV.tuple [mA i, tbA b]) ?_; symm; first | exact decide_eq_true ⟨by omega, by assumption⟩ | exact decide_eq_false (fun h => absurd h.2 (by assumption)) | exact decide_eq_false (fun h => by have := h.1; omega))
     replace hq_13 := bf hq_13
     refine al_ro' (ro_move (u4 rfl (u8 rfl s0_5))) ⟨_, rfl, hb_13⟩ rfl ?_
     refine al_ro' (ro_move (up_m rfl (u4 rfl (u8 rfl s7_5)))) ⟨_, rfl, (up_m rfl hb_13)⟩ rfl ?_
     refine al_ro' (ro_eq (ro_ix y17_sl60 (up_m rfl up_h) up_h (by omega) (by first | (refine idx_map ?_; first | omega | (simp only [lnS]; omega)) | (refine idx_mapI ?_; first | omega | (simp only [lnS]; omega)) | (refine idx_mapN ?_; first | omega | (simp only [lnS]; omega)) | rfl)) (by simp only [packA_t, packA_f, iE, bE, setAt, cellsA, Value.cells, map_vc, map_vn, Nat.reduceAdd, qS] <;> rfl)) ⟨_, rfl, (u2 rfl hb_13)⟩ rfl ?_
     refine al_ro' (ro_eq (ro_ld_ref y17_ty3 rfl up_h (by exact Nat.le_of_ble_eq_true rfl)) (by simp only [packA_t, packA_f, iE, bE, setAt, cellsA, Value.cells, map_vc, map_vn, Nat.reduceAdd, qS] <;> rfl)) ⟨_, rfl, (up_m rfl (u2 rfl hb_13))⟩ rfl ?_
     refine al_ro' (ro_call (evL_cons up_h evL_nil) rfl (sNaN_ok _) y17_hcf131) ⟨_, rfl, (u4 rfl hb_13)⟩ rfl ?_
     refine al_ro' (ro_move up_h) ⟨_, rfl, (up_m rfl (u4 rfl hb_13))⟩ rfl ?_
     refine al_case up_h (fun hb_15 hq_15 => ?_) (fun hb_15 hq_15 => ?_)
     · cases hq_15
     refine al_skip' ⟨_, rfl, .inl hb_15⟩ rfl ?_
     refine al_skip' ⟨_, rfl, .inl (up_m rfl hb_15)⟩ rfl ?_
     refine al_ro' (ro_pickF (u2 rfl hb_15) ev_c) ⟨_, rfl, (u8 rfl hb_13)⟩ rfl ?_
     refine al_ro' (ro_pickF (up_m rfl (u8 rfl hb_13)) up_h) ⟨_, rfl, (u16 rfl hb_12)⟩ rfl ?_
     refine al_ro' (ro_pickT (up_m rfl (u16 rfl hb_12)) up_h) trivial rfl ?_
     refine al_ro' (ro_assign (u2 rfl (u4 rfl (u16 rfl up_h)))) trivial rfl ?_
     refine al_ro' (ro_assign (up_m rfl up_h)) trivial rfl ?_
     refine al_end (fun e_17 he_17 => ?_)
     have s4_17 := ef 4 he_17 (up_m rfl up_h)
     have s5_17 := ef 5 he_17 up_h
     clear he_17 hb_12 hb_13 hb_15 s0_5 s15_5 s1_5 s6_5 s7_5 s8_5
     refine then_n ?_
     refine aw_ret ?_
     refine ret2 (.inr rfl) (by kernel_rfl) (resV_tmp s4_17) (resV_tmp s5_17) (.ro _ rfl) (.ro _ rfl) ?_
     clear s4_17 s5_17  ml_4
     (have hlo := lowN_eq (by omega) p4 (show Abo xs t i.toNat by rwa [show i.toNat = j.toNat by omega]); have hi : ((i.toNat : Nat) : Int) = i := (by omega); rw [hlo, hi]; refine congrArg (fun b => AV.tuple [mA i, tbA b]) ?_; symm; first | exact decide_eq_true ⟨by omega, by assumption⟩ | exact decide_eq_false (fun h => absurd h.2 (by assumption)) | exact decide_eq_false (fun h => by have := h.1; omega))
    replace hq_12 := bf hq_12
    refine al_skip' ⟨_, rfl, .inl hb_12⟩ rfl ?_
    refine al_skip' ⟨_, rfl, .inl (up_m rfl hb_12)⟩ rfl ?_
    refine al_skip' ⟨_, rfl, .inl (u2 rfl hb_12)⟩ rfl ?_
    refine al_skip' ⟨_, rfl, .inl (up_m rfl (u2 rfl hb_12))⟩ rfl ?_
    refine al_skip' ⟨_, rfl, .inl (u4 rfl hb_12)⟩ rfl ?_
    refine al_skip' ⟨_, rfl, .inl (up_m rfl (u4 rfl hb_12))⟩ rfl ?_
    refine al_skip' ⟨_, rfl, .inl (u2 rfl (u4 rfl hb_12))⟩ rfl ?_
    refine al_skip' ⟨_, rfl, .inr up_h⟩ rfl ?_
    refine al_skip' ⟨_, rfl, .inr (up_m rfl up_h)⟩ rfl ?_
    refine al_skip' ⟨_, rfl, .inr (u2 rfl up_h)⟩ rfl ?_
    refine al_skip' ⟨_, rfl, .inr (up_m rfl (u2 rfl up_h))⟩ rfl ?_
    refine al_skip' ⟨_, rfl, .inr (u4 rfl up_h)⟩ rfl ?_
    refine al_skip' ⟨_, rfl, .inr (up_m rfl (u4 rfl up_h))⟩ rfl ?_
    refine al_skip' ⟨_, rfl, .inr up_h⟩ rfl ?_
    refine al_skip' ⟨_, rfl, .inr (up_m rfl up_h)⟩ rfl ?_
    refine al_skip' ⟨_, rfl, .inr (u8 rfl up_h)⟩ rfl ?_
    refine al_skip' ⟨_, rfl, .inl (u16 rfl hb_12)⟩ rfl ?_
    refine al_ro' (ro_pickF (up_m rfl (u16 rfl hb_12)) ev_c) trivial rfl ?_
    refine al_ro' (ro_assign (u2 rfl (u4 rfl (u16 rfl up_h)))) trivial rfl ?_
    refine al_ro' (ro_assign (up_m rfl up_h)) trivial rfl ?_
    refine al_end (fun e_18 he_18 => ?_)
    have s4_18 := ef 4 he_18 (up_m rfl up_h)
    have s5_18 := ef 5 he_18 up_h
    clear he_18 hb_12 s0_5 s15_5 s1_5 s6_5 s7_5 s8_5
    refine then_n ?_
    refine aw_ret ?_
    refine ret2 (.inr rfl) (by kernel_rfl) (resV_tmp s4_18) (resV_tmp s5_18) (.ro _ rfl) (.ro _ rfl) ?_
    clear s4_18 s5_18  ml_4
    (have hlo := lowN_eq (by omega) p4 (show Abo xs t i.toNat by rwa [show i.toNat = j.toNat by omega]); have hi : ((i.toNat : Nat) : Int) = i := (by omega); rw [hlo, hi]; refine congrArg (fun b => AV.tuple [mA i, tbA b]) ?_; symm; first | exact decide_eq_true ⟨by omega, by assumption⟩ | exact decide_eq_false (fun h => absurd h.2 (by assumption)) | exact decide_eq_false (fun h => by have := h.1; omega))
/-- The last beam whose first joint is at most at a place. -/
def beaN (bs : List Bea) (p : Int) : Nat → Nat
  | 0 => 0
  | n + 1 => if plaP bs n ≤ p then n else beaN bs p n
theorem beaN_at {bs : List Bea} {p : Int} (h0 : 0 ≤ p) : ∀ {n : Nat}, 1 ≤ n → beaN bs p n < n ∧ plaP bs (beaN bs p n) ≤ p ∧ ∀ j : Nat, beaN bs p n < j → j < n → p < plaP bs j
  | n + 1, _ => by
    simp only [beaN]
    by_cases h : plaP bs n ≤ p
    · rw [if_pos h]; exact ⟨by omega, h, fun j h1 h2 => by omega⟩
    · rw [if_neg h]
      rcases Nat.eq_zero_or_pos n with hn | hn
      · subst hn; simp [plaP] at h; omega
      · obtain ⟨h1, h2, h3⟩ := beaN_at (bs := bs) h0 (n := n) hn
        refine ⟨by omega, h2, fun j h4 h5 => ?_⟩
        by_cases hj : j = n
        · subst hj; omega
        · exact h3 j h4 (by omega)
theorem Rgt.mono {l : Lin} (h : Rgt l) {i : Nat} : ∀ {j : Nat}, i ≤ j → j ≤ l.bs.length → plaP l.bs i + 1000 * ((j : Int) - i) ≤ plaP l.bs j
  | 0, h1, _ => by obtain rfl : i = 0 := by omega
                   omega
  | j + 1, h1, h2 => by
    by_cases hij : i = j + 1
    · subst hij; omega
    · have := h.mono (i := i) (j := j) (by omega) (by omega)
      have := h.bea j (by omega)
      simp only [plaP]
      omega
theorem beaN_is {l : Lin} (h : Rgt l) {p : Int} {i : Nat} (hi : i < l.bs.length) (h1 : plaP l.bs i ≤ p) (h2 : i + 1 < l.bs.length → p < plaP l.bs (i + 1)) : beaN l.bs p l.bs.length = i := by
  have h0 : 0 ≤ p := by have := (h.pla (n := i) (by omega)).1; omega
  obtain ⟨b1, b2, b3⟩ := beaN_at (bs := l.bs) h0 (n := l.bs.length) h.n0
  rcases Nat.lt_trichotomy (beaN l.bs p l.bs.length) i with hlt | he | hgt
  · have := b3 i hlt hi; omega
  · exact he
  · have := h.mono (i := i + 1) (j := beaN l.bs p l.bs.length) (by omega) (by omega)
    have := h2 (by omega)
    omega
theorem Rgt.srt {l : Lin} (h : Rgt l) : Srt (plaL l.bs l.bs.length) := fun i j hij hj => by
  rw [plaL_len] at hj
  rw [plaL_get (by omega), plaL_get (by omega)]
  have := h.mono hij (by omega)
  omega
theorem lowN_at {xs : List Int} {t : Int} : lowN xs t ≤ xs.length ∧ Blw xs t (lowN xs t) ∧ (lowN xs t < xs.length → t ≤ xs.getD (lowN xs t) default) := by
  induction xs with
  | nil => exact ⟨by simp [lowN], fun k hk => by simp [lowN] at hk, fun h => by simp [lowN] at h⟩
  | cons x xs ih =>
    obtain ⟨h1, h2, h3⟩ := ih
    by_cases hx : x < t
    · have e : lowN (x :: xs) t = lowN xs t + 1 := by simp [lowN, hx]
      rw [e]
      refine ⟨by simp; omega, fun k hk => ?_, fun h => ?_⟩
      · cases k with
        | zero => simpa using hx
        | succ k => have := h2 k (by omega); simpa using this
      · have := h3 (by simp at h; omega); simpa using this
    · have e : lowN (x :: xs) t = 0 := by simp [lowN, hx]
      rw [e]
      exact ⟨by simp, fun k hk => by omega, fun _ => by simp; omega⟩
/-- What the search comes to is the beam. -/
theorem at_is {l : Lin} (h : Rgt l) {p : Int} (h0 : 0 ≤ p) (h1 : p ≤ plaP l.bs l.bs.length) (i : Nat) (hi : i = lowN (plaL l.bs l.bs.length) p) : i ≤ l.bs.length ∧ (i < l.bs.length + 1 → (plaL l.bs l.bs.length).getD i default = plaP l.bs i) ∧
    (plaP l.bs i = p → (beaN l.bs p l.bs.length : Int) = min (i : Int) (l.bs.length - 1)) ∧ (plaP l.bs i ≠ p → 1 ≤ i ∧ (beaN l.bs p l.bs.length : Int) = min ((i : Int) - 1) (l.bs.length - 1)) := by
  subst hi
  obtain ⟨a1, a2, a3⟩ := lowN_at (xs := plaL l.bs l.bs.length) (t := p)
  rw [plaL_len] at a1 a3
  have hn0 := h.n0
  have hile : lowN (plaL l.bs l.bs.length) p ≤ l.bs.length := by
    rcases Nat.lt_or_ge (lowN (plaL l.bs l.bs.length) p) (l.bs.length + 1) with h2 | h2
    · omega
    · have := a2 l.bs.length (by omega)
      rw [plaL_get (Nat.le_refl _)] at this
      omega
  have a4 := a3 (by omega)
  rw [plaL_get hile] at a4
  have low : ∀ k : Nat, k < lowN (plaL l.bs l.bs.length) p → plaP l.bs k < p := fun k hk => by
    have := a2 k hk; rwa [plaL_get (by omega)] at this
  generalize hi : lowN (plaL l.bs l.bs.length) p = i at *
  refine ⟨hile, fun h => plaL_get (by omega), fun he => ?_, fun hne => ?_⟩
  · by_cases hlast : i = l.bs.length
    · have hb : beaN l.bs p l.bs.length = l.bs.length - 1 := beaN_is h (by omega) (by have := low (l.bs.length - 1) (by omega); omega) (fun hh => by omega)
      rw [hb]; omega
    · have hb : beaN l.bs p l.bs.length = i := beaN_is h (by omega) (by omega) (fun hh => by have := h.mono (i := i) (j := i + 1) (by omega) (by omega); omega)
      rw [hb]; omega
  · have hi1 : 1 ≤ i := by
      rcases Nat.eq_zero_or_pos i with h2 | h2
      · rw [h2] at hne a4; simp only [plaP] at hne a4; omega
      · exact h2
    have hb : beaN l.bs p l.bs.length = i - 1 := beaN_is h (by omega) (by have := low (i - 1) (by omega); omega) (fun hh => by rw [show i - 1 + 1 = i by omega]; omega)
    rw [hb]
    exact ⟨hi1, by omega⟩
set_option maxRecDepth 100000 in
set_option maxHeartbeats 4000000 in
theorem at_ok (l : Lin) (h : Rgt l) (p : Int) (h0 : 0 ≤ p) (h1 : p ≤ plaP l.bs l.bs.length) : FnOk Try.prog 73 [tkA l, mA p] (fun q => q = .tuple [mA (beaN l.bs p l.bs.length), mA (p - plaP l.bs (beaN l.bs p l.bs.length))]) := by
  refine fnOk_of (fn := Try.f73) 40 (by kernel_rfl) rfl (by kernel_rfl) (Nat.le_of_ble_eq_true rfl) ?_
  intro e_0 m_0 hA hm_0
  have s0_0 : evA e_0 (.tmp 0) = _ := hA 0 _ rfl
  have s1_0 : evA e_0 (.tmp 1) = _ := hA 1 _ rfl
  have ml_0 : m_0.length = 0 := by rw [hm_0]; rfl
  clear hA hm_0
  have hn1 := h.n1; have hn0 := h.n0; have hpl := plaL_len (bs := l.bs) (n := l.bs.length); have hpb := h.pla (n := l.bs.length) (Nat.le_refl _); obtain ⟨g1, g2, g3, g4⟩ := at_is h h0 h1 _ rfl; obtain ⟨b1, _, _⟩ := beaN_at (bs := l.bs) h0 (n := l.bs.length) h.n0; have hbp := h.pla (n := beaN l.bs p l.bs.length) (by omega)
  refine aw_seq ?_
  refine aw_text (by kernel_rfl) ?_
  refine al_ro' (ro_assign ev_c) trivial rfl ?_
  refine al_ro' (ro_assign ev_c) trivial rfl ?_
  refine al_end (fun e_1 he_1 => ?_)
  have s0_1 := ef 0 he_1 (u2 rfl s0_0)
  have s1_1 := ef 1 he_1 (u2 rfl s1_0)
  clear he_1 s0_0 s1_0
  refine then_n ?_
  refine aw_seq ?_
  refine aw_text (by kernel_rfl) ?_
  refine al_ro' (ro_move s0_1) trivial rfl ?_
  refine al_ro' (ro_nilR up_h) trivial rfl ?_
  refine al_ro' (ro_eq (ro_fld_ref y17_fl116_1 rfl up_h) (by simp only [packA_t, packA_f, iE, bE, setAt, cellsA, Value.cells, map_vc, map_vn, Nat.reduceAdd, qS] <;> rfl)) trivial rfl ?_
  refine al_ro' (ro_eq (ro_ld_ref y17_ty60 rfl up_h (by exact Nat.le_of_ble_eq_true rfl)) (by simp only [packA_t, packA_f, iE, bE, setAt, cellsA, Value.cells, map_vc, map_vn, Nat.reduceAdd, qS] <;> rfl)) trivial rfl ?_
  refine al_ro' (ro_move (u4 rfl s1_1)) trivial rfl ?_
  refine al_ro' (ro_call (evL_cons (up_m rfl up_h) (evL_cons up_h evL_nil)) rfl (search_ok _ _ h.srt (by omega)) y17_hcf114) trivial rfl ?_
  refine al_ro' (ro_move up_h) trivial rfl ?_
  refine al_ro' (ro_extract up_h rfl) trivial rfl ?_
  refine al_ro' (ro_extract (up_m rfl up_h) rfl) trivial rfl ?_
  refine al_ro' (ro_assign (up_m rfl up_h)) trivial rfl ?_
  refine al_ro' (ro_assign (up_m rfl up_h)) trivial rfl ?_
  refine al_end (fun e_2 he_2 => ?_)
  have s0_2 := ef 0 he_2 (up_m rfl (u2 rfl (u8 rfl s0_1)))
  have s1_2 := ef 1 he_2 (up_m rfl (u2 rfl (u8 rfl s1_1)))
  have s6_2 := ef 6 he_2 (up_m rfl up_h)
  have s7_2 := ef 7 he_2 up_h
  clear he_2 s0_1 s1_1
  refine then_n ?_
  refine aw_seq ?_
  refine aw_seq ?_
  refine aw_text (by kernel_rfl) ?_
  refine al_ro' (ro_move s7_2) trivial rfl ?_
  refine al_ro' (ro_not up_h) trivial rfl ?_
  refine al_end (fun e_3 he_3 => ?_)
  have s0_3 := ef 0 he_3 (u2 rfl s0_2)
  have s1_3 := ef 1 he_3 (u2 rfl s1_2)
  have s6_3 := ef 6 he_3 (u2 rfl s6_2)
  have s18_3 := ef 18 he_3 up_h
  clear he_3 s0_2 s1_2 s6_2 s7_2
  refine then_n ?_
  refine aw_case s18_3 (fun hq_4 => ?_) (fun hq_4 => ?_)
  ·replace hq_4 := bnt hq_4
   (have hf : ¬ (lowN (plaL l.bs l.bs.length) p < (plaL l.bs l.bs.length).length ∧ (plaL l.bs l.bs.length).getD (lowN (plaL l.bs l.bs.length) p) default = p) := (by assumption); have e1 := (g4 (fun he => hf ⟨by omega, by rw [g2 (by omega)]; exact he⟩)).2)
   refine aw_text (by kernel_rfl) ?_
   refine al_ro' (ro_move s6_3) trivial rfl ?_
   (refine al_ro' (ro_sub' up_h ev_c ?_) trivial rfl ?_; · (unfold In64; omega))
   refine al_ro' (ro_assign up_h) trivial rfl ?_
   refine al_end (fun e_5 he_5 => ?_)
   have s0_5 := ef 0 he_5 (up_m rfl (u2 rfl s0_3))
   have s1_5 := ef 1 he_5 (up_m rfl (u2 rfl s1_3))
   have s6_5 := ef 6 he_5 up_h
   clear he_5 s0_3 s18_3 s1_3 s6_3
   refine then_n ?_
   refine aw_seq ?_
   refine aw_text (by kernel_rfl) ?_
   refine al_ro' (ro_move s6_5) trivial rfl ?_
   refine al_ro' (ro_move (up_m rfl s0_5)) trivial rfl ?_
   refine al_ro' (ro_nilR up_h) trivial rfl ?_
   refine al_ro' (ro_eq (ro_fld_ref y17_fl116_0 rfl up_h) (by simp only [packA_t, packA_f, iE, bE, setAt, cellsA, Value.cells, map_vc, map_vn, Nat.reduceAdd, qS] <;> rfl)) trivial rfl ?_
   refine al_ro' (ro_eq (ro_fld_ref y17_fl26_2 rfl up_h) (by simp only [packA_t, packA_f, iE, bE, setAt, cellsA, Value.cells, map_vc, map_vn, Nat.reduceAdd, qS] <;> rfl)) trivial rfl ?_
   refine al_ro' (ro_eq (ro_ld_ref y17_ty23 rfl up_h (by exact Nat.le_of_ble_eq_true rfl)) (by simp only [packA_t, packA_f, iE, bE, setAt, cellsA, Value.cells, map_vc, map_vn, Nat.reduceAdd, qS] <;> rfl)) trivial rfl ?_
   refine al_ro' (ro_eq (ro_len_row up_h rfl y17_sl23.1) (by simp only [lnS] <;> rfl)) trivial rfl ?_
   (refine al_ro' (ro_sub' up_h ev_c ?_) trivial rfl ?_; · (unfold In64; omega))
   refine al_ro' (ro_min (up_m rfl (u2 rfl (u4 rfl up_h))) up_h) trivial rfl ?_
   refine al_ro' (ro_assign up_h) trivial rfl ?_
   refine al_end (fun e_6 he_6 => ?_)
   have s0_6 := ef 0 he_6 (u2 rfl (u8 rfl s0_5))
   have s1_6 := ef 1 he_6 (u2 rfl (u8 rfl s1_5))
   have s6_6 := ef 6 he_6 up_h
   clear he_6 s0_5 s1_5 s6_5
   refine then_n ?_
   refine aw_seq ?_
   refine aw_draw 12 (by kernel_rfl) (by kernel_rfl) (by kernel_rfl) (by kernel_rfl) ?_
   refine ds_ro' (ro_move s6_6) trivial rfl ?_
   refine ds_ro' (ro_move (up_m rfl s1_6)) trivial rfl ?_
   refine ds_ro' (ro_move (u2 rfl s0_6)) trivial rfl ?_
   refine ds_ro' (ro_nilR up_h) trivial rfl ?_
   refine ds_ro' (ro_eq (ro_fld_ref y17_fl116_1 rfl up_h) (by simp only [packA_t, packA_f, iE, bE, setAt, cellsA, Value.cells, map_vc, map_vn, Nat.reduceAdd, qS] <;> rfl)) trivial rfl ?_
   refine ds_ro' (ro_eq (ro_ld_ref y17_ty60 rfl up_h (by exact Nat.le_of_ble_eq_true rfl)) (by simp only [packA_t, packA_f, iE, bE, setAt, cellsA, Value.cells, map_vc, map_vn, Nat.reduceAdd, qS] <;> rfl)) trivial rfl ?_
   refine ds_ro' (ro_move (u2 rfl (u4 rfl s6_6))) trivial rfl ?_
   refine ds_ro' (ro_eq (ro_ix y17_sl60 (up_m rfl up_h) up_h (by omega) (by first | (refine idx_map ?_; first | omega | (simp only [lnS]; omega)) | (refine idx_mapI ?_; first | omega | (simp only [lnS]; omega)) | (refine idx_mapN ?_; first | omega | (simp only [lnS]; omega)) | rfl)) (by simp only [packA_t, packA_f, iE, bE, setAt, cellsA, Value.cells, map_vc, map_vn, Nat.reduceAdd, qS] <;> rfl)) trivial rfl ?_
   refine ds_ro' (ro_eq (ro_ld_ref y17_ty3 rfl up_h (by exact Nat.le_of_ble_eq_true rfl)) (by simp only [packA_t, packA_f, iE, bE, setAt, cellsA, Value.cells, map_vc, map_vn, Nat.reduceAdd, qS] <;> rfl)) trivial rfl ?_
   refine ds_ro' (ro_sub (up_m rfl (u2 rfl (u4 rfl up_h))) up_h) trivial rfl ?_
   refine ds_ro' (ro_assign (up_m rfl (u8 rfl up_h))) trivial rfl ?_
   refine ds_ro' (ro_assign (up_m rfl up_h)) trivial rfl ?_
   refine ds_nil ?_
   refine al_end (fun e_7 he_7 => ?_)
   have s4_7 := ef 4 he_7 (up_m rfl up_h)
   have s5_7 := ef 5 he_7 up_h
   clear he_7 s0_6 s1_6 s6_6
   refine then_n ?_
   refine aw_ret ?_
   refine ret2 (.inr rfl) (by kernel_rfl) (resV_tmp s4_7) (resV_tmp s5_7) (.ro _ rfl) (.ro _ rfl) ?_
   clear s4_7 s5_7  ml_0
   (rw [← e1, Int.toNat_natCast, plaL_get (by omega), wrap_in (by unfold In64; omega)])
  replace hq_4 := bnf hq_4
  (have hf : (lowN (plaL l.bs l.bs.length) p < (plaL l.bs l.bs.length).length ∧ (plaL l.bs l.bs.length).getD (lowN (plaL l.bs l.bs.length) p) default = p) := (by assumption); have e1 := g3 (by rw [← g2 (by omega)]; exact hf.2))
  refine aw_skip ?_
  refine then_n ?_
  refine aw_seq ?_
  refine aw_text (by kernel_rfl) ?_
  refine al_ro' (ro_move s6_3) trivial rfl ?_
  refine al_ro' (ro_move (up_m rfl s0_3)) trivial rfl ?_
  refine al_ro' (ro_nilR up_h) trivial rfl ?_
  refine al_ro' (ro_eq (ro_fld_ref y17_fl116_0 rfl up_h) (by simp only [packA_t, packA_f, iE, bE, setAt, cellsA, Value.cells, map_vc, map_vn, Nat.reduceAdd, qS] <;> rfl)) trivial rfl ?_
  refine al_ro' (ro_eq (ro_fld_ref y17_fl26_2 rfl up_h) (by simp only [packA_t, packA_f, iE, bE, setAt, cellsA, Value.cells, map_vc, map_vn, Nat.reduceAdd, qS] <;> rfl)) trivial rfl ?_
  refine al_ro' (ro_eq (ro_ld_ref y17_ty23 rfl up_h (by exact Nat.le_of_ble_eq_true rfl)) (by simp only [packA_t, packA_f, iE, bE, setAt, cellsA, Value.cells, map_vc, map_vn, Nat.reduceAdd, qS] <;> rfl)) trivial rfl ?_
  refine al_ro' (ro_eq (ro_len_row up_h rfl y17_sl23.1) (by simp only [lnS] <;> rfl)) trivial rfl ?_
  (refine al_ro' (ro_sub' up_h ev_c ?_) trivial rfl ?_; · (unfold In64; omega))
  refine al_ro' (ro_min (up_m rfl (u2 rfl (u4 rfl up_h))) up_h) trivial rfl ?_
  refine al_ro' (ro_assign up_h) trivial rfl ?_
  refine al_end (fun e_8 he_8 => ?_)
  have s0_8 := ef 0 he_8 (u2 rfl (u8 rfl s0_3))
  have s1_8 := ef 1 he_8 (u2 rfl (u8 rfl s1_3))
  have s6_8 := ef 6 he_8 up_h
  clear he_8 s0_3 s18_3 s1_3 s6_3
  refine then_n ?_
  refine aw_seq ?_
  refine aw_draw 12 (by kernel_rfl) (by kernel_rfl) (by kernel_rfl) (by kernel_rfl) ?_
  refine ds_ro' (ro_move s6_8) trivial rfl ?_
  refine ds_ro' (ro_move (up_m rfl s1_8)) trivial rfl ?_
  refine ds_ro' (ro_move (u2 rfl s0_8)) trivial rfl ?_
  refine ds_ro' (ro_nilR up_h) trivial rfl ?_
  refine ds_ro' (ro_eq (ro_fld_ref y17_fl116_1 rfl up_h) (by simp only [packA_t, packA_f, iE, bE, setAt, cellsA, Value.cells, map_vc, map_vn, Nat.reduceAdd, qS] <;> rfl)) trivial rfl ?_
  refine ds_ro' (ro_eq (ro_ld_ref y17_ty60 rfl up_h (by exact Nat.le_of_ble_eq_true rfl)) (by simp only [packA_t, packA_f, iE, bE, setAt, cellsA, Value.cells, map_vc, map_vn, Nat.reduceAdd, qS] <;> rfl)) trivial rfl ?_
  refine ds_ro' (ro_move (u2 rfl (u4 rfl s6_8))) trivial rfl ?_
  refine ds_ro' (ro_eq (ro_ix y17_sl60 (up_m rfl up_h) up_h (by omega) (by first | (refine idx_map ?_; first | omega | (simp only [lnS]; omega)) | (refine idx_mapI ?_; first | omega | (simp only [lnS]; omega)) | (refine idx_mapN ?_; first | omega | (simp only [lnS]; omega)) | rfl)) (by simp only [packA_t, packA_f, iE, bE, setAt, cellsA, Value.cells, map_vc, map_vn, Nat.reduceAdd, qS] <;> rfl)) trivial rfl ?_
  refine ds_ro' (ro_eq (ro_ld_ref y17_ty3 rfl up_h (by exact Nat.le_of_ble_eq_true rfl)) (by simp only [packA_t, packA_f, iE, bE, setAt, cellsA, Value.cells, map_vc, map_vn, Nat.reduceAdd, qS] <;> rfl)) trivial rfl ?_
  refine ds_ro' (ro_sub (up_m rfl (u2 rfl (u4 rfl up_h))) up_h) trivial rfl ?_
  refine ds_ro' (ro_assign (up_m rfl (u8 rfl up_h))) trivial rfl ?_
  refine ds_ro' (ro_assign (up_m rfl up_h)) trivial rfl ?_
  refine ds_nil ?_
  refine al_end (fun e_9 he_9 => ?_)
  have s4_9 := ef 4 he_9 (up_m rfl up_h)
  have s5_9 := ef 5 he_9 up_h
  clear he_9 s0_8 s1_8 s6_8
  refine then_n ?_
  refine aw_ret ?_
  refine ret2 (.inr rfl) (by kernel_rfl) (resV_tmp s4_9) (resV_tmp s5_9) (.ro _ rfl) (.ro _ rfl) ?_
  clear s4_9 s5_9  ml_0
  (rw [← e1, Int.toNat_natCast, plaL_get (by omega), wrap_in (by unfold In64; omega)])
end Go.Proofs.Ytknclifdncmgpaa

/- Contracts: a quotient in lowest terms. No conditions on a program. -/
namespace Go.Proofs.Ytknclifdncmgpaa
open Go Go.RowKit Go.Proofs
set_option linter.unusedSimpArgs false
set_option linter.unusedVariables false
theorem y18_az35 : (Try.prog.info? 35).bind (·.zero) = some (.agg #[.int .i64 0, .int .i64 0]) := by kernel_rfl
theorem y18_bz35 : (Try.prog.info? 35).bind (·.zero) = some (.agg #[.int .i64 0, .int .i64 0]) := by kernel_rfl
theorem y18_bu35 : Try.prog.underlying 35 = some (.struct (fsOf Try.prog 35)) := by kernel_rfl
theorem y18_bp35 : ∀ w, ((fsOf Try.prog 35).mapM fun f => Prod.mk f.offset <$> sizeOf f.type : Sem (Array (Nat × Nat))).run Try.prog w = .ok (#[(0, 1), (1, 1)]) w := fun _ => by kernel_rfl
theorem y18_hcf108 : ∀ args w, (callFunc 108 args).run Try.prog w = .ok (.enter 108 args) w := fun _ _ => by kernel_rfl
theorem y18_hcf66 : ∀ args w, (callFunc 66 args).run Try.prog w = .ok (.enter 66 args) w := fun _ _ => by kernel_rfl
theorem y18_hcf72 : ∀ args w, (callFunc 72 args).run Try.prog w = .ok (.enter 72 args) w := fun _ _ => by kernel_rfl
theorem y18_hcf73 : ∀ args w, (callFunc 73 args).run Try.prog w = .ok (.enter 73 args) w := fun _ _ => by kernel_rfl
theorem y18_sz35 : (Try.prog.info? 35).map (·.size) = some 2 := by kernel_rfl
theorem y18_ty26 : TyIs Try.prog 26 true 4 := ⟨by kernel_rfl, by kernel_rfl⟩
theorem y18_ty35 : TyIs Try.prog 35 true 2 := ⟨by kernel_rfl, by kernel_rfl⟩

theorem tmod_lt {x y : Int} (hy : y ≠ 0) : (x.tmod y).natAbs < y.natAbs := by rw [Int.natAbs_tmod]; exact Nat.mod_lt _ (Int.natAbs_pos.2 hy)
theorem tmod_gcd (x y : Int) : Int.gcd y (x.tmod y) = Int.gcd x y := by
  unfold Int.gcd
  rw [Int.natAbs_tmod, Nat.gcd_comm y.natAbs, ← Nat.gcd_rec, Nat.gcd_comm]
theorem tdiv_bd {m : Int} (hm : -4000000000000000000 ≤ m ∧ m ≤ 4000000000000000000) (n : Int) : -4000000000000000000 ≤ m.tdiv n ∧ m.tdiv n ≤ 4000000000000000000 := by
  have := Int.natAbs_tdiv_le_natAbs m n
  omega
/-- A quotient in lowest terms. -/
def fraN (n b : Int) : Int := n.tdiv (Int.gcd n b)
def fraD (n b : Int) : Int := b.tdiv (Int.gcd n b)
def frA (x y : Int) : AV := .agg [mA x, mA y]
set_option maxRecDepth 100000 in
set_option maxHeartbeats 4000000 in
theorem frac_ok (n b : Int) (hn : -4000000000000000000 ≤ n ∧ n ≤ 4000000000000000000) (hb : 0 < b ∧ b ≤ 4000000000000000000) : FnOk Try.prog 101 [mA n, mA b] (fun q => q = frA (fraN n b) (fraD n b)) := by
  refine fnOk_of (fn := Try.f101) 26 (by kernel_rfl) rfl (by kernel_rfl) (Nat.le_of_ble_eq_true rfl) ?_
  intro e_0 m_0 hA hm_0
  have s0_0 : evA e_0 (.tmp 0) = _ := hA 0 _ rfl
  have s1_0 : evA e_0 (.tmp 1) = _ := hA 1 _ rfl
  have ml_0 : m_0.length = 0 := by rw [hm_0]; rfl
  clear hA hm_0
  refine aw_seq ?_
  refine aw_text (by kernel_rfl) ?_
  refine al_stm (st_alloc y18_az35 rfl ml_0) trivial rfl (fun m_1 hm_1 => ?_)
  have mo0_1 := m_push hm_1 ml_0
  simp only [packA_t, packA_f, iE, bE, setAt, cellsA, Value.cells, map_vc, map_vn, Nat.reduceAdd, qS] at mo0_1
  have ml_1 := m_push_l hm_1 ml_0
  have ml_1 : _ = 1 := ml_1
  clear hm_1
  refine al_end (fun e_2 he_2 => ?_)
  have s0_2 := ef 0 he_2 (up_m rfl s0_0)
  have s1_2 := ef 1 he_2 (up_m rfl s1_0)
  have s4_2 := ef 4 he_2 up_h
  clear he_2 s0_0 s1_0
  refine then_n ?_
  refine aw_seq ?_
  refine aw_text (by kernel_rfl) ?_
  refine al_ro' (ro_move s0_2) trivial rfl ?_
  refine al_ro' (ro_move (up_m rfl s1_2)) trivial rfl ?_
  refine al_ro' (ro_assign (up_m rfl up_h)) trivial rfl ?_
  refine al_ro' (ro_assign (up_m rfl up_h)) trivial rfl ?_
  refine al_end (fun e_3 he_3 => ?_)
  have s0_3 := ef 0 he_3 (u4 rfl s0_2)
  have s1_3 := ef 1 he_3 (u4 rfl s1_2)
  have s4_3 := ef 4 he_3 (u4 rfl s4_2)
  have s5_3 := ef 5 he_3 (up_m rfl up_h)
  have s6_3 := ef 6 he_3 up_h
  clear he_3 s0_2 s1_2 s4_2
  refine then_n ?_
  refine aw_seq ?_
  refine aw_block ?_
  refine aw_loop (S := (Int × Int)) (fun s e mem => match s with | ⟨x, y⟩ => (evA e (.tmp 5) = .v (.int .i64 x)) ∧ (evA e (.tmp 6) = .v (.int .i64 y)) ∧ (evA e (.tmp 0) = evA e_3 (.tmp 0)) ∧ (evA e (.tmp 1) = evA e_3 (.tmp 1)) ∧ (evA e (.tmp 4) = evA e_3 (.tmp 4)) ∧ (mem[0]? = m_1[0]?) ∧ (mem.length = 1) ∧ (((-4000000000000000000 ≤ x ∧ x ≤ 4000000000000000000) ∧ (-4000000000000000000 ≤ y ∧ y ≤ 4000000000000000000) ∧ Int.gcd x y = Int.gcd n b))) (fun s => match s with | ⟨x, y⟩ => y.natAbs) ⟨_, _⟩ ⟨s5_3, s6_3, rfl, rfl, rfl, rfl, ml_1, ?_⟩ ?_
  · (exact ⟨hn, by omega, rfl⟩)
  · rintro ⟨x, y⟩ e_4 m_4 ⟨s5_4, s6_4, k0_4, k1_4, k4_4, mk0_4, ml_4, hinv⟩
    have s0_4 := k0_4.trans s0_3
    have s1_4 := k1_4.trans s1_3
    have s4_4 := k4_4.trans s4_3
    have mo0_4 := mk0_4.trans mo0_1
    (obtain ⟨p1, p2, p3⟩ := hinv)
    refine aw_seq ?_
    refine aw_seq ?_
    refine aw_text (by kernel_rfl) ?_
    refine al_ro' (ro_move s6_4) trivial rfl ?_
    refine al_ro' (ro_neq up_h ev_c) trivial rfl ?_
    refine al_end (fun e_5 he_5 => ?_)
    have s0_5 := ef 0 he_5 (u2 rfl s0_4)
    have s1_5 := ef 1 he_5 (u2 rfl s1_4)
    have s4_5 := ef 4 he_5 (u2 rfl s4_4)
    have s5_5 := ef 5 he_5 (u2 rfl s5_4)
    have s6_5 := ef 6 he_5 (u2 rfl s6_4)
    have s10_5 := ef 10 he_5 up_h
    clear he_5 s0_4 s1_4 s4_4 s5_4 s6_4
    refine then_n ?_
    refine aw_case s10_5 (fun hq_6 => ?_) (fun hq_6 => ?_)
    ·replace hq_6 := bnt hq_6
     refine aw_skip ?_
     refine then_n ?_
     refine aw_block ?_
     refine aw_draw 6 (by kernel_rfl) (by kernel_rfl) (by kernel_rfl) (by kernel_rfl) ?_
     refine ds_ro' (ro_move s6_5) trivial rfl ?_
     refine ds_ro' (ro_move (up_m rfl s5_5)) trivial rfl ?_
     refine ds_ro' (ro_move (u2 rfl s6_5)) trivial rfl ?_
     refine ds_ro' (ro_rem (up_m rfl up_h) up_h (by omega)) trivial rfl ?_
     refine ds_ro' (ro_assign (up_m rfl (u2 rfl up_h))) trivial rfl ?_
     refine ds_ro' (ro_assign (up_m rfl up_h)) trivial rfl ?_
     refine ds_nil ?_
     refine al_end (fun e_7 he_7 => ?_)
     have s0_7 := ef 0 he_7 (u2 rfl (u4 rfl s0_5))
     have s1_7 := ef 1 he_7 (u2 rfl (u4 rfl s1_5))
     have s4_7 := ef 4 he_7 (u2 rfl (u4 rfl s4_5))
     have s5_7 := ef 5 he_7 (up_m rfl up_h)
     have s6_7 := ef 6 he_7 up_h
     clear he_7 s0_5 s10_5 s1_5 s4_5 s5_5 s6_5
     refine block_n ?_
     refine then_n ?_
     refine ⟨⟨_, _⟩, ⟨s5_7, s6_7, (s0_7.trans s0_3.symm), (s1_7.trans s1_3.symm), (s4_7.trans s4_3.symm), (mo0_4.trans mo0_1.symm), ml_4, ?_⟩, ?_⟩
     · (have hy : y ≠ 0 := (by assumption); have := tmod_lt (x := x) hy; refine ⟨p2, by omega, ?_⟩; rw [tmod_gcd, p3])
     · ((try dsimp only); (exact tmod_lt (by assumption)))
    replace hq_6 := bnf hq_6
    (have hy : y = 0 := (by omega); have hg : max x (-x) = (Int.gcd n b : Int) := (by rw [← p3, hy, Int.gcd_zero_right]; omega); have hgp : 0 < Int.gcd n b := Int.gcd_pos_of_ne_zero_right _ (by omega); have t1 := tdiv_bd hn (max x (-x)); have t2 := tdiv_bd (m := b) (by omega) (max x (-x)))
    refine aw_exit ?_
    refine then_x ?_
    refine then_x ?_
    refine block_hit ?_
    refine then_n ?_
    refine aw_seq ?_
    refine aw_text (by kernel_rfl) ?_
    refine al_ro' (ro_move s5_5) trivial rfl ?_
    refine al_ro' (ro_move (up_m rfl s5_5)) trivial rfl ?_
    (refine al_ro' (ro_neg' up_h ?_) trivial rfl ?_; · (unfold In64; omega))
    refine al_ro' (ro_max (u2 rfl up_h) up_h) trivial rfl ?_
    refine al_ro' (ro_assign up_h) trivial rfl ?_
    refine al_end (fun e_8 he_8 => ?_)
    have s0_8 := ef 0 he_8 (up_m rfl (u4 rfl s0_5))
    have s1_8 := ef 1 he_8 (up_m rfl (u4 rfl s1_5))
    have s4_8 := ef 4 he_8 (up_m rfl (u4 rfl s4_5))
    have s5_8 := ef 5 he_8 up_h
    clear he_8 s0_5 s10_5 s1_5 s4_5 s5_5 s6_5
    refine then_n ?_
    refine aw_seq ?_
    refine aw_draw 7 (by kernel_rfl) (by kernel_rfl) (by kernel_rfl) (by kernel_rfl) ?_
    refine ds_ro' (ro_move s0_8) trivial rfl ?_
    refine ds_ro' (ro_move (up_m rfl s5_8)) trivial rfl ?_
    (refine ds_ro' (ro_quo' (up_m rfl up_h) up_h (by omega) ?_) trivial rfl ?_; · (unfold In64; omega))
    refine ds_ro' (ro_move (up_m rfl (u2 rfl s1_8))) trivial rfl ?_
    refine ds_ro' (ro_move (u4 rfl s5_8)) trivial rfl ?_
    (refine ds_ro' (ro_quo' (up_m rfl up_h) up_h (by omega) ?_) trivial rfl ?_; · (unfold In64; omega))
    refine ds_ro' (ro_build (evP_cons (up_m rfl (u2 rfl up_h)) (evP_cons up_h evP_nil)) y18_bz35 y18_bu35 y18_bp35 rfl) trivial rfl ?_
    refine ds_nil ?_
    refine al_stm (st_store (up_m rfl (u2 rfl (u4 rfl s4_8))) up_h rfl rfl mo0_4 y18_sz35 rfl (by exact Nat.le_of_ble_eq_true rfl)) trivial rfl (fun m_9 hm_9 => ?_)
    have mo0_9 := m_set hm_9 mo0_4
    simp only [packA_t, packA_f, iE, bE, setAt, cellsA, Value.cells, map_vc, map_vn, Nat.reduceAdd, qS] at mo0_9
    have ml_9 := m_set_l hm_9 ml_4
    clear hm_9 mo0_4
    refine al_end (fun e_10 he_10 => ?_)
    have s4_10 := ef 4 he_10 (up_n (up_m rfl (u2 rfl (u4 rfl s4_8))))
    clear he_10 s0_8 s1_8 s4_8 s5_8
    refine then_n ?_
    refine aw_ret ?_
    refine ret1 (.inr rfl) (by kernel_rfl) (resV_cell s4_10 mo0_9 y18_ty35 (by exact Nat.le_of_ble_eq_true rfl) (by simp)) (vw_r (.ro _ rfl)) ?_
    clear s4_10 mo0_9 ml_9
    (unfold frA fraN fraD; rw [hg]; rfl)
set_option maxRecDepth 100000 in
set_option maxHeartbeats 4000000 in
theorem size0_ok (n : Int) (hn : -4000000000000000000 ≤ n ∧ n ≤ 4000000000000000000) : FnOk Try.prog 108 [mA n] (fun q => q = mA n.natAbs) := by
  refine fnOk_of (fn := Try.f108) 7 (by kernel_rfl) rfl (by kernel_rfl) (Nat.le_of_ble_eq_true rfl) ?_
  intro e_0 m_0 hA hm_0
  have s0_0 : evA e_0 (.tmp 0) = _ := hA 0 _ rfl
  have ml_0 : m_0.length = 0 := by rw [hm_0]; rfl
  clear hA hm_0
  refine aw_seq ?_
  refine aw_text (by kernel_rfl) ?_
  refine al_ro' (ro_assign ev_c) trivial rfl ?_
  refine al_end (fun e_1 he_1 => ?_)
  have s0_1 := ef 0 he_1 (up_m rfl s0_0)
  clear he_1 s0_0
  refine then_n ?_
  refine aw_seq ?_
  refine aw_text (by kernel_rfl) ?_
  refine al_ro' (ro_move s0_1) trivial rfl ?_
  refine al_ro' (ro_move (up_m rfl s0_1)) trivial rfl ?_
  (refine al_ro' (ro_neg' up_h ?_) trivial rfl ?_; · (unfold In64; omega))
  refine al_ro' (ro_max (u2 rfl up_h) up_h) trivial rfl ?_
  refine al_ro' (ro_assign up_h) trivial rfl ?_
  refine al_end (fun e_2 he_2 => ?_)
  have s2_2 := ef 2 he_2 up_h
  clear he_2 s0_1
  refine then_n ?_
  refine aw_ret ?_
  refine ret1 (.inr rfl) (by kernel_rfl) (resV_tmp s2_2) (.ro _ rfl) ?_
  clear s2_2  ml_0
  (rw [show max n (-n) = (n.natAbs : Int) by omega])
set_option maxRecDepth 100000 in
set_option maxHeartbeats 4000000 in
theorem gcd_ok (n b : Int) (hn : -4000000000000000000 ≤ n ∧ n ≤ 4000000000000000000) (hb : -4000000000000000000 ≤ b ∧ b ≤ 4000000000000000000) : FnOk Try.prog 74 [mA n, mA b] (fun q => q = mA (Int.gcd n b)) := by
  refine fnOk_of (fn := Try.f74) 13 (by kernel_rfl) rfl (by kernel_rfl) (Nat.le_of_ble_eq_true rfl) ?_
  intro e_0 m_0 hA hm_0
  have s0_0 : evA e_0 (.tmp 0) = _ := hA 0 _ rfl
  have s1_0 : evA e_0 (.tmp 1) = _ := hA 1 _ rfl
  have ml_0 : m_0.length = 0 := by rw [hm_0]; rfl
  clear hA hm_0
  refine aw_seq ?_
  refine aw_text (by kernel_rfl) ?_
  refine al_ro' (ro_assign ev_c) trivial rfl ?_
  refine al_end (fun e_1 he_1 => ?_)
  have s0_1 := ef 0 he_1 (up_m rfl s0_0)
  have s1_1 := ef 1 he_1 (up_m rfl s1_0)
  clear he_1 s0_0 s1_0
  refine then_n ?_
  refine aw_seq ?_
  refine aw_block ?_
  refine aw_loop (S := (Int × Int)) (fun s e mem => match s with | ⟨x, y⟩ => (evA e (.tmp 0) = .v (.int .i64 x)) ∧ (evA e (.tmp 1) = .v (.int .i64 y)) ∧ (mem.length = 0) ∧ (((-4000000000000000000 ≤ x ∧ x ≤ 4000000000000000000) ∧ (-4000000000000000000 ≤ y ∧ y ≤ 4000000000000000000) ∧ Int.gcd x y = Int.gcd n b))) (fun s => match s with | ⟨x, y⟩ => y.natAbs) ⟨_, _⟩ ⟨s0_1, s1_1, ml_0, ?_⟩ ?_
  · (exact ⟨hn, by omega, rfl⟩)
  · rintro ⟨x, y⟩ e_2 m_2 ⟨s0_2, s1_2, ml_2, hinv⟩
    (obtain ⟨p1, p2, p3⟩ := hinv)
    refine aw_seq ?_
    refine aw_seq ?_
    refine aw_text (by kernel_rfl) ?_
    refine al_ro' (ro_move s1_2) trivial rfl ?_
    refine al_ro' (ro_neq up_h ev_c) trivial rfl ?_
    refine al_end (fun e_3 he_3 => ?_)
    have s0_3 := ef 0 he_3 (u2 rfl s0_2)
    have s1_3 := ef 1 he_3 (u2 rfl s1_2)
    have s6_3 := ef 6 he_3 up_h
    clear he_3 s0_2 s1_2
    refine then_n ?_
    refine aw_case s6_3 (fun hq_4 => ?_) (fun hq_4 => ?_)
    ·replace hq_4 := bnt hq_4
     refine aw_skip ?_
     refine then_n ?_
     refine aw_block ?_
     refine aw_draw 6 (by kernel_rfl) (by kernel_rfl) (by kernel_rfl) (by kernel_rfl) ?_
     refine ds_ro' (ro_move s1_3) trivial rfl ?_
     refine ds_ro' (ro_move (up_m rfl s0_3)) trivial rfl ?_
     refine ds_ro' (ro_move (u2 rfl s1_3)) trivial rfl ?_
     refine ds_ro' (ro_rem (up_m rfl up_h) up_h (by omega)) trivial rfl ?_
     refine ds_ro' (ro_assign (up_m rfl (u2 rfl up_h))) trivial rfl ?_
     refine ds_ro' (ro_assign (up_m rfl up_h)) trivial rfl ?_
     refine ds_nil ?_
     refine al_end (fun e_5 he_5 => ?_)
     have s0_5 := ef 0 he_5 (up_m rfl up_h)
     have s1_5 := ef 1 he_5 up_h
     clear he_5 s0_3 s1_3 s6_3
     refine block_n ?_
     refine then_n ?_
     refine ⟨⟨_, _⟩, ⟨s0_5, s1_5, ml_2, ?_⟩, ?_⟩
     · (have hy : y ≠ 0 := (by assumption); have := tmod_lt (x := x) hy; refine ⟨p2, by omega, ?_⟩; rw [tmod_gcd, p3])
     · ((try dsimp only); (exact tmod_lt (by assumption)))
    replace hq_4 := bnf hq_4
    (have hy : y = 0 := (by omega); have hg : (x.natAbs : Int) = (Int.gcd n b : Int) := (by rw [← p3, hy, Int.gcd_zero_right]))
    refine aw_exit ?_
    refine then_x ?_
    refine then_x ?_
    refine block_hit ?_
    refine then_n ?_
    refine aw_seq ?_
    refine aw_text (by kernel_rfl) ?_
    refine al_ro' (ro_move s0_3) trivial rfl ?_
    refine al_ro' (ro_call (evL_cons up_h evL_nil) rfl (size0_ok _ p1) y18_hcf108) trivial rfl ?_
    refine al_ro' (ro_assign up_h) trivial rfl ?_
    refine al_end (fun e_6 he_6 => ?_)
    have s4_6 := ef 4 he_6 up_h
    clear he_6 s0_3 s1_3 s6_3
    refine then_n ?_
    refine aw_ret ?_
    refine ret1 (.inr rfl) (by kernel_rfl) (resV_tmp s4_6) (.ro _ rfl) ?_
    clear s4_6  ml_2
    (rw [hg])
/-- The error of a place. -/
def plaE (l : Lin) (p : Int) : Int := unlessE (withinB p 0 (plaP l.bs l.bs.length)) 2
theorem plaE_z {l : Lin} {p : Int} : plaE l p = 0 ↔ 0 ≤ p ∧ p ≤ plaP l.bs l.bs.length := by
  unfold plaE unlessE; rw [← withinB_iff]
  cases withinB p 0 (plaP l.bs l.bs.length) <;> simp
set_option maxRecDepth 100000 in
set_option maxHeartbeats 4000000 in
theorem beamAt_good (l : Lin) (hl : Sho l) (hg : (linM l).2 = 0) (p : Int) : FnOk Try.prog 21 [lnA l, mA p] (fun q => q = if plaE l p = 0 then .tuple [mA (beaN l.bs p l.bs.length), mA (p - plaP l.bs (beaN l.bs p l.bs.length)), mA 0] else .tuple [mA 0, mA 0, mA (plaE l p)]) := by
  refine fnOk_of (fn := Try.f21) 34 (by kernel_rfl) rfl (by kernel_rfl) (Nat.le_of_ble_eq_true rfl) ?_
  intro e_0 m_0 hA hm_0
  have s0_0 : evA e_0 (.tmp 0) = _ := hA 0 _ rfl
  have s1_0 : evA e_0 (.tmp 1) = _ := hA 1 _ rfl
  have ml_0 : m_0.length = 0 := by rw [hm_0]; rfl
  clear hA hm_0
  have hr := rgt_of hg
  refine aw_seq ?_
  refine aw_text (by kernel_rfl) ?_
  refine al_stm (st_box s0_0 rfl ml_0) trivial rfl (fun m_1 hm_1 => ?_)
  have mo0_1 := m_push hm_1 ml_0
  have ml_1 := m_push_l hm_1 ml_0
  have ml_1 : _ = 1 := ml_1
  clear hm_1
  refine al_ro' (ro_assign ev_c) trivial rfl ?_
  refine al_ro' (ro_assign ev_c) trivial rfl ?_
  refine al_ro' (ro_assign ev_c) trivial rfl ?_
  refine al_end (fun e_2 he_2 => ?_)
  have s1_2 := ef 1 he_2 (u4 rfl s1_0)
  have s2_2 := ef 2 he_2 (up_m rfl (u2 rfl up_h))
  clear he_2 s0_0 s1_0
  refine then_n ?_
  refine aw_seq ?_
  refine aw_text (by kernel_rfl) ?_
  refine al_ro' (ro_eq (ro_ld_ptr y18_ty26 rfl mo0_1 s2_2 (by exact Nat.le_of_ble_eq_true rfl)) (by simp only [packA_t, packA_f, iE, bE, setAt, cellsA, Value.cells, map_vc, map_vn, Nat.reduceAdd, qS] <;> rfl)) trivial rfl ?_
  refine al_ro' (ro_call (evL_cons up_h evL_nil) rfl (yOpen_good l hl hg) y18_hcf66) trivial rfl ?_
  refine al_ro' (ro_move up_h) trivial rfl ?_
  refine al_ro' (ro_extract up_h rfl) trivial rfl ?_
  refine al_ro' (ro_extract (up_m rfl up_h) rfl) trivial rfl ?_
  refine al_ro' (ro_assign (up_m rfl up_h)) trivial rfl ?_
  refine al_ro' (ro_assign (up_m rfl up_h)) trivial rfl ?_
  refine al_end (fun e_3 he_3 => ?_)
  have s1_3 := ef 1 he_3 (up_m rfl (u2 rfl (u4 rfl s1_2)))
  have s7_3 := ef 7 he_3 (up_m rfl up_h)
  have s8_3 := ef 8 he_3 up_h
  clear he_3 s1_2 s2_2
  refine then_n ?_
  refine aw_seq ?_
  refine aw_seq ?_
  refine aw_text (by kernel_rfl) ?_
  refine al_ro' (ro_move s8_3) trivial rfl ?_
  refine al_ro' (ro_neq up_h ev_c) trivial rfl ?_
  refine al_end (fun e_4 he_4 => ?_)
  have s1_4 := ef 1 he_4 (u2 rfl s1_3)
  have s7_4 := ef 7 he_4 (u2 rfl s7_3)
  have s8_4 := ef 8 he_4 (u2 rfl s8_3)
  have s18_4 := ef 18 he_4 up_h
  clear he_4 s1_3 s7_3 s8_3
  refine then_n ?_
  refine aw_case s18_4 (fun hq_5 => ?_) (fun hq_5 => ?_)
  · replace hq_5 := bnt hq_5; exfalso; omega
  replace hq_5 := bnf hq_5
  refine aw_skip ?_
  refine then_n ?_
  refine aw_seq ?_
  refine aw_seq ?_
  refine aw_text (by kernel_rfl) ?_
  refine al_ro' (ro_move s7_4) trivial rfl ?_
  refine al_ro' (ro_move (up_m rfl s1_4)) trivial rfl ?_
  refine al_ro' (ro_call (evL_cons (up_m rfl up_h) (evL_cons up_h evL_nil)) rfl (yPlaceErr_ok l hr p) y18_hcf72) trivial rfl ?_
  refine al_ro' (ro_assign up_h) trivial rfl ?_
  refine al_end (fun e_7 he_7 => ?_)
  have s1_7 := ef 1 he_7 (u4 rfl s1_4)
  have s7_7 := ef 7 he_7 (u4 rfl s7_4)
  have s9_7 := ef 9 he_7 up_h
  clear he_7 s18_4 s1_4 s7_4 s8_4
  refine then_n ?_
  refine aw_seq ?_
  refine aw_text (by kernel_rfl) ?_
  refine al_ro' (ro_move s9_7) trivial rfl ?_
  refine al_ro' (ro_neq up_h ev_c) trivial rfl ?_
  refine al_end (fun e_8 he_8 => ?_)
  have s1_8 := ef 1 he_8 (u2 rfl s1_7)
  have s7_8 := ef 7 he_8 (u2 rfl s7_7)
  have s9_8 := ef 9 he_8 (u2 rfl s9_7)
  have s24_8 := ef 24 he_8 up_h
  clear he_8 s1_7 s7_7 s9_7
  refine then_n ?_
  refine aw_case s24_8 (fun hq_9 => ?_) (fun hq_9 => ?_)
  ·replace hq_9 := bnt hq_9
   refine aw_seq ?_
   refine aw_text (by kernel_rfl) ?_
   refine al_ro' (ro_move s9_8) trivial rfl ?_
   refine al_ro' (ro_assign ev_c) trivial rfl ?_
   refine al_ro' (ro_assign ev_c) trivial rfl ?_
   refine al_ro' (ro_assign (u2 rfl up_h)) trivial rfl ?_
   refine al_end (fun e_10 he_10 => ?_)
   have s4_10 := ef 4 he_10 (u2 rfl up_h)
   have s5_10 := ef 5 he_10 (up_m rfl up_h)
   have s6_10 := ef 6 he_10 up_h
   clear he_10 s1_8 s24_8 s7_8 s9_8
   refine then_n ?_
   refine aw_ret ?_
   refine then_r ?_
   refine ret3 (.inr rfl) (by kernel_rfl) (resV_tmp s4_10) (resV_tmp s5_10) (resV_tmp s6_10) (.ro _ rfl) (.ro _ rfl) (.ro _ rfl) ?_
   clear s4_10 s5_10 s6_10 mo0_1 ml_1
   (rw [if_neg (by assumption)]; rfl)
  replace hq_9 := bnf hq_9
  (have hm : plaE l p = 0 := (by assumption); have hw := plaE_z.1 hm)
  refine aw_skip ?_
  refine then_n ?_
  refine aw_seq ?_
  refine aw_text (by kernel_rfl) ?_
  refine al_ro' (ro_move s7_8) trivial rfl ?_
  refine al_ro' (ro_move (up_m rfl s1_8)) trivial rfl ?_
  refine al_ro' (ro_call (evL_cons (up_m rfl up_h) (evL_cons up_h evL_nil)) rfl (at_ok l hr p hw.1 hw.2) y18_hcf73) trivial rfl ?_
  refine al_ro' (ro_move up_h) trivial rfl ?_
  refine al_ro' (ro_extract up_h rfl) trivial rfl ?_
  refine al_ro' (ro_extract (up_m rfl up_h) rfl) trivial rfl ?_
  refine al_ro' (ro_assign (up_m rfl up_h)) trivial rfl ?_
  refine al_ro' (ro_assign (up_m rfl up_h)) trivial rfl ?_
  refine al_end (fun e_11 he_11 => ?_)
  have s10_11 := ef 10 he_11 (up_m rfl up_h)
  have s11_11 := ef 11 he_11 up_h
  clear he_11 s1_8 s24_8 s7_8 s9_8
  refine then_n ?_
  refine aw_seq ?_
  refine aw_text (by kernel_rfl) ?_
  refine al_ro' (ro_move s10_11) trivial rfl ?_
  refine al_ro' (ro_move (up_m rfl s11_11)) trivial rfl ?_
  refine al_ro' (ro_assign (up_m rfl up_h)) trivial rfl ?_
  refine al_ro' (ro_assign (up_m rfl up_h)) trivial rfl ?_
  refine al_ro' (ro_assign ev_c) trivial rfl ?_
  refine al_end (fun e_12 he_12 => ?_)
  have s4_12 := ef 4 he_12 (u2 rfl up_h)
  have s5_12 := ef 5 he_12 (up_m rfl up_h)
  have s6_12 := ef 6 he_12 up_h
  clear he_12 s10_11 s11_11
  refine then_n ?_
  refine aw_ret ?_
  refine ret3 (.inr rfl) (by kernel_rfl) (resV_tmp s4_12) (resV_tmp s5_12) (resV_tmp s6_12) (.ro _ rfl) (.ro _ rfl) (.ro _ rfl) ?_
  clear s4_12 s5_12 s6_12 mo0_1 ml_1
  (rw [if_pos hm])
end Go.Proofs.Ytknclifdncmgpaa

/- Contracts of chapter 1: how far across and up a place is. No conditions on a program. -/
namespace Go.Proofs.Ytknclifdncmgpaa
open Go Go.RowKit Go.Proofs
set_option linter.unusedSimpArgs false
set_option linter.unusedVariables false
theorem y19_fl42_0 : FldIs Try.prog 42 0 0 false 1 := by unfold FldIs; kernel_rfl
theorem y19_fl42_1 : FldIs Try.prog 42 1 1 false 1 := by unfold FldIs; kernel_rfl
theorem y19_ty3 : TyIs Try.prog 3 false 1 := ⟨by kernel_rfl, by kernel_rfl⟩

theorem mul_in {x y : Int} (X Y : Nat) (hx : x.natAbs ≤ X) (hy : y.natAbs ≤ Y) : (x * y).natAbs ≤ X * Y := by rw [Int.natAbs_mul]; exact Nat.mul_le_mul hx hy
theorem toNat_suc (n : Nat) : ((n : Int) + 1).toNat = n + 1 := by omega
/-- A number on the straight line between two others, over the length. -/
def betN (f t a L : Int) : Int := f * (L - a) + t * a
def betA (f t a L : Int) : AV := frA (fraN (betN f t a L) L) (fraD (betN f t a L) L)
theorem betN_eq (f t a L : Int) : f * L + (t - f) * a = betN f t a L := by
  unfold betN; rw [Int.mul_sub, Int.sub_mul]; omega
theorem betN_in {f t a L : Int} (hf : f.natAbs ≤ 20000) (ht : t.natAbs ≤ 20000) (ha : a.natAbs ≤ 30000) (hL : L.natAbs ≤ 30000) (haL : a ≤ L) (h0 : 0 ≤ a) : -4000000000000000000 ≤ betN f t a L ∧ betN f t a L ≤ 4000000000000000000 := by
  have h1 := mul_in 20000 30000 hf (y := L - a) (by omega)
  have h2 := mul_in 20000 30000 ht ha
  unfold betN; omega
/-- The beam at a place, how far behind its first joint this is. -/
def atI (l : Lin) (p : Int) : Nat := beaN l.bs p l.bs.length
def atD (l : Lin) (p : Int) : Int := p - plaP l.bs (atI l p)
theorem at_bd {l : Lin} (h : Rgt l) {p : Int} (hp : 0 ≤ p ∧ p ≤ plaP l.bs l.bs.length) : atI l p < l.bs.length ∧ 0 ≤ atD l p ∧ atD l p ≤ (l.bs.getD (atI l p) default).len := by
  obtain ⟨b1, b2, b3⟩ := beaN_at (bs := l.bs) hp.1 (n := l.bs.length) h.n0
  refine ⟨b1, by unfold atD atI; omega, ?_⟩
  unfold atD atI
  by_cases hn : beaN l.bs p l.bs.length + 1 < l.bs.length
  · have := b3 _ (Nat.lt_succ_self _) hn
    simp only [plaP] at this; omega
  · have he : l.bs.length = beaN l.bs p l.bs.length + 1 := by omega
    have h2 := hp.2
    have key : ∀ n b : Nat, n = b + 1 → plaP l.bs n = plaP l.bs b + (l.bs.getD b default).len := fun n b h => by subst h; rfl
    have := key _ _ he
    omega
theorem atX_ok (l : Lin) (h : Rgt l) (p : Int) (hp : 0 ≤ p ∧ p ≤ plaP l.bs l.bs.length) : FnOk Try.prog 73 [tkA l, mA p] (fun q => q = .tuple [mA (atI l p), mA (atD l p)]) := at_ok l h p hp.1 hp.2
set_option maxRecDepth 100000 in
set_option maxHeartbeats 1000000 in
theorem across_ok (j : Jnt) : FnOk Try.prog 70 [.agg (jnE j)] (fun q => q = mA j.acr) := by
  refine fnOk_of (fn := Try.f70) 5 (by kernel_rfl) rfl (by kernel_rfl) (Nat.le_of_ble_eq_true rfl) ?_
  intro e_0 m_0 hA hm_0
  have s0_0 : evA e_0 (.tmp 0) = _ := hA 0 _ rfl
  have ml_0 : m_0.length = 0 := by rw [hm_0]; rfl
  clear hA hm_0
  refine aw_seq ?_
  refine aw_text (by kernel_rfl) ?_
  refine al_stm (st_box s0_0 rfl ml_0) trivial rfl (fun m_1 hm_1 => ?_)
  have mo0_1 := m_push hm_1 ml_0
  simp only [packA_t, packA_f, iE, bE, setAt, cellsA, Value.cells, map_vc, map_vn, Nat.reduceAdd, qS, jnE] at mo0_1
  have ml_1 := m_push_l hm_1 ml_0
  have ml_1 : _ = 1 := ml_1
  clear hm_1
  refine al_ro' (ro_assign ev_c) trivial rfl ?_
  refine al_end (fun e_2 he_2 => ?_)
  have s1_2 := ef 1 he_2 (up_m rfl up_h)
  clear he_2 s0_0
  refine then_n ?_
  refine aw_seq ?_
  refine aw_text (by kernel_rfl) ?_
  refine al_ro' (ro_fld_ptr y19_fl42_0 rfl s1_2) trivial rfl ?_
  refine al_ro' (ro_eq (ro_ld_ptr y19_ty3 rfl mo0_1 up_h (by exact Nat.le_of_ble_eq_true rfl)) (by simp only [packA_t, packA_f, iE, bE, setAt, cellsA, Value.cells, map_vc, map_vn, Nat.reduceAdd, qS, jnE] <;> rfl)) trivial rfl ?_
  refine al_ro' (ro_assign up_h) trivial rfl ?_
  refine al_end (fun e_3 he_3 => ?_)
  have s2_3 := ef 2 he_3 up_h
  clear he_3 s1_2
  refine then_n ?_
  refine aw_ret ?_
  refine ret1 (.inr rfl) (by kernel_rfl) (resV_tmp s2_3) (.ro _ rfl) ?_
  clear s2_3 mo0_1 ml_1
  rfl
set_option maxRecDepth 100000 in
set_option maxHeartbeats 1000000 in
theorem up_ok (j : Jnt) : FnOk Try.prog 71 [.agg (jnE j)] (fun q => q = mA j.up) := by
  refine fnOk_of (fn := Try.f71) 5 (by kernel_rfl) rfl (by kernel_rfl) (Nat.le_of_ble_eq_true rfl) ?_
  intro e_0 m_0 hA hm_0
  have s0_0 : evA e_0 (.tmp 0) = _ := hA 0 _ rfl
  have ml_0 : m_0.length = 0 := by rw [hm_0]; rfl
  clear hA hm_0
  refine aw_seq ?_
  refine aw_text (by kernel_rfl) ?_
  refine al_stm (st_box s0_0 rfl ml_0) trivial rfl (fun m_1 hm_1 => ?_)
  have mo0_1 := m_push hm_1 ml_0
  simp only [packA_t, packA_f, iE, bE, setAt, cellsA, Value.cells, map_vc, map_vn, Nat.reduceAdd, qS, jnE] at mo0_1
  have ml_1 := m_push_l hm_1 ml_0
  have ml_1 : _ = 1 := ml_1
  clear hm_1
  refine al_ro' (ro_assign ev_c) trivial rfl ?_
  refine al_end (fun e_2 he_2 => ?_)
  have s1_2 := ef 1 he_2 (up_m rfl up_h)
  clear he_2 s0_0
  refine then_n ?_
  refine aw_seq ?_
  refine aw_text (by kernel_rfl) ?_
  refine al_ro' (ro_fld_ptr y19_fl42_1 rfl s1_2) trivial rfl ?_
  refine al_ro' (ro_eq (ro_ld_ptr y19_ty3 rfl mo0_1 up_h (by exact Nat.le_of_ble_eq_true rfl)) (by simp only [packA_t, packA_f, iE, bE, setAt, cellsA, Value.cells, map_vc, map_vn, Nat.reduceAdd, qS, jnE] <;> rfl)) trivial rfl ?_
  refine al_ro' (ro_assign up_h) trivial rfl ?_
  refine al_end (fun e_3 he_3 => ?_)
  have s2_3 := ef 2 he_3 up_h
  clear he_3 s1_2
  refine then_n ?_
  refine aw_ret ?_
  refine ret1 (.inr rfl) (by kernel_rfl) (resV_tmp s2_3) (.ro _ rfl) ?_
  clear s2_3 mo0_1 ml_1
  rfl
end Go.Proofs.Ytknclifdncmgpaa

/- Contracts of chapter 1: how far across and up a place is, the walks. No conditions on a program. -/
namespace Go.Proofs.Ytknclifdncmgpaa
open Go Go.RowKit Go.Proofs
set_option linter.unusedSimpArgs false
set_option linter.unusedVariables false
theorem y20_az35 : (Try.prog.info? 35).bind (·.zero) = some (.agg #[.int .i64 0, .int .i64 0]) := by kernel_rfl
theorem y20_fl116_0 : FldIs Try.prog 116 0 0 true 4 := by unfold FldIs; kernel_rfl
theorem y20_fl26_1 : FldIs Try.prog 26 1 1 false 1 := by unfold FldIs; kernel_rfl
theorem y20_fl26_2 : FldIs Try.prog 26 2 2 false 1 := by unfold FldIs; kernel_rfl
theorem y20_fl47_0 : FldIs Try.prog 47 0 0 false 1 := by unfold FldIs; kernel_rfl
theorem y20_hcf101 : ∀ args w, (callFunc 101 args).run Try.prog w = .ok (.enter 101 args) w := fun _ _ => by kernel_rfl
theorem y20_hcf66 : ∀ args w, (callFunc 66 args).run Try.prog w = .ok (.enter 66 args) w := fun _ _ => by kernel_rfl
theorem y20_hcf69 : ∀ args w, (callFunc 69 args).run Try.prog w = .ok (.enter 69 args) w := fun _ _ => by kernel_rfl
theorem y20_hcf70 : ∀ args w, (callFunc 70 args).run Try.prog w = .ok (.enter 70 args) w := fun _ _ => by kernel_rfl
theorem y20_hcf71 : ∀ args w, (callFunc 71 args).run Try.prog w = .ok (.enter 71 args) w := fun _ _ => by kernel_rfl
theorem y20_hcf72 : ∀ args w, (callFunc 72 args).run Try.prog w = .ok (.enter 72 args) w := fun _ _ => by kernel_rfl
theorem y20_hcf73 : ∀ args w, (callFunc 73 args).run Try.prog w = .ok (.enter 73 args) w := fun _ _ => by kernel_rfl
theorem y20_sl22 : SlIs Try.prog 22 42 4 32 (.agg #[.int .i64 0, .int .i64 0, .int .i64 0, .int .i64 0]) := ⟨by kernel_rfl, by kernel_rfl, by kernel_rfl⟩
theorem y20_sl23 : SlIs Try.prog 23 47 2 16 (.agg #[.int .i64 0, .int .i64 0]) := ⟨by kernel_rfl, by kernel_rfl, by kernel_rfl⟩
theorem y20_sz35 : (Try.prog.info? 35).map (·.size) = some 2 := by kernel_rfl
theorem y20_ty22 : TyIs Try.prog 22 false 1 := ⟨by kernel_rfl, by kernel_rfl⟩
theorem y20_ty23 : TyIs Try.prog 23 false 1 := ⟨by kernel_rfl, by kernel_rfl⟩
theorem y20_ty26 : TyIs Try.prog 26 true 4 := ⟨by kernel_rfl, by kernel_rfl⟩
theorem y20_ty3 : TyIs Try.prog 3 false 1 := ⟨by kernel_rfl, by kernel_rfl⟩
theorem y20_ty35 : TyIs Try.prog 35 true 2 := ⟨by kernel_rfl, by kernel_rfl⟩
theorem y20_ty42 : TyIs Try.prog 42 true 4 := ⟨by kernel_rfl, by kernel_rfl⟩

set_option maxRecDepth 100000 in
set_option maxHeartbeats 4000000 in
theorem betweenAcross_in (l : Lin) (hl : Sho l) (hg : (linM l).2 = 0) (p : Int) (hm : plaE l p = 0) : FnOk Try.prog 69 [lnA l, mA p, .v (.func (.func 70) #[] #[])] (fun q => q = .tuple [betA (l.js.getD (atI l p) default).acr (l.js.getD (atI l p + 1) default).acr (atD l p) (l.bs.getD (atI l p) default).len, mA 0]) := by
  refine fnOk_of (fn := Try.f69) 79 (by kernel_rfl) rfl (by kernel_rfl) (Nat.le_of_ble_eq_true rfl) ?_
  intro e_0 m_0 hA hm_0
  have s0_0 : evA e_0 (.tmp 0) = _ := hA 0 _ rfl
  have s1_0 : evA e_0 (.tmp 1) = _ := hA 1 _ rfl
  have s2_0 : evA e_0 (.tmp 2) = _ := hA 2 _ rfl
  have ml_0 : m_0.length = 0 := by rw [hm_0]; rfl
  clear hA hm_0
  have h := rgt_of hg; have hn1 := h.n1; have hn0 := h.n0; have hj := h.js; have hw := plaE_z.1 hm; obtain ⟨a1, a2, a3⟩ := at_bd h hw; have j1 := h.jnt (atI l p) (by omega); have j2 := h.jnt (atI l p + 1) (by omega); have b1 := h.bea (atI l p) a1; have m1 := mul_in (x := (l.js.getD (atI l p) default).acr) (y := (l.bs.getD (atI l p) default).len) 20000 30000 (by omega) (by omega); have m2 := mul_in (x := (l.js.getD (atI l p + 1) default).acr - (l.js.getD (atI l p) default).acr) (y := atD l p) 40000 30000 (by omega) (by omega)
  refine aw_seq ?_
  refine aw_text (by kernel_rfl) ?_
  refine al_stm (st_box s0_0 rfl ml_0) trivial rfl (fun m_1 hm_1 => ?_)
  have mo0_1 := m_push hm_1 ml_0
  have ml_1 := m_push_l hm_1 ml_0
  have ml_1 : _ = 1 := ml_1
  clear hm_1
  refine al_stm (st_alloc y20_az35 rfl ml_1) trivial rfl (fun m_2 hm_2 => ?_)
  have mo1_2 := m_push hm_2 ml_1
  simp only [packA_t, packA_f, iE, bE, setAt, cellsA, Value.cells, map_vc, map_vn, Nat.reduceAdd, qS, jnE, beE, Int.toNat_natCast, toNat_suc] at mo1_2
  have mo0_2 := m_push_o hm_2 mo0_1
  have ml_2 := m_push_l hm_2 ml_1
  have ml_2 : _ = 2 := ml_2
  clear hm_2 mo0_1
  refine al_ro' (ro_assign ev_c) trivial rfl ?_
  refine al_end (fun e_3 he_3 => ?_)
  have s1_3 := ef 1 he_3 (up_m rfl (u2 rfl s1_0))
  have s2_3 := ef 2 he_3 (up_m rfl (u2 rfl s2_0))
  have s3_3 := ef 3 he_3 (u2 rfl up_h)
  have s6_3 := ef 6 he_3 (up_m rfl up_h)
  clear he_3 s0_0 s1_0 s2_0
  refine then_n ?_
  refine aw_seq ?_
  refine aw_text (by kernel_rfl) ?_
  refine al_ro' (ro_eq (ro_ld_ptr y20_ty26 rfl mo0_2 s3_3 (by exact Nat.le_of_ble_eq_true rfl)) (by simp only [packA_t, packA_f, iE, bE, setAt, cellsA, Value.cells, map_vc, map_vn, Nat.reduceAdd, qS, jnE, beE, Int.toNat_natCast, toNat_suc] <;> rfl)) trivial rfl ?_
  refine al_ro' (ro_call (evL_cons up_h evL_nil) rfl (yOpen_good l hl hg) y20_hcf66) trivial rfl ?_
  refine al_ro' (ro_move up_h) trivial rfl ?_
  refine al_ro' (ro_extract up_h rfl) trivial rfl ?_
  refine al_ro' (ro_extract (up_m rfl up_h) rfl) trivial rfl ?_
  refine al_ro' (ro_assign (up_m rfl up_h)) trivial rfl ?_
  refine al_ro' (ro_assign (up_m rfl up_h)) trivial rfl ?_
  refine al_end (fun e_4 he_4 => ?_)
  have s1_4 := ef 1 he_4 (up_m rfl (u2 rfl (u4 rfl s1_3)))
  have s2_4 := ef 2 he_4 (up_m rfl (u2 rfl (u4 rfl s2_3)))
  have s6_4 := ef 6 he_4 (up_m rfl (u2 rfl (u4 rfl s6_3)))
  have s8_4 := ef 8 he_4 (up_m rfl up_h)
  have s9_4 := ef 9 he_4 up_h
  clear he_4 s1_3 s2_3 s3_3 s6_3
  refine then_n ?_
  refine aw_seq ?_
  refine aw_seq ?_
  refine aw_text (by kernel_rfl) ?_
  refine al_ro' (ro_move s9_4) trivial rfl ?_
  refine al_ro' (ro_neq up_h ev_c) trivial rfl ?_
  refine al_end (fun e_5 he_5 => ?_)
  have s1_5 := ef 1 he_5 (u2 rfl s1_4)
  have s2_5 := ef 2 he_5 (u2 rfl s2_4)
  have s6_5 := ef 6 he_5 (u2 rfl s6_4)
  have s8_5 := ef 8 he_5 (u2 rfl s8_4)
  have s9_5 := ef 9 he_5 (u2 rfl s9_4)
  have s22_5 := ef 22 he_5 up_h
  clear he_5 s1_4 s2_4 s6_4 s8_4 s9_4
  refine then_n ?_
  refine aw_case s22_5 (fun hq_6 => ?_) (fun hq_6 => ?_)
  · cases hq_6
  replace hq_6 := bnf hq_6
  refine aw_skip ?_
  refine then_n ?_
  refine aw_seq ?_
  refine aw_seq ?_
  refine aw_text (by kernel_rfl) ?_
  refine al_ro' (ro_move s8_5) trivial rfl ?_
  refine al_ro' (ro_move (up_m rfl s1_5)) trivial rfl ?_
  refine al_ro' (ro_call (evL_cons (up_m rfl up_h) (evL_cons up_h evL_nil)) rfl ((yPlaceErr_ok l h p).mono (fun q h => show q = mA (plaE l p) from h)) y20_hcf72) trivial rfl ?_
  refine al_ro' (ro_assign up_h) trivial rfl ?_
  refine al_end (fun e_9 he_9 => ?_)
  have s1_9 := ef 1 he_9 (u4 rfl s1_5)
  have s2_9 := ef 2 he_9 (u4 rfl s2_5)
  have s6_9 := ef 6 he_9 (u4 rfl s6_5)
  have s8_9 := ef 8 he_9 (u4 rfl s8_5)
  have s10_9 := ef 10 he_9 up_h
  clear he_9 s1_5 s22_5 s2_5 s6_5 s8_5 s9_5
  refine then_n ?_
  refine aw_seq ?_
  refine aw_text (by kernel_rfl) ?_
  refine al_ro' (ro_move s10_9) trivial rfl ?_
  refine al_ro' (ro_neq up_h ev_c) trivial rfl ?_
  refine al_end (fun e_10 he_10 => ?_)
  have s1_10 := ef 1 he_10 (u2 rfl s1_9)
  have s2_10 := ef 2 he_10 (u2 rfl s2_9)
  have s6_10 := ef 6 he_10 (u2 rfl s6_9)
  have s8_10 := ef 8 he_10 (u2 rfl s8_9)
  have s10_10 := ef 10 he_10 (u2 rfl s10_9)
  have s29_10 := ef 29 he_10 up_h
  clear he_10 s10_9 s1_9 s2_9 s6_9 s8_9
  refine then_n ?_
  refine aw_case s29_10 (fun hq_11 => ?_) (fun hq_11 => ?_)
  · replace hq_11 := bnt hq_11; exfalso; omega
  replace hq_11 := bnf hq_11
  refine aw_skip ?_
  refine then_n ?_
  refine aw_seq ?_
  refine aw_text (by kernel_rfl) ?_
  refine al_ro' (ro_move s8_10) trivial rfl ?_
  refine al_ro' (ro_move (up_m rfl s1_10)) trivial rfl ?_
  refine al_ro' (ro_call (evL_cons (up_m rfl up_h) (evL_cons up_h evL_nil)) rfl (atX_ok l h p hw) y20_hcf73) trivial rfl ?_
  refine al_ro' (ro_move up_h) trivial rfl ?_
  refine al_ro' (ro_extract up_h rfl) trivial rfl ?_
  refine al_ro' (ro_extract (up_m rfl up_h) rfl) trivial rfl ?_
  refine al_ro' (ro_assign (up_m rfl up_h)) trivial rfl ?_
  refine al_ro' (ro_assign (up_m rfl up_h)) trivial rfl ?_
  refine al_end (fun e_14 he_14 => ?_)
  have s2_14 := ef 2 he_14 (u8 rfl s2_10)
  have s6_14 := ef 6 he_14 (u8 rfl s6_10)
  have s8_14 := ef 8 he_14 (u8 rfl s8_10)
  have s11_14 := ef 11 he_14 (up_m rfl up_h)
  have s12_14 := ef 12 he_14 up_h
  clear he_14 s10_10 s1_10 s29_10 s2_10 s6_10 s8_10
  refine then_n ?_
  refine aw_seq ?_
  refine aw_draw 33 (by kernel_rfl) (by kernel_rfl) (by kernel_rfl) (by kernel_rfl) ?_
  refine ds_ro' (ro_move s2_14) trivial rfl ?_
  refine ds_ro' (ro_move (up_m rfl s8_14)) trivial rfl ?_
  refine ds_ro' (ro_nilR up_h) trivial rfl ?_
  refine ds_ro' (ro_eq (ro_fld_ref y20_fl116_0 rfl up_h) (by simp only [packA_t, packA_f, iE, bE, setAt, cellsA, Value.cells, map_vc, map_vn, Nat.reduceAdd, qS, jnE, beE, Int.toNat_natCast, toNat_suc] <;> rfl)) trivial rfl ?_
  refine ds_ro' (ro_eq (ro_fld_ref y20_fl26_1 rfl up_h) (by simp only [packA_t, packA_f, iE, bE, setAt, cellsA, Value.cells, map_vc, map_vn, Nat.reduceAdd, qS, jnE, beE, Int.toNat_natCast, toNat_suc] <;> rfl)) trivial rfl ?_
  refine ds_ro' (ro_eq (ro_ld_ref y20_ty22 rfl up_h (by exact Nat.le_of_ble_eq_true rfl)) (by simp only [packA_t, packA_f, iE, bE, setAt, cellsA, Value.cells, map_vc, map_vn, Nat.reduceAdd, qS, jnE, beE, Int.toNat_natCast, toNat_suc] <;> rfl)) trivial rfl ?_
  refine ds_ro' (ro_move (u2 rfl (u4 rfl s11_14))) trivial rfl ?_
  refine ds_ro' (ro_eq (ro_ix y20_sl22 (up_m rfl up_h) up_h (by omega) (by first | (refine idx_map ?_; first | omega | (simp only [lnS]; omega)) | (refine idx_mapI ?_; first | omega | (simp only [lnS]; omega)) | (refine idx_mapN ?_; first | omega | (simp only [lnS]; omega)) | rfl)) (by simp only [packA_t, packA_f, iE, bE, setAt, cellsA, Value.cells, map_vc, map_vn, Nat.reduceAdd, qS, jnE, beE, Int.toNat_natCast, toNat_suc] <;> rfl)) trivial rfl ?_
  refine ds_ro' (ro_eq (ro_ld_ref y20_ty42 rfl up_h (by exact Nat.le_of_ble_eq_true rfl)) (by simp only [packA_t, packA_f, iE, bE, setAt, cellsA, Value.cells, map_vc, map_vn, Nat.reduceAdd, qS, jnE, beE, Int.toNat_natCast, toNat_suc] <;> rfl)) trivial rfl ?_
  refine ds_ro' (ro_callf (u8 rfl up_h) (evL_cons up_h evL_nil) rfl (across_ok _) y20_hcf70) trivial rfl ?_
  refine ds_ro' (ro_move (u2 rfl (u8 rfl s2_14))) trivial rfl ?_
  refine ds_ro' (ro_move (up_m rfl (u2 rfl (u8 rfl s8_14)))) trivial rfl ?_
  refine ds_ro' (ro_nilR up_h) trivial rfl ?_
  refine ds_ro' (ro_eq (ro_fld_ref y20_fl116_0 rfl up_h) (by simp only [packA_t, packA_f, iE, bE, setAt, cellsA, Value.cells, map_vc, map_vn, Nat.reduceAdd, qS, jnE, beE, Int.toNat_natCast, toNat_suc] <;> rfl)) trivial rfl ?_
  refine ds_ro' (ro_eq (ro_fld_ref y20_fl26_1 rfl up_h) (by simp only [packA_t, packA_f, iE, bE, setAt, cellsA, Value.cells, map_vc, map_vn, Nat.reduceAdd, qS, jnE, beE, Int.toNat_natCast, toNat_suc] <;> rfl)) trivial rfl ?_
  refine ds_ro' (ro_eq (ro_ld_ref y20_ty22 rfl up_h (by exact Nat.le_of_ble_eq_true rfl)) (by simp only [packA_t, packA_f, iE, bE, setAt, cellsA, Value.cells, map_vc, map_vn, Nat.reduceAdd, qS, jnE, beE, Int.toNat_natCast, toNat_suc] <;> rfl)) trivial rfl ?_
  refine ds_ro' (ro_move (u16 rfl s11_14)) trivial rfl ?_
  (refine ds_ro' (ro_add' up_h ev_c ?_) trivial rfl ?_; · (unfold In64; omega))
  refine ds_ro' (ro_eq (ro_ix y20_sl22 (u2 rfl up_h) up_h (by omega) (by refine idx_map ?_; first | omega | (simp only [lnS]; omega))) (by simp only [packA_t, packA_f, iE, bE, setAt, cellsA, Value.cells, map_vc, map_vn, Nat.reduceAdd, qS, jnE, beE, Int.toNat_natCast, toNat_suc] <;> rfl)) trivial rfl ?_
  refine ds_ro' (ro_eq (ro_ld_ref y20_ty42 rfl up_h (by exact Nat.le_of_ble_eq_true rfl)) (by simp only [packA_t, packA_f, iE, bE, setAt, cellsA, Value.cells, map_vc, map_vn, Nat.reduceAdd, qS, jnE, beE, Int.toNat_natCast, toNat_suc] <;> rfl)) trivial rfl ?_
  refine ds_ro' (ro_callf (up_m rfl (u8 rfl up_h)) (evL_cons up_h evL_nil) rfl (across_ok _) y20_hcf70) trivial rfl ?_
  refine ds_ro' (ro_move (up_m rfl (u4 rfl (u16 rfl s8_14)))) trivial rfl ?_
  refine ds_ro' (ro_nilR up_h) trivial rfl ?_
  refine ds_ro' (ro_eq (ro_fld_ref y20_fl116_0 rfl up_h) (by simp only [packA_t, packA_f, iE, bE, setAt, cellsA, Value.cells, map_vc, map_vn, Nat.reduceAdd, qS, jnE, beE, Int.toNat_natCast, toNat_suc] <;> rfl)) trivial rfl ?_
  refine ds_ro' (ro_eq (ro_fld_ref y20_fl26_2 rfl up_h) (by simp only [packA_t, packA_f, iE, bE, setAt, cellsA, Value.cells, map_vc, map_vn, Nat.reduceAdd, qS, jnE, beE, Int.toNat_natCast, toNat_suc] <;> rfl)) trivial rfl ?_
  refine ds_ro' (ro_eq (ro_ld_ref y20_ty23 rfl up_h (by exact Nat.le_of_ble_eq_true rfl)) (by simp only [packA_t, packA_f, iE, bE, setAt, cellsA, Value.cells, map_vc, map_vn, Nat.reduceAdd, qS, jnE, beE, Int.toNat_natCast, toNat_suc] <;> rfl)) trivial rfl ?_
  refine ds_ro' (ro_move (u2 rfl (u8 rfl (u16 rfl s11_14)))) trivial rfl ?_
  refine ds_ro' (ro_eq (ro_ix y20_sl23 (up_m rfl up_h) up_h (by omega) (by first | (refine idx_map ?_; first | omega | (simp only [lnS]; omega)) | (refine idx_mapI ?_; first | omega | (simp only [lnS]; omega)) | (refine idx_mapN ?_; first | omega | (simp only [lnS]; omega)) | rfl)) (by simp only [packA_t, packA_f, iE, bE, setAt, cellsA, Value.cells, map_vc, map_vn, Nat.reduceAdd, qS, jnE, beE, Int.toNat_natCast, toNat_suc] <;> rfl)) trivial rfl ?_
  refine ds_ro' (ro_eq (ro_fld_ref y20_fl47_0 rfl up_h) (by simp only [packA_t, packA_f, iE, bE, setAt, cellsA, Value.cells, map_vc, map_vn, Nat.reduceAdd, qS, jnE, beE, Int.toNat_natCast, toNat_suc] <;> rfl)) trivial rfl ?_
  refine ds_ro' (ro_eq (ro_ld_ref y20_ty3 rfl up_h (by exact Nat.le_of_ble_eq_true rfl)) (by simp only [packA_t, packA_f, iE, bE, setAt, cellsA, Value.cells, map_vc, map_vn, Nat.reduceAdd, qS, jnE, beE, Int.toNat_natCast, toNat_suc] <;> rfl)) trivial rfl ?_
  refine ds_ro' (ro_assign (u4 rfl (u16 rfl up_h))) trivial rfl ?_
  refine ds_ro' (ro_assign (u2 rfl (u8 rfl up_h))) trivial rfl ?_
  refine ds_ro' (ro_assign (u2 rfl up_h)) trivial rfl ?_
  refine ds_nil ?_
  refine al_end (fun e_15 he_15 => ?_)
  have s6_15 := ef 6 he_15 (up_m rfl (u16 rfl (u16 rfl s6_14)))
  have s12_15 := ef 12 he_15 (up_m rfl (u16 rfl (u16 rfl s12_14)))
  have s13_15 := ef 13 he_15 (u2 rfl up_h)
  have s14_15 := ef 14 he_15 (up_m rfl up_h)
  have s15_15 := ef 15 he_15 up_h
  clear he_15 s11_14 s12_14 s2_14 s6_14 s8_14
  refine then_n ?_
  refine aw_seq ?_
  refine aw_text (by kernel_rfl) ?_
  refine al_ro' (ro_move s13_15) trivial rfl ?_
  refine al_ro' (ro_move (up_m rfl s15_15)) trivial rfl ?_
  (refine al_ro' (ro_mul' (up_m rfl up_h) up_h ?_) trivial rfl ?_; · (unfold In64; omega))
  refine al_ro' (ro_move (up_m rfl (u2 rfl s14_15))) trivial rfl ?_
  refine al_ro' (ro_move (u4 rfl s13_15)) trivial rfl ?_
  (refine al_ro' (ro_sub' (up_m rfl up_h) up_h ?_) trivial rfl ?_; · (unfold In64; omega))
  refine al_ro' (ro_move (u2 rfl (u4 rfl s12_15))) trivial rfl ?_
  (refine al_ro' (ro_mul' (up_m rfl up_h) up_h ?_) trivial rfl ?_; · (unfold In64; omega))
  (refine al_ro' (ro_add' (up_m rfl (u4 rfl up_h)) up_h ?_) trivial rfl ?_; · (unfold In64; omega))
  refine al_ro' (ro_move (up_m rfl (u8 rfl s15_15))) trivial rfl ?_
  refine al_ro' (ro_call (evL_cons (up_m rfl up_h) (evL_cons up_h evL_nil)) rfl (frac_ok _ _ (by rw [betN_eq]; exact betN_in (by omega) (by omega) (by omega) (by omega) a3 a2) (by omega)) y20_hcf101) trivial rfl ?_
  refine al_stm (st_store (up_m rfl (u2 rfl (u8 rfl s6_15))) up_h rfl rfl mo1_2 y20_sz35 rfl (by exact Nat.le_of_ble_eq_true rfl)) trivial rfl (fun m_16 hm_16 => ?_)
  have mo1_16 := m_set hm_16 mo1_2
  simp only [packA_t, packA_f, iE, bE, setAt, cellsA, Value.cells, map_vc, map_vn, Nat.reduceAdd, qS, jnE, beE, Int.toNat_natCast, toNat_suc] at mo1_16
  have mo0_16 := m_set_o hm_16 mo0_2 (by decide)
  have ml_16 := m_set_l hm_16 ml_2
  clear hm_16 mo1_2 mo0_2
  refine al_ro' (ro_assign ev_c) trivial rfl ?_
  refine al_end (fun e_17 he_17 => ?_)
  have s6_17 := ef 6 he_17 (up_m rfl (up_n (up_m rfl (u2 rfl (u8 rfl s6_15)))))
  have s7_17 := ef 7 he_17 up_h
  clear he_17 s12_15 s13_15 s14_15 s15_15 s6_15
  refine then_n ?_
  refine aw_ret ?_
  refine ret2 (.inr rfl) (by kernel_rfl) (resV_cell s6_17 mo1_16 y20_ty35 (by exact Nat.le_of_ble_eq_true rfl) (by simp)) (resV_tmp s7_17) (vw_r (.ro _ rfl)) (.ro _ rfl) ?_
  clear s6_17 s7_17 mo1_16 mo0_16 ml_16
  (rw [betN_eq]; rfl)
set_option maxRecDepth 100000 in
set_option maxHeartbeats 1000000 in
theorem AcrossAt_in (l : Lin) (hl : Sho l) (hg : (linM l).2 = 0) (p : Int) (hm : plaE l p = 0) : FnOk Try.prog 18 [lnA l, mA p] (fun q => q = .tuple [betA (l.js.getD (atI l p) default).acr (l.js.getD (atI l p + 1) default).acr (atD l p) (l.bs.getD (atI l p) default).len, mA 0]) := by
  refine fnOk_of (fn := Try.f18) 11 (by kernel_rfl) rfl (by kernel_rfl) (Nat.le_of_ble_eq_true rfl) ?_
  intro e_0 m_0 hA hm_0
  have s0_0 : evA e_0 (.tmp 0) = _ := hA 0 _ rfl
  have s1_0 : evA e_0 (.tmp 1) = _ := hA 1 _ rfl
  have ml_0 : m_0.length = 0 := by rw [hm_0]; rfl
  clear hA hm_0
  refine aw_seq ?_
  refine aw_text (by kernel_rfl) ?_
  refine al_stm (st_box s0_0 rfl ml_0) trivial rfl (fun m_1 hm_1 => ?_)
  have mo0_1 := m_push hm_1 ml_0
  have ml_1 := m_push_l hm_1 ml_0
  have ml_1 : _ = 1 := ml_1
  clear hm_1
  refine al_stm (st_alloc y20_az35 rfl ml_1) trivial rfl (fun m_2 hm_2 => ?_)
  have mo1_2 := m_push hm_2 ml_1
  simp only [packA_t, packA_f, iE, bE, setAt, cellsA, Value.cells, map_vc, map_vn, Nat.reduceAdd, qS] at mo1_2
  have mo0_2 := m_push_o hm_2 mo0_1
  have ml_2 := m_push_l hm_2 ml_1
  have ml_2 : _ = 2 := ml_2
  clear hm_2 mo0_1
  refine al_ro' (ro_assign ev_c) trivial rfl ?_
  refine al_end (fun e_3 he_3 => ?_)
  have s1_3 := ef 1 he_3 (up_m rfl (u2 rfl s1_0))
  have s2_3 := ef 2 he_3 (u2 rfl up_h)
  have s4_3 := ef 4 he_3 (up_m rfl up_h)
  clear he_3 s0_0 s1_0
  refine then_n ?_
  refine aw_seq ?_
  refine aw_text (by kernel_rfl) ?_
  refine al_ro' (ro_eq (ro_ld_ptr y20_ty26 rfl mo0_2 s2_3 (by exact Nat.le_of_ble_eq_true rfl)) (by simp only [packA_t, packA_f, iE, bE, setAt, cellsA, Value.cells, map_vc, map_vn, Nat.reduceAdd, qS] <;> rfl)) trivial rfl ?_
  refine al_ro' (ro_move (up_m rfl s1_3)) trivial rfl ?_
  refine al_ro' (ro_call (evL_cons (up_m rfl up_h) (evL_cons up_h (evL_cons ev_f evL_nil))) rfl (betweenAcross_in l hl hg p hm) y20_hcf69) trivial rfl ?_
  refine al_ro' (ro_extract up_h rfl) trivial rfl ?_
  refine al_ro' (ro_extract (up_m rfl up_h) rfl) trivial rfl ?_
  refine al_stm (st_store (up_m rfl (u4 rfl s4_3)) (up_m rfl up_h) rfl rfl mo1_2 y20_sz35 rfl (by exact Nat.le_of_ble_eq_true rfl)) trivial rfl (fun m_4 hm_4 => ?_)
  have mo1_4 := m_set hm_4 mo1_2
  simp only [packA_t, packA_f, iE, bE, setAt, cellsA, Value.cells, map_vc, map_vn, Nat.reduceAdd, qS] at mo1_4
  have mo0_4 := m_set_o hm_4 mo0_2 (by decide)
  have ml_4 := m_set_l hm_4 ml_2
  clear hm_4 mo1_2 mo0_2
  refine al_ro' (ro_assign (up_n up_h)) trivial rfl ?_
  refine al_end (fun e_5 he_5 => ?_)
  have s4_5 := ef 4 he_5 (up_m rfl (up_n (up_m rfl (u4 rfl s4_3))))
  have s5_5 := ef 5 he_5 up_h
  clear he_5 s1_3 s2_3 s4_3
  refine then_n ?_
  refine aw_ret ?_
  refine ret2 (.inr rfl) (by kernel_rfl) (resV_cell s4_5 mo1_4 y20_ty35 (by exact Nat.le_of_ble_eq_true rfl) (by simp)) (resV_tmp s5_5) (vw_r (.ro _ rfl)) (.ro _ rfl) ?_
  clear s4_5 s5_5 mo1_4 mo0_4 ml_4
  rfl
set_option maxRecDepth 100000 in
set_option maxHeartbeats 4000000 in
theorem betweenUp_in (l : Lin) (hl : Sho l) (hg : (linM l).2 = 0) (p : Int) (hm : plaE l p = 0) : FnOk Try.prog 69 [lnA l, mA p, .v (.func (.func 71) #[] #[])] (fun q => q = .tuple [betA (l.js.getD (atI l p) default).up (l.js.getD (atI l p + 1) default).up (atD l p) (l.bs.getD (atI l p) default).len, mA 0]) := by
  refine fnOk_of (fn := Try.f69) 79 (by kernel_rfl) rfl (by kernel_rfl) (Nat.le_of_ble_eq_true rfl) ?_
  intro e_0 m_0 hA hm_0
  have s0_0 : evA e_0 (.tmp 0) = _ := hA 0 _ rfl
  have s1_0 : evA e_0 (.tmp 1) = _ := hA 1 _ rfl
  have s2_0 : evA e_0 (.tmp 2) = _ := hA 2 _ rfl
  have ml_0 : m_0.length = 0 := by rw [hm_0]; rfl
  clear hA hm_0
  have h := rgt_of hg; have hn1 := h.n1; have hn0 := h.n0; have hj := h.js; have hw := plaE_z.1 hm; obtain ⟨a1, a2, a3⟩ := at_bd h hw; have j1 := h.jnt (atI l p) (by omega); have j2 := h.jnt (atI l p + 1) (by omega); have b1 := h.bea (atI l p) a1; have m1 := mul_in (x := (l.js.getD (atI l p) default).up) (y := (l.bs.getD (atI l p) default).len) 20000 30000 (by omega) (by omega); have m2 := mul_in (x := (l.js.getD (atI l p + 1) default).up - (l.js.getD (atI l p) default).up) (y := atD l p) 40000 30000 (by omega) (by omega)
  refine aw_seq ?_
  refine aw_text (by kernel_rfl) ?_
  refine al_stm (st_box s0_0 rfl ml_0) trivial rfl (fun m_1 hm_1 => ?_)
  have mo0_1 := m_push hm_1 ml_0
  have ml_1 := m_push_l hm_1 ml_0
  have ml_1 : _ = 1 := ml_1
  clear hm_1
  refine al_stm (st_alloc y20_az35 rfl ml_1) trivial rfl (fun m_2 hm_2 => ?_)
  have mo1_2 := m_push hm_2 ml_1
  simp only [packA_t, packA_f, iE, bE, setAt, cellsA, Value.cells, map_vc, map_vn, Nat.reduceAdd, qS, jnE, beE, Int.toNat_natCast, toNat_suc] at mo1_2
  have mo0_2 := m_push_o hm_2 mo0_1
  have ml_2 := m_push_l hm_2 ml_1
  have ml_2 : _ = 2 := ml_2
  clear hm_2 mo0_1
  refine al_ro' (ro_assign ev_c) trivial rfl ?_
  refine al_end (fun e_3 he_3 => ?_)
  have s1_3 := ef 1 he_3 (up_m rfl (u2 rfl s1_0))
  have s2_3 := ef 2 he_3 (up_m rfl (u2 rfl s2_0))
  have s3_3 := ef 3 he_3 (u2 rfl up_h)
  have s6_3 := ef 6 he_3 (up_m rfl up_h)
  clear he_3 s0_0 s1_0 s2_0
  refine then_n ?_
  refine aw_seq ?_
  refine aw_text (by kernel_rfl) ?_
  refine al_ro' (ro_eq (ro_ld_ptr y20_ty26 rfl mo0_2 s3_3 (by exact Nat.le_of_ble_eq_true rfl)) (by simp only [packA_t, packA_f, iE, bE, setAt, cellsA, Value.cells, map_vc, map_vn, Nat.reduceAdd, qS, jnE, beE, Int.toNat_natCast, toNat_suc] <;> rfl)) trivial rfl ?_
  refine al_ro' (ro_call (evL_cons up_h evL_nil) rfl (yOpen_good l hl hg) y20_hcf66) trivial rfl ?_
  refine al_ro' (ro_move up_h) trivial rfl ?_
  refine al_ro' (ro_extract up_h rfl) trivial rfl ?_
  refine al_ro' (ro_extract (up_m rfl up_h) rfl) trivial rfl ?_
  refine al_ro' (ro_assign (up_m rfl up_h)) trivial rfl ?_
  refine al_ro' (ro_assign (up_m rfl up_h)) trivial rfl ?_
  refine al_end (fun e_4 he_4 => ?_)
  have s1_4 := ef 1 he_4 (up_m rfl (u2 rfl (u4 rfl s1_3)))
  have s2_4 := ef 2 he_4 (up_m rfl (u2 rfl (u4 rfl s2_3)))
  have s6_4 := ef 6 he_4 (up_m rfl (u2 rfl (u4 rfl s6_3)))
  have s8_4 := ef 8 he_4 (up_m rfl up_h)
  have s9_4 := ef 9 he_4 up_h
  clear he_4 s1_3 s2_3 s3_3 s6_3
  refine then_n ?_
  refine aw_seq ?_
  refine aw_seq ?_
  refine aw_text (by kernel_rfl) ?_
  refine al_ro' (ro_move s9_4) trivial rfl ?_
  refine al_ro' (ro_neq up_h ev_c) trivial rfl ?_
  refine al_end (fun e_5 he_5 => ?_)
  have s1_5 := ef 1 he_5 (u2 rfl s1_4)
  have s2_5 := ef 2 he_5 (u2 rfl s2_4)
  have s6_5 := ef 6 he_5 (u2 rfl s6_4)
  have s8_5 := ef 8 he_5 (u2 rfl s8_4)
  have s9_5 := ef 9 he_5 (u2 rfl s9_4)
  have s22_5 := ef 22 he_5 up_h
  clear he_5 s1_4 s2_4 s6_4 s8_4 s9_4
  refine then_n ?_
  refine aw_case s22_5 (fun hq_6 => ?_) (fun hq_6 => ?_)
  · cases hq_6
  replace hq_6 := bnf hq_6
  refine aw_skip ?_
  refine then_n ?_
  refine aw_seq ?_
  refine aw_seq ?_
  refine aw_text (by kernel_rfl) ?_
  refine al_ro' (ro_move s8_5) trivial rfl ?_
  refine al_ro' (ro_move (up_m rfl s1_5)) trivial rfl ?_
  refine al_ro' (ro_call (evL_cons (up_m rfl up_h) (evL_cons up_h evL_nil)) rfl ((yPlaceErr_ok l h p).mono (fun q h => show q = mA (plaE l p) from h)) y20_hcf72) trivial rfl ?_
  refine al_ro' (ro_assign up_h) trivial rfl ?_
  refine al_end (fun e_9 he_9 => ?_)
  have s1_9 := ef 1 he_9 (u4 rfl s1_5)
  have s2_9 := ef 2 he_9 (u4 rfl s2_5)
  have s6_9 := ef 6 he_9 (u4 rfl s6_5)
  have s8_9 := ef 8 he_9 (u4 rfl s8_5)
  have s10_9 := ef 10 he_9 up_h
  clear he_9 s1_5 s22_5 s2_5 s6_5 s8_5 s9_5
  refine then_n ?_
  refine aw_seq ?_
  refine aw_text (by kernel_rfl) ?_
  refine al_ro' (ro_move s10_9) trivial rfl ?_
  refine al_ro' (ro_neq up_h ev_c) trivial rfl ?_
  refine al_end (fun e_10 he_10 => ?_)
  have s1_10 := ef 1 he_10 (u2 rfl s1_9)
  have s2_10 := ef 2 he_10 (u2 rfl s2_9)
  have s6_10 := ef 6 he_10 (u2 rfl s6_9)
  have s8_10 := ef 8 he_10 (u2 rfl s8_9)
  have s10_10 := ef 10 he_10 (u2 rfl s10_9)
  have s29_10 := ef 29 he_10 up_h
  clear he_10 s10_9 s1_9 s2_9 s6_9 s8_9
  refine then_n ?_
  refine aw_case s29_10 (fun hq_11 => ?_) (fun hq_11 => ?_)
  · replace hq_11 := bnt hq_11; exfalso; omega
  replace hq_11 := bnf hq_11
  refine aw_skip ?_
  refine then_n ?_
  refine aw_seq ?_
  refine aw_text (by kernel_rfl) ?_
  refine al_ro' (ro_move s8_10) trivial rfl ?_
  refine al_ro' (ro_move (up_m rfl s1_10)) trivial rfl ?_
  refine al_ro' (ro_call (evL_cons (up_m rfl up_h) (evL_cons up_h evL_nil)) rfl (atX_ok l h p hw) y20_hcf73) trivial rfl ?_
  refine al_ro' (ro_move up_h) trivial rfl ?_
  refine al_ro' (ro_extract up_h rfl) trivial rfl ?_
  refine al_ro' (ro_extract (up_m rfl up_h) rfl) trivial rfl ?_
  refine al_ro' (ro_assign (up_m rfl up_h)) trivial rfl ?_
  refine al_ro' (ro_assign (up_m rfl up_h)) trivial rfl ?_
  refine al_end (fun e_14 he_14 => ?_)
  have s2_14 := ef 2 he_14 (u8 rfl s2_10)
  have s6_14 := ef 6 he_14 (u8 rfl s6_10)
  have s8_14 := ef 8 he_14 (u8 rfl s8_10)
  have s11_14 := ef 11 he_14 (up_m rfl up_h)
  have s12_14 := ef 12 he_14 up_h
  clear he_14 s10_10 s1_10 s29_10 s2_10 s6_10 s8_10
  refine then_n ?_
  refine aw_seq ?_
  refine aw_draw 33 (by kernel_rfl) (by kernel_rfl) (by kernel_rfl) (by kernel_rfl) ?_
  refine ds_ro' (ro_move s2_14) trivial rfl ?_
  refine ds_ro' (ro_move (up_m rfl s8_14)) trivial rfl ?_
  refine ds_ro' (ro_nilR up_h) trivial rfl ?_
  refine ds_ro' (ro_eq (ro_fld_ref y20_fl116_0 rfl up_h) (by simp only [packA_t, packA_f, iE, bE, setAt, cellsA, Value.cells, map_vc, map_vn, Nat.reduceAdd, qS, jnE, beE, Int.toNat_natCast, toNat_suc] <;> rfl)) trivial rfl ?_
  refine ds_ro' (ro_eq (ro_fld_ref y20_fl26_1 rfl up_h) (by simp only [packA_t, packA_f, iE, bE, setAt, cellsA, Value.cells, map_vc, map_vn, Nat.reduceAdd, qS, jnE, beE, Int.toNat_natCast, toNat_suc] <;> rfl)) trivial rfl ?_
  refine ds_ro' (ro_eq (ro_ld_ref y20_ty22 rfl up_h (by exact Nat.le_of_ble_eq_true rfl)) (by simp only [packA_t, packA_f, iE, bE, setAt, cellsA, Value.cells, map_vc, map_vn, Nat.reduceAdd, qS, jnE, beE, Int.toNat_natCast, toNat_suc] <;> rfl)) trivial rfl ?_
  refine ds_ro' (ro_move (u2 rfl (u4 rfl s11_14))) trivial rfl ?_
  refine ds_ro' (ro_eq (ro_ix y20_sl22 (up_m rfl up_h) up_h (by omega) (by first | (refine idx_map ?_; first | omega | (simp only [lnS]; omega)) | (refine idx_mapI ?_; first | omega | (simp only [lnS]; omega)) | (refine idx_mapN ?_; first | omega | (simp only [lnS]; omega)) | rfl)) (by simp only [packA_t, packA_f, iE, bE, setAt, cellsA, Value.cells, map_vc, map_vn, Nat.reduceAdd, qS, jnE, beE, Int.toNat_natCast, toNat_suc] <;> rfl)) trivial rfl ?_
  refine ds_ro' (ro_eq (ro_ld_ref y20_ty42 rfl up_h (by exact Nat.le_of_ble_eq_true rfl)) (by simp only [packA_t, packA_f, iE, bE, setAt, cellsA, Value.cells, map_vc, map_vn, Nat.reduceAdd, qS, jnE, beE, Int.toNat_natCast, toNat_suc] <;> rfl)) trivial rfl ?_
  refine ds_ro' (ro_callf (u8 rfl up_h) (evL_cons up_h evL_nil) rfl (up_ok _) y20_hcf71) trivial rfl ?_
  refine ds_ro' (ro_move (u2 rfl (u8 rfl s2_14))) trivial rfl ?_
  refine ds_ro' (ro_move (up_m rfl (u2 rfl (u8 rfl s8_14)))) trivial rfl ?_
  refine ds_ro' (ro_nilR up_h) trivial rfl ?_
  refine ds_ro' (ro_eq (ro_fld_ref y20_fl116_0 rfl up_h) (by simp only [packA_t, packA_f, iE, bE, setAt, cellsA, Value.cells, map_vc, map_vn, Nat.reduceAdd, qS, jnE, beE, Int.toNat_natCast, toNat_suc] <;> rfl)) trivial rfl ?_
  refine ds_ro' (ro_eq (ro_fld_ref y20_fl26_1 rfl up_h) (by simp only [packA_t, packA_f, iE, bE, setAt, cellsA, Value.cells, map_vc, map_vn, Nat.reduceAdd, qS, jnE, beE, Int.toNat_natCast, toNat_suc] <;> rfl)) trivial rfl ?_
  refine ds_ro' (ro_eq (ro_ld_ref y20_ty22 rfl up_h (by exact Nat.le_of_ble_eq_true rfl)) (by simp only [packA_t, packA_f, iE, bE, setAt, cellsA, Value.cells, map_vc, map_vn, Nat.reduceAdd, qS, jnE, beE, Int.toNat_natCast, toNat_suc] <;> rfl)) trivial rfl ?_
  refine ds_ro' (ro_move (u16 rfl s11_14)) trivial rfl ?_
  (refine ds_ro' (ro_add' up_h ev_c ?_) trivial rfl ?_; · (unfold In64; omega))
  refine ds_ro' (ro_eq (ro_ix y20_sl22 (u2 rfl up_h) up_h (by omega) (by refine idx_map ?_; first | omega | (simp only [lnS]; omega))) (by simp only [packA_t, packA_f, iE, bE, setAt, cellsA, Value.cells, map_vc, map_vn, Nat.reduceAdd, qS, jnE, beE, Int.toNat_natCast, toNat_suc] <;> rfl)) trivial rfl ?_
  refine ds_ro' (ro_eq (ro_ld_ref y20_ty42 rfl up_h (by exact Nat.le_of_ble_eq_true rfl)) (by simp only [packA_t, packA_f, iE, bE, setAt, cellsA, Value.cells, map_vc, map_vn, Nat.reduceAdd, qS, jnE, beE, Int.toNat_natCast, toNat_suc] <;> rfl)) trivial rfl ?_
  refine ds_ro' (ro_callf (up_m rfl (u8 rfl up_h)) (evL_cons up_h evL_nil) rfl (up_ok _) y20_hcf71) trivial rfl ?_
  refine ds_ro' (ro_move (up_m rfl (u4 rfl (u16 rfl s8_14)))) trivial rfl ?_
  refine ds_ro' (ro_nilR up_h) trivial rfl ?_
  refine ds_ro' (ro_eq (ro_fld_ref y20_fl116_0 rfl up_h) (by simp only [packA_t, packA_f, iE, bE, setAt, cellsA, Value.cells, map_vc, map_vn, Nat.reduceAdd, qS, jnE, beE, Int.toNat_natCast, toNat_suc] <;> rfl)) trivial rfl ?_
  refine ds_ro' (ro_eq (ro_fld_ref y20_fl26_2 rfl up_h) (by simp only [packA_t, packA_f, iE, bE, setAt, cellsA, Value.cells, map_vc, map_vn, Nat.reduceAdd, qS, jnE, beE, Int.toNat_natCast, toNat_suc] <;> rfl)) trivial rfl ?_
  refine ds_ro' (ro_eq (ro_ld_ref y20_ty23 rfl up_h (by exact Nat.le_of_ble_eq_true rfl)) (by simp only [packA_t, packA_f, iE, bE, setAt, cellsA, Value.cells, map_vc, map_vn, Nat.reduceAdd, qS, jnE, beE, Int.toNat_natCast, toNat_suc] <;> rfl)) trivial rfl ?_
  refine ds_ro' (ro_move (u2 rfl (u8 rfl (u16 rfl s11_14)))) trivial rfl ?_
  refine ds_ro' (ro_eq (ro_ix y20_sl23 (up_m rfl up_h) up_h (by omega) (by first | (refine idx_map ?_; first | omega | (simp only [lnS]; omega)) | (refine idx_mapI ?_; first | omega | (simp only [lnS]; omega)) | (refine idx_mapN ?_; first | omega | (simp only [lnS]; omega)) | rfl)) (by simp only [packA_t, packA_f, iE, bE, setAt, cellsA, Value.cells, map_vc, map_vn, Nat.reduceAdd, qS, jnE, beE, Int.toNat_natCast, toNat_suc] <;> rfl)) trivial rfl ?_
  refine ds_ro' (ro_eq (ro_fld_ref y20_fl47_0 rfl up_h) (by simp only [packA_t, packA_f, iE, bE, setAt, cellsA, Value.cells, map_vc, map_vn, Nat.reduceAdd, qS, jnE, beE, Int.toNat_natCast, toNat_suc] <;> rfl)) trivial rfl ?_
  refine ds_ro' (ro_eq (ro_ld_ref y20_ty3 rfl up_h (by exact Nat.le_of_ble_eq_true rfl)) (by simp only [packA_t, packA_f, iE, bE, setAt, cellsA, Value.cells, map_vc, map_vn, Nat.reduceAdd, qS, jnE, beE, Int.toNat_natCast, toNat_suc] <;> rfl)) trivial rfl ?_
  refine ds_ro' (ro_assign (u4 rfl (u16 rfl up_h))) trivial rfl ?_
  refine ds_ro' (ro_assign (u2 rfl (u8 rfl up_h))) trivial rfl ?_
  refine ds_ro' (ro_assign (u2 rfl up_h)) trivial rfl ?_
  refine ds_nil ?_
  refine al_end (fun e_15 he_15 => ?_)
  have s6_15 := ef 6 he_15 (up_m rfl (u16 rfl (u16 rfl s6_14)))
  have s12_15 := ef 12 he_15 (up_m rfl (u16 rfl (u16 rfl s12_14)))
  have s13_15 := ef 13 he_15 (u2 rfl up_h)
  have s14_15 := ef 14 he_15 (up_m rfl up_h)
  have s15_15 := ef 15 he_15 up_h
  clear he_15 s11_14 s12_14 s2_14 s6_14 s8_14
  refine then_n ?_
  refine aw_seq ?_
  refine aw_text (by kernel_rfl) ?_
  refine al_ro' (ro_move s13_15) trivial rfl ?_
  refine al_ro' (ro_move (up_m rfl s15_15)) trivial rfl ?_
  (refine al_ro' (ro_mul' (up_m rfl up_h) up_h ?_) trivial rfl ?_; · (unfold In64; omega))
  refine al_ro' (ro_move (up_m rfl (u2 rfl s14_15))) trivial rfl ?_
  refine al_ro' (ro_move (u4 rfl s13_15)) trivial rfl ?_
  (refine al_ro' (ro_sub' (up_m rfl up_h) up_h ?_) trivial rfl ?_; · (unfold In64; omega))
  refine al_ro' (ro_move (u2 rfl (u4 rfl s12_15))) trivial rfl ?_
  (refine al_ro' (ro_mul' (up_m rfl up_h) up_h ?_) trivial rfl ?_; · (unfold In64; omega))
  (refine al_ro' (ro_add' (up_m rfl (u4 rfl up_h)) up_h ?_) trivial rfl ?_; · (unfold In64; omega))
  refine al_ro' (ro_move (up_m rfl (u8 rfl s15_15))) trivial rfl ?_
  refine al_ro' (ro_call (evL_cons (up_m rfl up_h) (evL_cons up_h evL_nil)) rfl (frac_ok _ _ (by rw [betN_eq]; exact betN_in (by omega) (by omega) (by omega) (by omega) a3 a2) (by omega)) y20_hcf101) trivial rfl ?_
  refine al_stm (st_store (up_m rfl (u2 rfl (u8 rfl s6_15))) up_h rfl rfl mo1_2 y20_sz35 rfl (by exact Nat.le_of_ble_eq_true rfl)) trivial rfl (fun m_16 hm_16 => ?_)
  have mo1_16 := m_set hm_16 mo1_2
  simp only [packA_t, packA_f, iE, bE, setAt, cellsA, Value.cells, map_vc, map_vn, Nat.reduceAdd, qS, jnE, beE, Int.toNat_natCast, toNat_suc] at mo1_16
  have mo0_16 := m_set_o hm_16 mo0_2 (by decide)
  have ml_16 := m_set_l hm_16 ml_2
  clear hm_16 mo1_2 mo0_2
  refine al_ro' (ro_assign ev_c) trivial rfl ?_
  refine al_end (fun e_17 he_17 => ?_)
  have s6_17 := ef 6 he_17 (up_m rfl (up_n (up_m rfl (u2 rfl (u8 rfl s6_15)))))
  have s7_17 := ef 7 he_17 up_h
  clear he_17 s12_15 s13_15 s14_15 s15_15 s6_15
  refine then_n ?_
  refine aw_ret ?_
  refine ret2 (.inr rfl) (by kernel_rfl) (resV_cell s6_17 mo1_16 y20_ty35 (by exact Nat.le_of_ble_eq_true rfl) (by simp)) (resV_tmp s7_17) (vw_r (.ro _ rfl)) (.ro _ rfl) ?_
  clear s6_17 s7_17 mo1_16 mo0_16 ml_16
  (rw [betN_eq]; rfl)
set_option maxRecDepth 100000 in
set_option maxHeartbeats 1000000 in
theorem UpAt_in (l : Lin) (hl : Sho l) (hg : (linM l).2 = 0) (p : Int) (hm : plaE l p = 0) : FnOk Try.prog 19 [lnA l, mA p] (fun q => q = .tuple [betA (l.js.getD (atI l p) default).up (l.js.getD (atI l p + 1) default).up (atD l p) (l.bs.getD (atI l p) default).len, mA 0]) := by
  refine fnOk_of (fn := Try.f19) 11 (by kernel_rfl) rfl (by kernel_rfl) (Nat.le_of_ble_eq_true rfl) ?_
  intro e_0 m_0 hA hm_0
  have s0_0 : evA e_0 (.tmp 0) = _ := hA 0 _ rfl
  have s1_0 : evA e_0 (.tmp 1) = _ := hA 1 _ rfl
  have ml_0 : m_0.length = 0 := by rw [hm_0]; rfl
  clear hA hm_0
  refine aw_seq ?_
  refine aw_text (by kernel_rfl) ?_
  refine al_stm (st_box s0_0 rfl ml_0) trivial rfl (fun m_1 hm_1 => ?_)
  have mo0_1 := m_push hm_1 ml_0
  have ml_1 := m_push_l hm_1 ml_0
  have ml_1 : _ = 1 := ml_1
  clear hm_1
  refine al_stm (st_alloc y20_az35 rfl ml_1) trivial rfl (fun m_2 hm_2 => ?_)
  have mo1_2 := m_push hm_2 ml_1
  simp only [packA_t, packA_f, iE, bE, setAt, cellsA, Value.cells, map_vc, map_vn, Nat.reduceAdd, qS] at mo1_2
  have mo0_2 := m_push_o hm_2 mo0_1
  have ml_2 := m_push_l hm_2 ml_1
  have ml_2 : _ = 2 := ml_2
  clear hm_2 mo0_1
  refine al_ro' (ro_assign ev_c) trivial rfl ?_
  refine al_end (fun e_3 he_3 => ?_)
  have s1_3 := ef 1 he_3 (up_m rfl (u2 rfl s1_0))
  have s2_3 := ef 2 he_3 (u2 rfl up_h)
  have s4_3 := ef 4 he_3 (up_m rfl up_h)
  clear he_3 s0_0 s1_0
  refine then_n ?_
  refine aw_seq ?_
  refine aw_text (by kernel_rfl) ?_
  refine al_ro' (ro_eq (ro_ld_ptr y20_ty26 rfl mo0_2 s2_3 (by exact Nat.le_of_ble_eq_true rfl)) (by simp only [packA_t, packA_f, iE, bE, setAt, cellsA, Value.cells, map_vc, map_vn, Nat.reduceAdd, qS] <;> rfl)) trivial rfl ?_
  refine al_ro' (ro_move (up_m rfl s1_3)) trivial rfl ?_
  refine al_ro' (ro_call (evL_cons (up_m rfl up_h) (evL_cons up_h (evL_cons ev_f evL_nil))) rfl (betweenUp_in l hl hg p hm) y20_hcf69) trivial rfl ?_
  refine al_ro' (ro_extract up_h rfl) trivial rfl ?_
  refine al_ro' (ro_extract (up_m rfl up_h) rfl) trivial rfl ?_
  refine al_stm (st_store (up_m rfl (u4 rfl s4_3)) (up_m rfl up_h) rfl rfl mo1_2 y20_sz35 rfl (by exact Nat.le_of_ble_eq_true rfl)) trivial rfl (fun m_4 hm_4 => ?_)
  have mo1_4 := m_set hm_4 mo1_2
  simp only [packA_t, packA_f, iE, bE, setAt, cellsA, Value.cells, map_vc, map_vn, Nat.reduceAdd, qS] at mo1_4
  have mo0_4 := m_set_o hm_4 mo0_2 (by decide)
  have ml_4 := m_set_l hm_4 ml_2
  clear hm_4 mo1_2 mo0_2
  refine al_ro' (ro_assign (up_n up_h)) trivial rfl ?_
  refine al_end (fun e_5 he_5 => ?_)
  have s4_5 := ef 4 he_5 (up_m rfl (up_n (up_m rfl (u4 rfl s4_3))))
  have s5_5 := ef 5 he_5 up_h
  clear he_5 s1_3 s2_3 s4_3
  refine then_n ?_
  refine aw_ret ?_
  refine ret2 (.inr rfl) (by kernel_rfl) (resV_cell s4_5 mo1_4 y20_ty35 (by exact Nat.le_of_ble_eq_true rfl) (by simp)) (resV_tmp s5_5) (vw_r (.ro _ rfl)) (.ro _ rfl) ?_
  clear s4_5 s5_5 mo1_4 mo0_4 ml_4
  rfl
end Go.Proofs.Ytknclifdncmgpaa

/- Contracts: products and quotients of two words, the limit at a joint where the product is one word. No conditions on a program. -/
namespace Go.Proofs.Ytknclifdncmgpaa
open Go Go.RowKit Go.Proofs
set_option linter.unusedSimpArgs false
set_option linter.unusedVariables false
theorem y21_fl116_0 : FldIs Try.prog 116 0 0 true 4 := by unfold FldIs; kernel_rfl
theorem y21_fl26_1 : FldIs Try.prog 26 1 1 false 1 := by unfold FldIs; kernel_rfl
theorem y21_fl26_2 : FldIs Try.prog 26 2 2 false 1 := by unfold FldIs; kernel_rfl
theorem y21_fl42_0 : FldIs Try.prog 42 0 0 false 1 := by unfold FldIs; kernel_rfl
theorem y21_fl47_0 : FldIs Try.prog 47 0 0 false 1 := by unfold FldIs; kernel_rfl
theorem y21_hcf132 : ∀ args w, (callFunc 132 args).run Try.prog w = .ok (.enter 132 args) w := fun _ _ => by kernel_rfl
theorem y21_hcf76 : ∀ args w, (callFunc 76 args).run Try.prog w = .ok (.enter 76 args) w := fun _ _ => by kernel_rfl
theorem y21_hcf77 : ∀ args w, (callFunc 77 args).run Try.prog w = .ok (.enter 77 args) w := fun _ _ => by kernel_rfl
theorem y21_sl22 : SlIs Try.prog 22 42 4 32 (.agg #[.int .i64 0, .int .i64 0, .int .i64 0, .int .i64 0]) := ⟨by kernel_rfl, by kernel_rfl, by kernel_rfl⟩
theorem y21_sl23 : SlIs Try.prog 23 47 2 16 (.agg #[.int .i64 0, .int .i64 0]) := ⟨by kernel_rfl, by kernel_rfl, by kernel_rfl⟩
theorem y21_ty22 : TyIs Try.prog 22 false 1 := ⟨by kernel_rfl, by kernel_rfl⟩
theorem y21_ty23 : TyIs Try.prog 23 false 1 := ⟨by kernel_rfl, by kernel_rfl⟩
theorem y21_ty3 : TyIs Try.prog 3 false 1 := ⟨by kernel_rfl, by kernel_rfl⟩

abbrev uA (n : Int) : AV := .v (.int .u64 n)
theorem mul_words (x y : Int) : x * y = (x / 4294967296) * (y / 4294967296) * 18446744073709551616 + (x / 4294967296) * (y % 4294967296) * 4294967296 + (x % 4294967296) * (y / 4294967296) * 4294967296 + (x % 4294967296) * (y % 4294967296) := by
  have h1 : x = (x / 4294967296) * 4294967296 + x % 4294967296 := by omega
  have h2 : y = (y / 4294967296) * 4294967296 + y % 4294967296 := by omega
  generalize x / 4294967296 = b at *
  generalize x % 4294967296 = a at *
  generalize y / 4294967296 = d at *
  generalize y % 4294967296 = c at *
  subst h1 h2
  have e1 : b * 4294967296 * (d * 4294967296) = b * d * 18446744073709551616 := by
    rw [Int.mul_assoc, ← Int.mul_assoc 4294967296 d, Int.mul_comm 4294967296 d, Int.mul_assoc d, ← Int.mul_assoc b d]; rfl
  have e2 : b * 4294967296 * c = b * c * 4294967296 := by rw [Int.mul_assoc, Int.mul_comm 4294967296 c, ← Int.mul_assoc]
  have e3 : a * (d * 4294967296) = a * d * 4294967296 := by rw [← Int.mul_assoc]
  rw [Int.add_mul, Int.mul_add, Int.mul_add, e1, e2, e3]
  omega
theorem prod_in {a c : Int} (h1 : 0 ≤ a ∧ a < 4294967296) (h2 : 0 ≤ c ∧ c < 4294967296) : 0 ≤ a * c ∧ a * c ≤ 18446744065119617025 := by
  have := mul_in 4294967295 4294967295 (x := a) (y := c) (by omega) (by omega)
  have := Int.mul_nonneg h1.1 h2.1
  omega
set_option maxRecDepth 100000 in
set_option maxHeartbeats 4000000 in
theorem mul64_ok (x y : Int) (hx : InU64 x) (hy : InU64 y) : FnOk Try.prog 122 [uA x, uA y] (fun q => q = .tuple [uA (x * y / 18446744073709551616), uA (x * y % 18446744073709551616)]) := by
  refine fnOk_of (fn := Try.f122) 51 (by kernel_rfl) rfl (by kernel_rfl) (Nat.le_of_ble_eq_true rfl) ?_
  intro e_0 m_0 hA hm_0
  have s0_0 : evA e_0 (.tmp 0) = _ := hA 0 _ rfl
  have s1_0 : evA e_0 (.tmp 1) = _ := hA 1 _ rfl
  have ml_0 : m_0.length = 0 := by rw [hm_0]; rfl
  clear hA hm_0
  have hx' := hx; have hy' := hy; unfold InU64 at hx' hy'; have q1 := prod_in (a := x % 4294967296) (c := y % 4294967296) (by omega) (by omega); have q2 := prod_in (a := x / 4294967296) (c := y % 4294967296) (by omega) (by omega); have q3 := prod_in (a := x % 4294967296) (c := y / 4294967296) (by omega) (by omega); have q4 := prod_in (a := x / 4294967296) (c := y / 4294967296) (by omega) (by omega); have hm := mul_words x y
  refine aw_seq ?_
  refine aw_text (by kernel_rfl) ?_
  refine al_ro' (ro_assign ev_c) trivial rfl ?_
  refine al_ro' (ro_assign ev_c) trivial rfl ?_
  refine al_end (fun e_1 he_1 => ?_)
  have s0_1 := ef 0 he_1 (u2 rfl s0_0)
  have s1_1 := ef 1 he_1 (u2 rfl s1_0)
  clear he_1 s0_0 s1_0
  refine then_n ?_
  refine aw_seq ?_
  refine aw_text (by kernel_rfl) ?_
  refine al_ro' (ro_move s0_1) trivial rfl ?_
  (refine al_ro' (ro_andL (c := 4294967296) up_h ev_c 32 (by decide) (by decide) (by decide) ?_) trivial rfl ?_; · ((first | unfold In64 | unfold InU64); omega))
  refine al_ro' (ro_assign up_h) trivial rfl ?_
  refine al_end (fun e_2 he_2 => ?_)
  have s0_2 := ef 0 he_2 (up_m rfl (u2 rfl s0_1))
  have s1_2 := ef 1 he_2 (up_m rfl (u2 rfl s1_1))
  have s6_2 := ef 6 he_2 up_h
  clear he_2 s0_1 s1_1
  refine then_n ?_
  refine aw_seq ?_
  refine aw_text (by kernel_rfl) ?_
  refine al_ro' (ro_move s0_2) trivial rfl ?_
  refine al_ro' (ro_shr (c := 4294967296) up_h ev_c (by decide) (by decide)) trivial rfl ?_
  refine al_ro' (ro_assign up_h) trivial rfl ?_
  refine al_end (fun e_3 he_3 => ?_)
  have s0_3 := ef 0 he_3 (up_m rfl (u2 rfl s0_2))
  have s1_3 := ef 1 he_3 (up_m rfl (u2 rfl s1_2))
  have s6_3 := ef 6 he_3 (up_m rfl (u2 rfl s6_2))
  have s7_3 := ef 7 he_3 up_h
  clear he_3 s0_2 s1_2 s6_2
  refine then_n ?_
  refine aw_seq ?_
  refine aw_text (by kernel_rfl) ?_
  refine al_ro' (ro_move s1_3) trivial rfl ?_
  (refine al_ro' (ro_andL (c := 4294967296) up_h ev_c 32 (by decide) (by decide) (by decide) ?_) trivial rfl ?_; · ((first | unfold In64 | unfold InU64); omega))
  refine al_ro' (ro_assign up_h) trivial rfl ?_
  refine al_end (fun e_4 he_4 => ?_)
  have s0_4 := ef 0 he_4 (up_m rfl (u2 rfl s0_3))
  have s1_4 := ef 1 he_4 (up_m rfl (u2 rfl s1_3))
  have s6_4 := ef 6 he_4 (up_m rfl (u2 rfl s6_3))
  have s7_4 := ef 7 he_4 (up_m rfl (u2 rfl s7_3))
  have s8_4 := ef 8 he_4 up_h
  clear he_4 s0_3 s1_3 s6_3 s7_3
  refine then_n ?_
  refine aw_seq ?_
  refine aw_text (by kernel_rfl) ?_
  refine al_ro' (ro_move s1_4) trivial rfl ?_
  refine al_ro' (ro_shr (c := 4294967296) up_h ev_c (by decide) (by decide)) trivial rfl ?_
  refine al_ro' (ro_assign up_h) trivial rfl ?_
  refine al_end (fun e_5 he_5 => ?_)
  have s0_5 := ef 0 he_5 (up_m rfl (u2 rfl s0_4))
  have s1_5 := ef 1 he_5 (up_m rfl (u2 rfl s1_4))
  have s6_5 := ef 6 he_5 (up_m rfl (u2 rfl s6_4))
  have s7_5 := ef 7 he_5 (up_m rfl (u2 rfl s7_4))
  have s8_5 := ef 8 he_5 (up_m rfl (u2 rfl s8_4))
  have s9_5 := ef 9 he_5 up_h
  clear he_5 s0_4 s1_4 s6_4 s7_4 s8_4
  refine then_n ?_
  refine aw_seq ?_
  refine aw_text (by kernel_rfl) ?_
  refine al_ro' (ro_move s6_5) trivial rfl ?_
  refine al_ro' (ro_move (up_m rfl s8_5)) trivial rfl ?_
  (refine al_ro' (ro_mulU (up_m rfl up_h) up_h ?_) trivial rfl ?_; · ((first | unfold In64 | unfold InU64); omega))
  refine al_ro' (ro_assign up_h) trivial rfl ?_
  refine al_end (fun e_6 he_6 => ?_)
  have s0_6 := ef 0 he_6 (u4 rfl s0_5)
  have s1_6 := ef 1 he_6 (u4 rfl s1_5)
  have s6_6 := ef 6 he_6 (u4 rfl s6_5)
  have s7_6 := ef 7 he_6 (u4 rfl s7_5)
  have s8_6 := ef 8 he_6 (u4 rfl s8_5)
  have s9_6 := ef 9 he_6 (u4 rfl s9_5)
  have s10_6 := ef 10 he_6 up_h
  clear he_6 s0_5 s1_5 s6_5 s7_5 s8_5 s9_5
  refine then_n ?_
  refine aw_seq ?_
  refine aw_text (by kernel_rfl) ?_
  refine al_ro' (ro_move s7_6) trivial rfl ?_
  refine al_ro' (ro_move (up_m rfl s8_6)) trivial rfl ?_
  (refine al_ro' (ro_mulU (up_m rfl up_h) up_h ?_) trivial rfl ?_; · ((first | unfold In64 | unfold InU64); omega))
  refine al_ro' (ro_move (up_m rfl (u2 rfl s10_6))) trivial rfl ?_
  refine al_ro' (ro_shr (c := 4294967296) up_h ev_c (by decide) (by decide)) trivial rfl ?_
  (refine al_ro' (ro_addU (u2 rfl up_h) up_h ?_) trivial rfl ?_; · ((first | unfold In64 | unfold InU64); omega))
  refine al_ro' (ro_assign up_h) trivial rfl ?_
  refine al_end (fun e_7 he_7 => ?_)
  have s0_7 := ef 0 he_7 (up_m rfl (u2 rfl (u4 rfl s0_6)))
  have s1_7 := ef 1 he_7 (up_m rfl (u2 rfl (u4 rfl s1_6)))
  have s6_7 := ef 6 he_7 (up_m rfl (u2 rfl (u4 rfl s6_6)))
  have s7_7 := ef 7 he_7 (up_m rfl (u2 rfl (u4 rfl s7_6)))
  have s9_7 := ef 9 he_7 (up_m rfl (u2 rfl (u4 rfl s9_6)))
  have s11_7 := ef 11 he_7 up_h
  clear he_7 s0_6 s10_6 s1_6 s6_6 s7_6 s8_6 s9_6
  refine then_n ?_
  refine aw_seq ?_
  refine aw_text (by kernel_rfl) ?_
  refine al_ro' (ro_move s11_7) trivial rfl ?_
  (refine al_ro' (ro_andL (c := 4294967296) up_h ev_c 32 (by decide) (by decide) (by decide) ?_) trivial rfl ?_; · ((first | unfold In64 | unfold InU64); omega))
  refine al_ro' (ro_assign up_h) trivial rfl ?_
  refine al_end (fun e_8 he_8 => ?_)
  have s0_8 := ef 0 he_8 (up_m rfl (u2 rfl s0_7))
  have s1_8 := ef 1 he_8 (up_m rfl (u2 rfl s1_7))
  have s6_8 := ef 6 he_8 (up_m rfl (u2 rfl s6_7))
  have s7_8 := ef 7 he_8 (up_m rfl (u2 rfl s7_7))
  have s9_8 := ef 9 he_8 (up_m rfl (u2 rfl s9_7))
  have s11_8 := ef 11 he_8 (up_m rfl (u2 rfl s11_7))
  have s12_8 := ef 12 he_8 up_h
  clear he_8 s0_7 s11_7 s1_7 s6_7 s7_7 s9_7
  refine then_n ?_
  refine aw_seq ?_
  refine aw_text (by kernel_rfl) ?_
  refine al_ro' (ro_move s11_8) trivial rfl ?_
  refine al_ro' (ro_shr (c := 4294967296) up_h ev_c (by decide) (by decide)) trivial rfl ?_
  refine al_ro' (ro_assign up_h) trivial rfl ?_
  refine al_end (fun e_9 he_9 => ?_)
  have s0_9 := ef 0 he_9 (up_m rfl (u2 rfl s0_8))
  have s1_9 := ef 1 he_9 (up_m rfl (u2 rfl s1_8))
  have s6_9 := ef 6 he_9 (up_m rfl (u2 rfl s6_8))
  have s7_9 := ef 7 he_9 (up_m rfl (u2 rfl s7_8))
  have s9_9 := ef 9 he_9 (up_m rfl (u2 rfl s9_8))
  have s12_9 := ef 12 he_9 (up_m rfl (u2 rfl s12_8))
  have s13_9 := ef 13 he_9 up_h
  clear he_9 s0_8 s11_8 s12_8 s1_8 s6_8 s7_8 s9_8
  refine then_n ?_
  refine aw_seq ?_
  refine aw_text (by kernel_rfl) ?_
  refine al_ro' (ro_move s12_9) trivial rfl ?_
  refine al_ro' (ro_move (up_m rfl s6_9)) trivial rfl ?_
  refine al_ro' (ro_move (u2 rfl s9_9)) trivial rfl ?_
  (refine al_ro' (ro_mulU (up_m rfl up_h) up_h ?_) trivial rfl ?_; · ((first | unfold In64 | unfold InU64); omega))
  (refine al_ro' (ro_addU (up_m rfl (u2 rfl up_h)) up_h ?_) trivial rfl ?_; · ((first | unfold In64 | unfold InU64); omega))
  refine al_ro' (ro_assign up_h) trivial rfl ?_
  refine al_end (fun e_10 he_10 => ?_)
  have s0_10 := ef 0 he_10 (u2 rfl (u4 rfl s0_9))
  have s1_10 := ef 1 he_10 (u2 rfl (u4 rfl s1_9))
  have s7_10 := ef 7 he_10 (u2 rfl (u4 rfl s7_9))
  have s9_10 := ef 9 he_10 (u2 rfl (u4 rfl s9_9))
  have s12_10 := ef 12 he_10 up_h
  have s13_10 := ef 13 he_10 (u2 rfl (u4 rfl s13_9))
  clear he_10 s0_9 s12_9 s13_9 s1_9 s6_9 s7_9 s9_9
  refine then_n ?_
  refine aw_seq ?_
  refine aw_text (by kernel_rfl) ?_
  refine al_ro' (ro_move s7_10) trivial rfl ?_
  refine al_ro' (ro_move (up_m rfl s9_10)) trivial rfl ?_
  (refine al_ro' (ro_mulU (up_m rfl up_h) up_h ?_) trivial rfl ?_; · ((first | unfold In64 | unfold InU64); omega))
  refine al_ro' (ro_move (up_m rfl (u2 rfl s13_10))) trivial rfl ?_
  (refine al_ro' (ro_addU (up_m rfl up_h) up_h ?_) trivial rfl ?_; · ((first | unfold In64 | unfold InU64); omega))
  refine al_ro' (ro_move (up_m rfl (u4 rfl s12_10))) trivial rfl ?_
  refine al_ro' (ro_shr (c := 4294967296) up_h ev_c (by decide) (by decide)) trivial rfl ?_
  (refine al_ro' (ro_addU (u2 rfl up_h) up_h ?_) trivial rfl ?_; · ((first | unfold In64 | unfold InU64); omega))
  refine al_ro' (ro_assign up_h) trivial rfl ?_
  refine al_end (fun e_11 he_11 => ?_)
  have s0_11 := ef 0 he_11 (up_m rfl (u8 rfl s0_10))
  have s1_11 := ef 1 he_11 (up_m rfl (u8 rfl s1_10))
  have s4_11 := ef 4 he_11 up_h
  clear he_11 s0_10 s12_10 s13_10 s1_10 s7_10 s9_10
  refine then_n ?_
  refine aw_seq ?_
  refine aw_text (by kernel_rfl) ?_
  refine al_ro' (ro_move s0_11) trivial rfl ?_
  refine al_ro' (ro_move (up_m rfl s1_11)) trivial rfl ?_
  refine al_ro' (ro_mul (up_m rfl up_h) up_h) trivial rfl ?_
  refine al_ro' (ro_assign up_h) trivial rfl ?_
  refine al_end (fun e_12 he_12 => ?_)
  have s4_12 := ef 4 he_12 (u4 rfl s4_11)
  have s5_12 := ef 5 he_12 up_h
  clear he_12 s0_11 s1_11 s4_11
  refine then_n ?_
  refine aw_ret ?_
  refine ret2 (.inr rfl) (by kernel_rfl) (resV_tmp s4_12) (resV_tmp s5_12) (.ro _ rfl) (.ro _ rfl) ?_
  clear s4_12 s5_12  ml_0
  (rw [wrapU_eq]; refine congrArg (fun a => AV.tuple [uA a, uA (x * y % 18446744073709551616)]) ?_; omega)
set_option maxRecDepth 100000 in
set_option maxHeartbeats 4000000 in
theorem div64_low (lo y : Int) (hl : InU64 lo) (hy : InU64 y) (h0 : 0 < y) : FnOk Try.prog 123 [uA 0, uA lo, uA y] (fun q => q = .tuple [uA (lo / y), uA (lo % y)]) := by
  refine fnOk_of (fn := Try.f123) 135 (by kernel_rfl) rfl (by kernel_rfl) (Nat.le_of_ble_eq_true rfl) ?_
  intro e_0 m_0 hA hm_0
  have s0_0 : evA e_0 (.tmp 0) = _ := hA 0 _ rfl
  have s1_0 : evA e_0 (.tmp 1) = _ := hA 1 _ rfl
  have s2_0 : evA e_0 (.tmp 2) = _ := hA 2 _ rfl
  have ml_0 : m_0.length = 0 := by rw [hm_0]; rfl
  clear hA hm_0
  have hl' := hl; have hy' := hy; unfold InU64 at hl' hy'
  refine aw_seq ?_
  refine aw_text (by kernel_rfl) ?_
  refine al_ro' (ro_assign ev_c) trivial rfl ?_
  refine al_ro' (ro_assign ev_c) trivial rfl ?_
  refine al_end (fun e_1 he_1 => ?_)
  have s0_1 := ef 0 he_1 (u2 rfl s0_0)
  have s1_1 := ef 1 he_1 (u2 rfl s1_0)
  have s2_1 := ef 2 he_1 (u2 rfl s2_0)
  clear he_1 s0_0 s1_0 s2_0
  refine then_n ?_
  refine aw_seq ?_
  refine aw_seq ?_
  refine aw_text (by kernel_rfl) ?_
  refine al_ro' (ro_move s2_1) trivial rfl ?_
  refine al_ro' (ro_eql up_h ev_c) trivial rfl ?_
  refine al_end (fun e_2 he_2 => ?_)
  have s0_2 := ef 0 he_2 (u2 rfl s0_1)
  have s1_2 := ef 1 he_2 (u2 rfl s1_1)
  have s2_2 := ef 2 he_2 (u2 rfl s2_1)
  have s20_2 := ef 20 he_2 up_h
  clear he_2 s0_1 s1_1 s2_1
  refine then_n ?_
  refine aw_case s20_2 (fun hq_3 => ?_) (fun hq_3 => ?_)
  · replace hq_3 := bt hq_3; exfalso; omega
  replace hq_3 := bf hq_3
  refine aw_skip ?_
  refine then_n ?_
  refine aw_seq ?_
  refine aw_seq ?_
  refine aw_text (by kernel_rfl) ?_
  refine al_ro' (ro_move s2_2) trivial rfl ?_
  refine al_ro' (ro_move (up_m rfl s0_2)) trivial rfl ?_
  refine al_ro' (ro_leq (up_m rfl up_h) up_h) trivial rfl ?_
  refine al_end (fun e_4 he_4 => ?_)
  have s0_4 := ef 0 he_4 (up_m rfl (u2 rfl s0_2))
  have s1_4 := ef 1 he_4 (up_m rfl (u2 rfl s1_2))
  have s2_4 := ef 2 he_4 (up_m rfl (u2 rfl s2_2))
  have s24_4 := ef 24 he_4 up_h
  clear he_4 s0_2 s1_2 s20_2 s2_2
  refine then_n ?_
  refine aw_case s24_4 (fun hq_5 => ?_) (fun hq_5 => ?_)
  · replace hq_5 := bt hq_5; exfalso; omega
  replace hq_5 := bf hq_5
  refine aw_skip ?_
  refine then_n ?_
  refine aw_seq ?_
  refine aw_seq ?_
  refine aw_text (by kernel_rfl) ?_
  refine al_ro' (ro_move s0_4) trivial rfl ?_
  refine al_ro' (ro_eql up_h ev_c) trivial rfl ?_
  refine al_end (fun e_6 he_6 => ?_)
  have s0_6 := ef 0 he_6 (u2 rfl s0_4)
  have s1_6 := ef 1 he_6 (u2 rfl s1_4)
  have s2_6 := ef 2 he_6 (u2 rfl s2_4)
  have s27_6 := ef 27 he_6 up_h
  clear he_6 s0_4 s1_4 s24_4 s2_4
  refine then_n ?_
  refine aw_case s27_6 (fun hq_7 => ?_) (fun hq_7 => ?_)
  ·replace hq_7 := bt hq_7
   refine aw_seq ?_
   refine aw_draw 8 (by kernel_rfl) (by kernel_rfl) (by kernel_rfl) (by kernel_rfl) ?_
   refine ds_ro' (ro_move s1_6) trivial rfl ?_
   refine ds_ro' (ro_move (up_m rfl s2_6)) trivial rfl ?_
   (refine ds_ro' (ro_quoU (up_m rfl up_h) up_h (by omega) ?_) trivial rfl ?_; · ((first | unfold In64 | unfold InU64); omega))
   refine ds_ro' (ro_move (up_m rfl (u2 rfl s1_6))) trivial rfl ?_
   refine ds_ro' (ro_move (u4 rfl s2_6)) trivial rfl ?_
   (refine ds_ro' (ro_remU (up_m rfl up_h) up_h (by omega) ?_) trivial rfl ?_; · ((first | unfold In64 | unfold InU64); omega))
   refine ds_ro' (ro_assign (up_m rfl (u2 rfl up_h))) trivial rfl ?_
   refine ds_ro' (ro_assign (up_m rfl up_h)) trivial rfl ?_
   refine ds_nil ?_
   refine al_end (fun e_8 he_8 => ?_)
   have s6_8 := ef 6 he_8 (up_m rfl up_h)
   have s7_8 := ef 7 he_8 up_h
   clear he_8 s0_6 s1_6 s27_6 s2_6
   refine then_n ?_
   refine aw_ret ?_
   refine then_r ?_
   refine ret2 (.inr rfl) (by kernel_rfl) (resV_tmp s6_8) (resV_tmp s7_8) (.ro _ rfl) (.ro _ rfl) ?_
   clear s6_8 s7_8  ml_0
   rfl
  · replace hq_7 := bf hq_7; exfalso; omega
set_option maxRecDepth 100000 in
set_option maxHeartbeats 1000000 in
theorem compare_ok (m n : Int) : FnOk Try.prog 121 [mA m, mA n] (fun q => q = mA (if m < n then -1 else if n < m then 1 else 0)) := by
  refine fnOk_of (fn := Try.f121) 20 (by kernel_rfl) rfl (by kernel_rfl) (Nat.le_of_ble_eq_true rfl) ?_
  intro e_0 m_0 hA hm_0
  have s0_0 : evA e_0 (.tmp 0) = _ := hA 0 _ rfl
  have s1_0 : evA e_0 (.tmp 1) = _ := hA 1 _ rfl
  have ml_0 : m_0.length = 0 := by rw [hm_0]; rfl
  clear hA hm_0
  refine aw_seq ?_
  refine aw_text (by kernel_rfl) ?_
  refine al_ro' (ro_assign ev_c) trivial rfl ?_
  refine al_end (fun e_1 he_1 => ?_)
  have s0_1 := ef 0 he_1 (up_m rfl s0_0)
  have s1_1 := ef 1 he_1 (up_m rfl s1_0)
  clear he_1 s0_0 s1_0
  refine then_n ?_
  refine aw_seq ?_
  refine aw_text (by kernel_rfl) ?_
  refine al_ro' (ro_move s0_1) trivial rfl ?_
  refine al_ro' (ro_call (evL_cons up_h evL_nil) rfl (cNaN_ok _) y21_hcf132) trivial rfl ?_
  refine al_ro' (ro_assign up_h) trivial rfl ?_
  refine al_end (fun e_2 he_2 => ?_)
  have s0_2 := ef 0 he_2 (up_m rfl (u2 rfl s0_1))
  have s1_2 := ef 1 he_2 (up_m rfl (u2 rfl s1_1))
  have s5_2 := ef 5 he_2 up_h
  clear he_2 s0_1 s1_1
  refine then_n ?_
  refine aw_seq ?_
  refine aw_text (by kernel_rfl) ?_
  refine al_ro' (ro_move s1_2) trivial rfl ?_
  refine al_ro' (ro_call (evL_cons up_h evL_nil) rfl (cNaN_ok _) y21_hcf132) trivial rfl ?_
  refine al_ro' (ro_assign up_h) trivial rfl ?_
  refine al_end (fun e_3 he_3 => ?_)
  have s0_3 := ef 0 he_3 (up_m rfl (u2 rfl s0_2))
  have s1_3 := ef 1 he_3 (up_m rfl (u2 rfl s1_2))
  have s5_3 := ef 5 he_3 (up_m rfl (u2 rfl s5_2))
  have s6_3 := ef 6 he_3 up_h
  clear he_3 s0_2 s1_2 s5_2
  refine then_n ?_
  refine aw_seq ?_
  refine aw_seq ?_
  refine aw_text (by kernel_rfl) ?_
  refine al_ro' (ro_move s5_3) trivial rfl ?_
  refine al_end (fun e_4 he_4 => ?_)
  have s0_4 := ef 0 he_4 (up_m rfl s0_3)
  have s1_4 := ef 1 he_4 (up_m rfl s1_3)
  have s6_4 := ef 6 he_4 (up_m rfl s6_3)
  have s11_4 := ef 11 he_4 up_h
  clear he_4 s0_3 s1_3 s5_3 s6_3
  refine then_n ?_
  refine aw_case s11_4 (fun hq_5 => ?_) (fun hq_5 => ?_)
  · cases hq_5
  refine aw_skip ?_
  refine then_n ?_
  refine aw_seq ?_
  refine aw_seq ?_
  refine aw_text (by kernel_rfl) ?_
  refine al_ro' (ro_move s6_4) trivial rfl ?_
  refine al_end (fun e_10 he_10 => ?_)
  have s0_10 := ef 0 he_10 (up_m rfl s0_4)
  have s1_10 := ef 1 he_10 (up_m rfl s1_4)
  have s13_10 := ef 13 he_10 up_h
  clear he_10 s0_4 s11_4 s1_4 s6_4
  refine then_n ?_
  refine aw_case s13_10 (fun hq_11 => ?_) (fun hq_11 => ?_)
  · cases hq_11
  refine aw_skip ?_
  refine then_n ?_
  refine aw_seq ?_
  refine aw_seq ?_
  refine aw_text (by kernel_rfl) ?_
  refine al_ro' (ro_move s0_10) trivial rfl ?_
  refine al_ro' (ro_move (up_m rfl s1_10)) trivial rfl ?_
  refine al_ro' (ro_lss (up_m rfl up_h) up_h) trivial rfl ?_
  refine al_end (fun e_13 he_13 => ?_)
  have s0_13 := ef 0 he_13 (up_m rfl (u2 rfl s0_10))
  have s1_13 := ef 1 he_13 (up_m rfl (u2 rfl s1_10))
  have s16_13 := ef 16 he_13 up_h
  clear he_13 s0_10 s13_10 s1_10
  refine then_n ?_
  refine aw_case s16_13 (fun hq_14 => ?_) (fun hq_14 => ?_)
  ·replace hq_14 := bt hq_14
   refine aw_seq ?_
   refine aw_text (by kernel_rfl) ?_
   refine al_ro' (ro_assign ev_c) trivial rfl ?_
   refine al_end (fun e_15 he_15 => ?_)
   have s4_15 := ef 4 he_15 up_h
   clear he_15 s0_13 s16_13 s1_13
   refine then_n ?_
   refine aw_ret ?_
   refine then_r ?_
   refine ret1 (.inr rfl) (by kernel_rfl) (resV_tmp s4_15) (.ro _ rfl) ?_
   clear s4_15  ml_0
   (simp_all; try omega)
  replace hq_14 := bf hq_14
  refine aw_skip ?_
  refine then_n ?_
  refine aw_seq ?_
  refine aw_seq ?_
  refine aw_text (by kernel_rfl) ?_
  refine al_ro' (ro_move s0_13) trivial rfl ?_
  refine al_ro' (ro_move (up_m rfl s1_13)) trivial rfl ?_
  refine al_ro' (ro_gtr (up_m rfl up_h) up_h) trivial rfl ?_
  refine al_end (fun e_16 he_16 => ?_)
  have s19_16 := ef 19 he_16 up_h
  clear he_16 s0_13 s16_13 s1_13
  refine then_n ?_
  refine aw_case s19_16 (fun hq_17 => ?_) (fun hq_17 => ?_)
  ·replace hq_17 := bt hq_17
   refine aw_seq ?_
   refine aw_text (by kernel_rfl) ?_
   refine al_ro' (ro_assign ev_c) trivial rfl ?_
   refine al_end (fun e_18 he_18 => ?_)
   have s4_18 := ef 4 he_18 up_h
   clear he_18 s19_16
   refine then_n ?_
   refine aw_ret ?_
   refine then_r ?_
   refine ret1 (.inr rfl) (by kernel_rfl) (resV_tmp s4_18) (.ro _ rfl) ?_
   clear s4_18  ml_0
   (simp_all; try omega)
  replace hq_17 := bf hq_17
  refine aw_skip ?_
  refine then_n ?_
  refine aw_seq ?_
  refine aw_text (by kernel_rfl) ?_
  refine al_ro' (ro_assign ev_c) trivial rfl ?_
  refine al_end (fun e_19 he_19 => ?_)
  have s4_19 := ef 4 he_19 up_h
  clear he_19 s19_16
  refine then_n ?_
  refine aw_ret ?_
  refine ret1 (.inr rfl) (by kernel_rfl) (resV_tmp s4_19) (.ro _ rfl) ?_
  clear s4_19  ml_0
  (simp_all; try omega)
set_option maxRecDepth 100000 in
set_option maxHeartbeats 1000000 in
theorem sideErr_ok (n : Int) : FnOk Try.prog 97 [mA n] (fun q => q = mA (unlessE (withinB n 0 5000) 2)) := by
  refine fnOk_of (fn := Try.f97) 6 (by kernel_rfl) rfl (by kernel_rfl) (Nat.le_of_ble_eq_true rfl) ?_
  intro e_0 m_0 hA hm_0
  have s0_0 : evA e_0 (.tmp 0) = _ := hA 0 _ rfl
  have ml_0 : m_0.length = 0 := by rw [hm_0]; rfl
  clear hA hm_0
  refine aw_seq ?_
  refine aw_text (by kernel_rfl) ?_
  refine al_ro' (ro_assign ev_c) trivial rfl ?_
  refine al_end (fun e_1 he_1 => ?_)
  have s0_1 := ef 0 he_1 (up_m rfl s0_0)
  clear he_1 s0_0
  refine then_n ?_
  refine aw_seq ?_
  refine aw_text (by kernel_rfl) ?_
  refine al_ro' (ro_move s0_1) trivial rfl ?_
  refine al_ro' (ro_call (evL_cons up_h (evL_cons ev_c (evL_cons ev_c evL_nil))) rfl (yWithin_ok _ _ _) y21_hcf77) trivial rfl ?_
  refine al_ro' (ro_call (evL_cons up_h (evL_cons ev_c evL_nil)) rfl (yUnless_ok _ _) y21_hcf76) trivial rfl ?_
  refine al_ro' (ro_assign up_h) trivial rfl ?_
  refine al_end (fun e_2 he_2 => ?_)
  have s2_2 := ef 2 he_2 up_h
  clear he_2 s0_1
  refine then_n ?_
  refine aw_ret ?_
  refine ret1 (.inr rfl) (by kernel_rfl) (resV_tmp s2_2) (.ro _ rfl) ?_
  clear s2_2  ml_0
  rfl
/-- The bend at a joint, over the product of both lengths. -/
def benN (l : Lin) (j : Nat) : Int := ((l.js.getD (j + 1) default).acr - (l.js.getD j default).acr) * (l.bs.getD (j - 1) default).len - ((l.js.getD j default).acr - (l.js.getD (j - 1) default).acr) * (l.bs.getD j default).len
def benD (l : Lin) (j : Nat) : Int := (l.bs.getD (j - 1) default).len * (l.bs.getD j default).len
theorem toNat_pre (n : Nat) : ((n : Int) - 1).toNat = n - 1 := by omega
set_option maxRecDepth 100000 in
set_option maxHeartbeats 4000000 in
theorem bend_ok (l : Lin) (h : Rgt l) (j : Nat) (hj : 1 ≤ j ∧ j + 2 ≤ l.js.length) : FnOk Try.prog 100 [tkA l, mA j] (fun q => q = .tuple [mA (benN l j), mA (benD l j)]) := by
  refine fnOk_of (fn := Try.f100) 79 (by kernel_rfl) rfl (by kernel_rfl) (Nat.le_of_ble_eq_true rfl) ?_
  intro e_0 m_0 hA hm_0
  have s0_0 : evA e_0 (.tmp 0) = _ := hA 0 _ rfl
  have s1_0 : evA e_0 (.tmp 1) = _ := hA 1 _ rfl
  have ml_0 : m_0.length = 0 := by rw [hm_0]; rfl
  clear hA hm_0
  have hn1 := h.n1; have hn0 := h.n0; have hjs := h.js; have j1 := h.jnt (j - 1) (by omega); have j2 := h.jnt j (by omega); have j3 := h.jnt (j + 1) (by omega); have b1 := h.bea (j - 1) (by omega); have b2 := h.bea j (by omega); have m1 := mul_in (x := (l.js.getD (j + 1) default).acr - (l.js.getD j default).acr) (y := (l.bs.getD (j - 1) default).len) 40000 30000 (by omega) (by omega); have m2 := mul_in (x := (l.js.getD j default).acr - (l.js.getD (j - 1) default).acr) (y := (l.bs.getD j default).len) 40000 30000 (by omega) (by omega); have m3 := mul_in (x := (l.bs.getD (j - 1) default).len) (y := (l.bs.getD j default).len) 30000 30000 (by omega) (by omega)
  refine aw_seq ?_
  refine aw_text (by kernel_rfl) ?_
  refine al_ro' (ro_assign ev_c) trivial rfl ?_
  refine al_ro' (ro_assign ev_c) trivial rfl ?_
  refine al_end (fun e_1 he_1 => ?_)
  have s0_1 := ef 0 he_1 (u2 rfl s0_0)
  have s1_1 := ef 1 he_1 (u2 rfl s1_0)
  clear he_1 s0_0 s1_0
  refine then_n ?_
  refine aw_seq ?_
  refine aw_draw 21 (by kernel_rfl) (by kernel_rfl) (by kernel_rfl) (by kernel_rfl) ?_
  refine ds_ro' (ro_move s0_1) trivial rfl ?_
  refine ds_ro' (ro_nilR up_h) trivial rfl ?_
  refine ds_ro' (ro_eq (ro_fld_ref y21_fl116_0 rfl up_h) (by simp only [packA_t, packA_f, iE, bE, setAt, cellsA, Value.cells, map_vc, map_vn, Nat.reduceAdd, qS, jnE, beE, Int.toNat_natCast, toNat_suc, toNat_pre] <;> rfl)) trivial rfl ?_
  refine ds_ro' (ro_eq (ro_fld_ref y21_fl26_2 rfl up_h) (by simp only [packA_t, packA_f, iE, bE, setAt, cellsA, Value.cells, map_vc, map_vn, Nat.reduceAdd, qS, jnE, beE, Int.toNat_natCast, toNat_suc, toNat_pre] <;> rfl)) trivial rfl ?_
  refine ds_ro' (ro_eq (ro_ld_ref y21_ty23 rfl up_h (by exact Nat.le_of_ble_eq_true rfl)) (by simp only [packA_t, packA_f, iE, bE, setAt, cellsA, Value.cells, map_vc, map_vn, Nat.reduceAdd, qS, jnE, beE, Int.toNat_natCast, toNat_suc, toNat_pre] <;> rfl)) trivial rfl ?_
  refine ds_ro' (ro_move (up_m rfl (u4 rfl s1_1))) trivial rfl ?_
  (refine ds_ro' (ro_sub' up_h ev_c ?_) trivial rfl ?_; · (unfold In64; omega))
  refine ds_ro' (ro_eq (ro_ix y21_sl23 (u2 rfl up_h) up_h (by omega) (by first | (refine idx_map ?_; first | omega | (simp only [lnS]; omega)) | (refine idx_mapI ?_; first | omega | (simp only [lnS]; omega)) | (refine idx_mapN ?_; first | omega | (simp only [lnS]; omega)) | rfl)) (by simp only [packA_t, packA_f, iE, bE, setAt, cellsA, Value.cells, map_vc, map_vn, Nat.reduceAdd, qS, jnE, beE, Int.toNat_natCast, toNat_suc, toNat_pre] <;> rfl)) trivial rfl ?_
  refine ds_ro' (ro_eq (ro_fld_ref y21_fl47_0 rfl up_h) (by simp only [packA_t, packA_f, iE, bE, setAt, cellsA, Value.cells, map_vc, map_vn, Nat.reduceAdd, qS, jnE, beE, Int.toNat_natCast, toNat_suc, toNat_pre] <;> rfl)) trivial rfl ?_
  refine ds_ro' (ro_eq (ro_ld_ref y21_ty3 rfl up_h (by exact Nat.le_of_ble_eq_true rfl)) (by simp only [packA_t, packA_f, iE, bE, setAt, cellsA, Value.cells, map_vc, map_vn, Nat.reduceAdd, qS, jnE, beE, Int.toNat_natCast, toNat_suc, toNat_pre] <;> rfl)) trivial rfl ?_
  refine ds_ro' (ro_move (u2 rfl (u8 rfl s0_1))) trivial rfl ?_
  refine ds_ro' (ro_nilR up_h) trivial rfl ?_
  refine ds_ro' (ro_eq (ro_fld_ref y21_fl116_0 rfl up_h) (by simp only [packA_t, packA_f, iE, bE, setAt, cellsA, Value.cells, map_vc, map_vn, Nat.reduceAdd, qS, jnE, beE, Int.toNat_natCast, toNat_suc, toNat_pre] <;> rfl)) trivial rfl ?_
  refine ds_ro' (ro_eq (ro_fld_ref y21_fl26_2 rfl up_h) (by simp only [packA_t, packA_f, iE, bE, setAt, cellsA, Value.cells, map_vc, map_vn, Nat.reduceAdd, qS, jnE, beE, Int.toNat_natCast, toNat_suc, toNat_pre] <;> rfl)) trivial rfl ?_
  refine ds_ro' (ro_eq (ro_ld_ref y21_ty23 rfl up_h (by exact Nat.le_of_ble_eq_true rfl)) (by simp only [packA_t, packA_f, iE, bE, setAt, cellsA, Value.cells, map_vc, map_vn, Nat.reduceAdd, qS, jnE, beE, Int.toNat_natCast, toNat_suc, toNat_pre] <;> rfl)) trivial rfl ?_
  refine ds_ro' (ro_move (up_m rfl (u2 rfl (u4 rfl (u8 rfl s1_1))))) trivial rfl ?_
  refine ds_ro' (ro_eq (ro_ix y21_sl23 (up_m rfl up_h) up_h (by omega) (by first | (refine idx_map ?_; first | omega | (simp only [lnS]; omega)) | (refine idx_mapI ?_; first | omega | (simp only [lnS]; omega)) | (refine idx_mapN ?_; first | omega | (simp only [lnS]; omega)) | rfl)) (by simp only [packA_t, packA_f, iE, bE, setAt, cellsA, Value.cells, map_vc, map_vn, Nat.reduceAdd, qS, jnE, beE, Int.toNat_natCast, toNat_suc, toNat_pre] <;> rfl)) trivial rfl ?_
  refine ds_ro' (ro_eq (ro_fld_ref y21_fl47_0 rfl up_h) (by simp only [packA_t, packA_f, iE, bE, setAt, cellsA, Value.cells, map_vc, map_vn, Nat.reduceAdd, qS, jnE, beE, Int.toNat_natCast, toNat_suc, toNat_pre] <;> rfl)) trivial rfl ?_
  refine ds_ro' (ro_eq (ro_ld_ref y21_ty3 rfl up_h (by exact Nat.le_of_ble_eq_true rfl)) (by simp only [packA_t, packA_f, iE, bE, setAt, cellsA, Value.cells, map_vc, map_vn, Nat.reduceAdd, qS, jnE, beE, Int.toNat_natCast, toNat_suc, toNat_pre] <;> rfl)) trivial rfl ?_
  refine ds_ro' (ro_assign (up_m rfl (u8 rfl up_h))) trivial rfl ?_
  refine ds_ro' (ro_assign (up_m rfl up_h)) trivial rfl ?_
  refine ds_nil ?_
  refine al_end (fun e_2 he_2 => ?_)
  have s0_2 := ef 0 he_2 (up_m rfl (u4 rfl (u16 rfl s0_1)))
  have s1_2 := ef 1 he_2 (up_m rfl (u4 rfl (u16 rfl s1_1)))
  have s6_2 := ef 6 he_2 (up_m rfl up_h)
  have s7_2 := ef 7 he_2 up_h
  clear he_2 s0_1 s1_1
  refine then_n ?_
  refine aw_seq ?_
  refine aw_draw 21 (by kernel_rfl) (by kernel_rfl) (by kernel_rfl) (by kernel_rfl) ?_
  refine ds_ro' (ro_move s0_2) trivial rfl ?_
  refine ds_ro' (ro_nilR up_h) trivial rfl ?_
  refine ds_ro' (ro_eq (ro_fld_ref y21_fl116_0 rfl up_h) (by simp only [packA_t, packA_f, iE, bE, setAt, cellsA, Value.cells, map_vc, map_vn, Nat.reduceAdd, qS, jnE, beE, Int.toNat_natCast, toNat_suc, toNat_pre] <;> rfl)) trivial rfl ?_
  refine ds_ro' (ro_eq (ro_fld_ref y21_fl26_1 rfl up_h) (by simp only [packA_t, packA_f, iE, bE, setAt, cellsA, Value.cells, map_vc, map_vn, Nat.reduceAdd, qS, jnE, beE, Int.toNat_natCast, toNat_suc, toNat_pre] <;> rfl)) trivial rfl ?_
  refine ds_ro' (ro_eq (ro_ld_ref y21_ty22 rfl up_h (by exact Nat.le_of_ble_eq_true rfl)) (by simp only [packA_t, packA_f, iE, bE, setAt, cellsA, Value.cells, map_vc, map_vn, Nat.reduceAdd, qS, jnE, beE, Int.toNat_natCast, toNat_suc, toNat_pre] <;> rfl)) trivial rfl ?_
  refine ds_ro' (ro_move (up_m rfl (u4 rfl s1_2))) trivial rfl ?_
  refine ds_ro' (ro_eq (ro_ix y21_sl22 (up_m rfl up_h) up_h (by omega) (by first | (refine idx_map ?_; first | omega | (simp only [lnS]; omega)) | (refine idx_mapI ?_; first | omega | (simp only [lnS]; omega)) | (refine idx_mapN ?_; first | omega | (simp only [lnS]; omega)) | rfl)) (by simp only [packA_t, packA_f, iE, bE, setAt, cellsA, Value.cells, map_vc, map_vn, Nat.reduceAdd, qS, jnE, beE, Int.toNat_natCast, toNat_suc, toNat_pre] <;> rfl)) trivial rfl ?_
  refine ds_ro' (ro_eq (ro_fld_ref y21_fl42_0 rfl up_h) (by simp only [packA_t, packA_f, iE, bE, setAt, cellsA, Value.cells, map_vc, map_vn, Nat.reduceAdd, qS, jnE, beE, Int.toNat_natCast, toNat_suc, toNat_pre] <;> rfl)) trivial rfl ?_
  refine ds_ro' (ro_eq (ro_ld_ref y21_ty3 rfl up_h (by exact Nat.le_of_ble_eq_true rfl)) (by simp only [packA_t, packA_f, iE, bE, setAt, cellsA, Value.cells, map_vc, map_vn, Nat.reduceAdd, qS, jnE, beE, Int.toNat_natCast, toNat_suc, toNat_pre] <;> rfl)) trivial rfl ?_
  refine ds_ro' (ro_move (up_m rfl (u8 rfl s0_2))) trivial rfl ?_
  refine ds_ro' (ro_nilR up_h) trivial rfl ?_
  refine ds_ro' (ro_eq (ro_fld_ref y21_fl116_0 rfl up_h) (by simp only [packA_t, packA_f, iE, bE, setAt, cellsA, Value.cells, map_vc, map_vn, Nat.reduceAdd, qS, jnE, beE, Int.toNat_natCast, toNat_suc, toNat_pre] <;> rfl)) trivial rfl ?_
  refine ds_ro' (ro_eq (ro_fld_ref y21_fl26_1 rfl up_h) (by simp only [packA_t, packA_f, iE, bE, setAt, cellsA, Value.cells, map_vc, map_vn, Nat.reduceAdd, qS, jnE, beE, Int.toNat_natCast, toNat_suc, toNat_pre] <;> rfl)) trivial rfl ?_
  refine ds_ro' (ro_eq (ro_ld_ref y21_ty22 rfl up_h (by exact Nat.le_of_ble_eq_true rfl)) (by simp only [packA_t, packA_f, iE, bE, setAt, cellsA, Value.cells, map_vc, map_vn, Nat.reduceAdd, qS, jnE, beE, Int.toNat_natCast, toNat_suc, toNat_pre] <;> rfl)) trivial rfl ?_
  refine ds_ro' (ro_move (u2 rfl (u4 rfl (u8 rfl s1_2)))) trivial rfl ?_
  (refine ds_ro' (ro_sub' up_h ev_c ?_) trivial rfl ?_; · (unfold In64; omega))
  refine ds_ro' (ro_eq (ro_ix y21_sl22 (u2 rfl up_h) up_h (by omega) (by first | (refine idx_map ?_; first | omega | (simp only [lnS]; omega)) | (refine idx_mapI ?_; first | omega | (simp only [lnS]; omega)) | (refine idx_mapN ?_; first | omega | (simp only [lnS]; omega)) | rfl)) (by simp only [packA_t, packA_f, iE, bE, setAt, cellsA, Value.cells, map_vc, map_vn, Nat.reduceAdd, qS, jnE, beE, Int.toNat_natCast, toNat_suc, toNat_pre] <;> rfl)) trivial rfl ?_
  refine ds_ro' (ro_eq (ro_fld_ref y21_fl42_0 rfl up_h) (by simp only [packA_t, packA_f, iE, bE, setAt, cellsA, Value.cells, map_vc, map_vn, Nat.reduceAdd, qS, jnE, beE, Int.toNat_natCast, toNat_suc, toNat_pre] <;> rfl)) trivial rfl ?_
  refine ds_ro' (ro_eq (ro_ld_ref y21_ty3 rfl up_h (by exact Nat.le_of_ble_eq_true rfl)) (by simp only [packA_t, packA_f, iE, bE, setAt, cellsA, Value.cells, map_vc, map_vn, Nat.reduceAdd, qS, jnE, beE, Int.toNat_natCast, toNat_suc, toNat_pre] <;> rfl)) trivial rfl ?_
  (refine ds_ro' (ro_sub' (u2 rfl (u8 rfl up_h)) up_h ?_) trivial rfl ?_; · (unfold In64; omega))
  refine ds_ro' (ro_assign up_h) trivial rfl ?_
  refine ds_nil ?_
  refine al_end (fun e_3 he_3 => ?_)
  have s0_3 := ef 0 he_3 (up_m rfl (u4 rfl (u16 rfl s0_2)))
  have s1_3 := ef 1 he_3 (up_m rfl (u4 rfl (u16 rfl s1_2)))
  have s6_3 := ef 6 he_3 (up_m rfl (u4 rfl (u16 rfl s6_2)))
  have s7_3 := ef 7 he_3 (up_m rfl (u4 rfl (u16 rfl s7_2)))
  have s8_3 := ef 8 he_3 up_h
  clear he_3 s0_2 s1_2 s6_2 s7_2
  refine then_n ?_
  refine aw_seq ?_
  refine aw_draw 21 (by kernel_rfl) (by kernel_rfl) (by kernel_rfl) (by kernel_rfl) ?_
  refine ds_ro' (ro_move s0_3) trivial rfl ?_
  refine ds_ro' (ro_nilR up_h) trivial rfl ?_
  refine ds_ro' (ro_eq (ro_fld_ref y21_fl116_0 rfl up_h) (by simp only [packA_t, packA_f, iE, bE, setAt, cellsA, Value.cells, map_vc, map_vn, Nat.reduceAdd, qS, jnE, beE, Int.toNat_natCast, toNat_suc, toNat_pre] <;> rfl)) trivial rfl ?_
  refine ds_ro' (ro_eq (ro_fld_ref y21_fl26_1 rfl up_h) (by simp only [packA_t, packA_f, iE, bE, setAt, cellsA, Value.cells, map_vc, map_vn, Nat.reduceAdd, qS, jnE, beE, Int.toNat_natCast, toNat_suc, toNat_pre] <;> rfl)) trivial rfl ?_
  refine ds_ro' (ro_eq (ro_ld_ref y21_ty22 rfl up_h (by exact Nat.le_of_ble_eq_true rfl)) (by simp only [packA_t, packA_f, iE, bE, setAt, cellsA, Value.cells, map_vc, map_vn, Nat.reduceAdd, qS, jnE, beE, Int.toNat_natCast, toNat_suc, toNat_pre] <;> rfl)) trivial rfl ?_
  refine ds_ro' (ro_move (up_m rfl (u4 rfl s1_3))) trivial rfl ?_
  (refine ds_ro' (ro_add' up_h ev_c ?_) trivial rfl ?_; · (unfold In64; omega))
  refine ds_ro' (ro_eq (ro_ix y21_sl22 (u2 rfl up_h) up_h (by omega) (by refine idx_map ?_; first | omega | (simp only [lnS]; omega))) (by simp only [packA_t, packA_f, iE, bE, setAt, cellsA, Value.cells, map_vc, map_vn, Nat.reduceAdd, qS, jnE, beE, Int.toNat_natCast, toNat_suc, toNat_pre] <;> rfl)) trivial rfl ?_
  refine ds_ro' (ro_eq (ro_fld_ref y21_fl42_0 rfl up_h) (by simp only [packA_t, packA_f, iE, bE, setAt, cellsA, Value.cells, map_vc, map_vn, Nat.reduceAdd, qS, jnE, beE, Int.toNat_natCast, toNat_suc, toNat_pre] <;> rfl)) trivial rfl ?_
  refine ds_ro' (ro_eq (ro_ld_ref y21_ty3 rfl up_h (by exact Nat.le_of_ble_eq_true rfl)) (by simp only [packA_t, packA_f, iE, bE, setAt, cellsA, Value.cells, map_vc, map_vn, Nat.reduceAdd, qS, jnE, beE, Int.toNat_natCast, toNat_suc, toNat_pre] <;> rfl)) trivial rfl ?_
  refine ds_ro' (ro_move (u2 rfl (u8 rfl s0_3))) trivial rfl ?_
  refine ds_ro' (ro_nilR up_h) trivial rfl ?_
  refine ds_ro' (ro_eq (ro_fld_ref y21_fl116_0 rfl up_h) (by simp only [packA_t, packA_f, iE, bE, setAt, cellsA, Value.cells, map_vc, map_vn, Nat.reduceAdd, qS, jnE, beE, Int.toNat_natCast, toNat_suc, toNat_pre] <;> rfl)) trivial rfl ?_
  refine ds_ro' (ro_eq (ro_fld_ref y21_fl26_1 rfl up_h) (by simp only [packA_t, packA_f, iE, bE, setAt, cellsA, Value.cells, map_vc, map_vn, Nat.reduceAdd, qS, jnE, beE, Int.toNat_natCast, toNat_suc, toNat_pre] <;> rfl)) trivial rfl ?_
  refine ds_ro' (ro_eq (ro_ld_ref y21_ty22 rfl up_h (by exact Nat.le_of_ble_eq_true rfl)) (by simp only [packA_t, packA_f, iE, bE, setAt, cellsA, Value.cells, map_vc, map_vn, Nat.reduceAdd, qS, jnE, beE, Int.toNat_natCast, toNat_suc, toNat_pre] <;> rfl)) trivial rfl ?_
  refine ds_ro' (ro_move (up_m rfl (u2 rfl (u4 rfl (u8 rfl s1_3))))) trivial rfl ?_
  refine ds_ro' (ro_eq (ro_ix y21_sl22 (up_m rfl up_h) up_h (by omega) (by first | (refine idx_map ?_; first | omega | (simp only [lnS]; omega)) | (refine idx_mapI ?_; first | omega | (simp only [lnS]; omega)) | (refine idx_mapN ?_; first | omega | (simp only [lnS]; omega)) | rfl)) (by simp only [packA_t, packA_f, iE, bE, setAt, cellsA, Value.cells, map_vc, map_vn, Nat.reduceAdd, qS, jnE, beE, Int.toNat_natCast, toNat_suc, toNat_pre] <;> rfl)) trivial rfl ?_
  refine ds_ro' (ro_eq (ro_fld_ref y21_fl42_0 rfl up_h) (by simp only [packA_t, packA_f, iE, bE, setAt, cellsA, Value.cells, map_vc, map_vn, Nat.reduceAdd, qS, jnE, beE, Int.toNat_natCast, toNat_suc, toNat_pre] <;> rfl)) trivial rfl ?_
  refine ds_ro' (ro_eq (ro_ld_ref y21_ty3 rfl up_h (by exact Nat.le_of_ble_eq_true rfl)) (by simp only [packA_t, packA_f, iE, bE, setAt, cellsA, Value.cells, map_vc, map_vn, Nat.reduceAdd, qS, jnE, beE, Int.toNat_natCast, toNat_suc, toNat_pre] <;> rfl)) trivial rfl ?_
  (refine ds_ro' (ro_sub' (up_m rfl (u8 rfl up_h)) up_h ?_) trivial rfl ?_; · (unfold In64; omega))
  refine ds_ro' (ro_assign up_h) trivial rfl ?_
  refine ds_nil ?_
  refine al_end (fun e_4 he_4 => ?_)
  have s6_4 := ef 6 he_4 (up_m rfl (u4 rfl (u16 rfl s6_3)))
  have s7_4 := ef 7 he_4 (up_m rfl (u4 rfl (u16 rfl s7_3)))
  have s8_4 := ef 8 he_4 (up_m rfl (u4 rfl (u16 rfl s8_3)))
  have s9_4 := ef 9 he_4 up_h
  clear he_4 s0_3 s1_3 s6_3 s7_3 s8_3
  refine then_n ?_
  refine aw_seq ?_
  refine aw_text (by kernel_rfl) ?_
  refine al_ro' (ro_move s9_4) trivial rfl ?_
  refine al_ro' (ro_move (up_m rfl s6_4)) trivial rfl ?_
  (refine al_ro' (ro_mul' (up_m rfl up_h) up_h ?_) trivial rfl ?_; · (unfold In64; omega))
  refine al_ro' (ro_move (up_m rfl (u2 rfl s8_4))) trivial rfl ?_
  refine al_ro' (ro_move (u4 rfl s7_4)) trivial rfl ?_
  (refine al_ro' (ro_mul' (up_m rfl up_h) up_h ?_) trivial rfl ?_; · (unfold In64; omega))
  (refine al_ro' (ro_sub' (up_m rfl (u2 rfl up_h)) up_h ?_) trivial rfl ?_; · (unfold In64; omega))
  refine al_ro' (ro_move (up_m rfl (u2 rfl (u4 rfl s6_4)))) trivial rfl ?_
  refine al_ro' (ro_move (u8 rfl s7_4)) trivial rfl ?_
  (refine al_ro' (ro_mul' (up_m rfl up_h) up_h ?_) trivial rfl ?_; · (unfold In64; omega))
  refine al_ro' (ro_assign (up_m rfl (u2 rfl up_h))) trivial rfl ?_
  refine al_ro' (ro_assign (up_m rfl up_h)) trivial rfl ?_
  refine al_end (fun e_5 he_5 => ?_)
  have s4_5 := ef 4 he_5 (up_m rfl up_h)
  have s5_5 := ef 5 he_5 up_h
  clear he_5 s6_4 s7_4 s8_4 s9_4
  refine then_n ?_
  refine aw_ret ?_
  refine ret2 (.inr rfl) (by kernel_rfl) (resV_tmp s4_5) (resV_tmp s5_5) (.ro _ rfl) (.ro _ rfl) ?_
  clear s4_5 s5_5  ml_0
  rfl
end Go.Proofs.Ytknclifdncmgpaa

/- Contracts of chapter 1: gradients and bends. No conditions on a program. -/
namespace Go.Proofs.Ytknclifdncmgpaa
open Go Go.RowKit Go.Proofs
set_option linter.unusedSimpArgs false
set_option linter.unusedVariables false
theorem y30_fl35_0 : FldIs Try.prog 35 0 0 false 1 := by unfold FldIs; kernel_rfl
theorem y30_fl35_1 : FldIs Try.prog 35 1 1 false 1 := by unfold FldIs; kernel_rfl
theorem y30_ty3 : TyIs Try.prog 3 false 1 := ⟨by kernel_rfl, by kernel_rfl⟩
theorem fraD_bd {n b : Int} (hb : 0 < b) : 1 ≤ fraD n b ∧ fraD n b ≤ b := by
  have hg : 0 < Int.gcd n b := Int.gcd_pos_of_ne_zero_right _ (by omega)
  have hd : (Int.gcd n b : Int) ∣ b := Int.gcd_dvd_right ..
  unfold fraD
  rw [Int.tdiv_eq_ediv_of_nonneg (by omega)]
  have h1 := Int.ediv_le_self (a := b) (Int.gcd n b : Int) (by omega)
  have h2 := Int.ediv_mul_cancel hd
  refine ⟨?_, h1⟩
  by_cases h0 : 0 < b / (Int.gcd n b : Int)
  · omega
  · have := Int.mul_le_mul_of_nonneg_right (show b / (Int.gcd n b : Int) ≤ 0 by omega) (show (0 : Int) ≤ Int.gcd n b by omega)
    rw [h2] at this; omega
set_option maxRecDepth 100000 in
set_option maxHeartbeats 1000000 in
theorem cmp_ok (a b c d : Int) (h1 : -4000000000000000000 ≤ a * d ∧ a * d ≤ 4000000000000000000) (h2 : -4000000000000000000 ≤ c * b ∧ c * b ≤ 4000000000000000000) : FnOk Try.prog 75 [frA a b, frA c d] (fun q => q = mA (if a * d < c * b then -1 else if c * b < a * d then 1 else 0)) := by
  refine fnOk_of (fn := Try.f75) 23 (by kernel_rfl) rfl (by kernel_rfl) (Nat.le_of_ble_eq_true rfl) ?_
  intro e_0 m_0 hA hm_0
  have s0_0 : evA e_0 (.tmp 0) = _ := hA 0 _ rfl
  have s1_0 : evA e_0 (.tmp 1) = _ := hA 1 _ rfl
  have ml_0 : m_0.length = 0 := by rw [hm_0]; rfl
  clear hA hm_0
  refine aw_seq ?_
  refine aw_text (by kernel_rfl) ?_
  refine al_stm (st_box s0_0 rfl ml_0) trivial rfl (fun m_1 hm_1 => ?_)
  have mo0_1 := m_push hm_1 ml_0
  have ml_1 := m_push_l hm_1 ml_0
  have ml_1 : _ = 1 := ml_1
  clear hm_1
  refine al_stm (st_box (up_m rfl s1_0) rfl ml_1) trivial rfl (fun m_2 hm_2 => ?_)
  have mo1_2 := m_push hm_2 ml_1
  have mo0_2 := m_push_o hm_2 mo0_1
  have ml_2 := m_push_l hm_2 ml_1
  have ml_2 : _ = 2 := ml_2
  clear hm_2 mo0_1
  refine al_ro' (ro_assign ev_c) trivial rfl ?_
  refine al_end (fun e_3 he_3 => ?_)
  have s2_3 := ef 2 he_3 (u2 rfl up_h)
  have s3_3 := ef 3 he_3 (up_m rfl up_h)
  clear he_3 s0_0 s1_0
  refine then_n ?_
  refine aw_seq ?_
  refine aw_draw 12 (by kernel_rfl) (by kernel_rfl) (by kernel_rfl) (by kernel_rfl) ?_
  refine ds_ro' (ro_fld_ptr y30_fl35_0 rfl s2_3) trivial rfl ?_
  refine ds_ro' (ro_eq (ro_ld_ptr y30_ty3 rfl mo0_2 up_h (by exact Nat.le_of_ble_eq_true rfl)) (by simp only [packA_t, packA_f, iE, bE, setAt, cellsA, Value.cells, map_vc, map_vn, Nat.reduceAdd, qS] <;> rfl)) trivial rfl ?_
  refine ds_ro' (ro_fld_ptr y30_fl35_1 rfl (u2 rfl s3_3)) trivial rfl ?_
  refine ds_ro' (ro_eq (ro_ld_ptr y30_ty3 rfl mo1_2 up_h (by exact Nat.le_of_ble_eq_true rfl)) (by simp only [packA_t, packA_f, iE, bE, setAt, cellsA, Value.cells, map_vc, map_vn, Nat.reduceAdd, qS] <;> rfl)) trivial rfl ?_
  (refine ds_ro' (ro_mul' (u2 rfl up_h) up_h ?_) trivial rfl ?_; · (unfold In64; omega))
  refine ds_ro' (ro_fld_ptr y30_fl35_0 rfl (up_m rfl (u4 rfl s3_3))) trivial rfl ?_
  refine ds_ro' (ro_eq (ro_ld_ptr y30_ty3 rfl mo1_2 up_h (by exact Nat.le_of_ble_eq_true rfl)) (by simp only [packA_t, packA_f, iE, bE, setAt, cellsA, Value.cells, map_vc, map_vn, Nat.reduceAdd, qS] <;> rfl)) trivial rfl ?_
  refine ds_ro' (ro_fld_ptr y30_fl35_1 rfl (up_m rfl (u2 rfl (u4 rfl s2_3)))) trivial rfl ?_
  refine ds_ro' (ro_eq (ro_ld_ptr y30_ty3 rfl mo0_2 up_h (by exact Nat.le_of_ble_eq_true rfl)) (by simp only [packA_t, packA_f, iE, bE, setAt, cellsA, Value.cells, map_vc, map_vn, Nat.reduceAdd, qS] <;> rfl)) trivial rfl ?_
  (refine ds_ro' (ro_mul' (u2 rfl up_h) up_h ?_) trivial rfl ?_; · (unfold In64; omega))
  refine ds_ro' (ro_assign (up_m rfl (u4 rfl up_h))) trivial rfl ?_
  refine ds_ro' (ro_assign (up_m rfl up_h)) trivial rfl ?_
  refine ds_nil ?_
  refine al_end (fun e_4 he_4 => ?_)
  have s5_4 := ef 5 he_4 (up_m rfl up_h)
  have s6_4 := ef 6 he_4 up_h
  clear he_4 s2_3 s3_3
  refine then_n ?_
  refine aw_seq ?_
  refine aw_seq ?_
  refine aw_text (by kernel_rfl) ?_
  refine al_ro' (ro_move s5_4) trivial rfl ?_
  refine al_ro' (ro_move (up_m rfl s6_4)) trivial rfl ?_
  refine al_ro' (ro_lss (up_m rfl up_h) up_h) trivial rfl ?_
  refine al_end (fun e_5 he_5 => ?_)
  have s5_5 := ef 5 he_5 (up_m rfl (u2 rfl s5_4))
  have s6_5 := ef 6 he_5 (up_m rfl (u2 rfl s6_4))
  have s19_5 := ef 19 he_5 up_h
  clear he_5 s5_4 s6_4
  refine then_n ?_
  refine aw_case s19_5 (fun hq_6 => ?_) (fun hq_6 => ?_)
  ·replace hq_6 := bt hq_6
   refine aw_seq ?_
   refine aw_text (by kernel_rfl) ?_
   refine al_ro' (ro_assign ev_c) trivial rfl ?_
   refine al_end (fun e_7 he_7 => ?_)
   have s4_7 := ef 4 he_7 up_h
   clear he_7 s19_5 s5_5 s6_5
   refine then_n ?_
   refine aw_ret ?_
   refine then_r ?_
   refine ret1 (.inr rfl) (by kernel_rfl) (resV_tmp s4_7) (.ro _ rfl) ?_
   clear s4_7 mo1_2 mo0_2 ml_2
   (simp_all; try omega)
  replace hq_6 := bf hq_6
  refine aw_skip ?_
  refine then_n ?_
  refine aw_seq ?_
  refine aw_seq ?_
  refine aw_text (by kernel_rfl) ?_
  refine al_ro' (ro_move s5_5) trivial rfl ?_
  refine al_ro' (ro_move (up_m rfl s6_5)) trivial rfl ?_
  refine al_ro' (ro_gtr (up_m rfl up_h) up_h) trivial rfl ?_
  refine al_end (fun e_8 he_8 => ?_)
  have s22_8 := ef 22 he_8 up_h
  clear he_8 s19_5 s5_5 s6_5
  refine then_n ?_
  refine aw_case s22_8 (fun hq_9 => ?_) (fun hq_9 => ?_)
  ·replace hq_9 := bt hq_9
   refine aw_seq ?_
   refine aw_text (by kernel_rfl) ?_
   refine al_ro' (ro_assign ev_c) trivial rfl ?_
   refine al_end (fun e_10 he_10 => ?_)
   have s4_10 := ef 4 he_10 up_h
   clear he_10 s22_8
   refine then_n ?_
   refine aw_ret ?_
   refine then_r ?_
   refine ret1 (.inr rfl) (by kernel_rfl) (resV_tmp s4_10) (.ro _ rfl) ?_
   clear s4_10 mo1_2 mo0_2 ml_2
   (simp_all; try omega)
  replace hq_9 := bf hq_9
  refine aw_skip ?_
  refine then_n ?_
  refine aw_seq ?_
  refine aw_text (by kernel_rfl) ?_
  refine al_ro' (ro_assign ev_c) trivial rfl ?_
  refine al_end (fun e_11 he_11 => ?_)
  have s4_11 := ef 4 he_11 up_h
  clear he_11 s22_8
  refine then_n ?_
  refine aw_ret ?_
  refine ret1 (.inr rfl) (by kernel_rfl) (resV_tmp s4_11) (.ro _ rfl) ?_
  clear s4_11 mo1_2 mo0_2 ml_2
  (simp_all; try omega)
end Go.Proofs.Ytknclifdncmgpaa

/- Plain law of chapter 1: along the beams. No program in sight. -/
namespace Go.Proofs.Ytknclifdncmgpaa
open Go Go.RowKit Go.Proofs
set_option linter.unusedSimpArgs false
set_option linter.unusedVariables false

theorem fra_mul {f L : Int} (hL : 0 < L) : fraN (f * L) L = f ∧ fraD (f * L) L = 1 := by
  have hg : (Int.gcd (f * L) L : Int) = L := by
    unfold Int.gcd
    rw [Int.natAbs_mul, Nat.gcd_mul_left_left]
    omega
  unfold fraN fraD
  rw [hg]
  exact ⟨Int.mul_tdiv_cancel f (by omega), Int.tdiv_self (by omega)⟩
theorem bet_0 (f t L : Int) : betN f t 0 L = f * L := by unfold betN; rw [Int.mul_zero, Int.sub_zero, Int.add_zero]
theorem bet_L (f t L : Int) : betN f t L L = t * L := by unfold betN; rw [Int.sub_self, Int.mul_zero, Int.zero_add]
/-- A joint's place: at one of its beams' ends. -/
theorem at_joint {l : Lin} (h : Rgt l) {i : Nat} (hi : i ≤ l.bs.length) : (i < l.bs.length → atI l (plaP l.bs i) = i ∧ atD l (plaP l.bs i) = 0) ∧ (i = l.bs.length → atI l (plaP l.bs i) = i - 1 ∧ atD l (plaP l.bs i) = (l.bs.getD (i - 1) default).len) := by
  have hn0 := h.n0
  have key : ∀ n b : Nat, n = b + 1 → plaP l.bs n = plaP l.bs b + (l.bs.getD b default).len := fun n b h => by subst h; rfl
  refine ⟨fun hlt => ?_, fun he => ?_⟩
  · have h1 : atI l (plaP l.bs i) = i := beaN_is h hlt (Int.le_refl _) (fun hh => by have := key _ _ (rfl : i + 1 = i + 1); have := h.bea i hlt; omega)
    exact ⟨h1, by unfold atD; rw [h1]; omega⟩
  · have h2 := key i (i - 1) (by omega)
    have h3 := h.bea (i - 1) (by omega)
    have h1 : atI l (plaP l.bs i) = i - 1 := beaN_is h (by omega) (by omega) (fun hh => by omega)
    exact ⟨h1, by unfold atD; rw [h1]; omega⟩
theorem pla_ok {l : Lin} (h : Rgt l) {i : Nat} (hi : i ≤ l.bs.length) : plaE l (plaP l.bs i) = 0 := plaE_z.2 ⟨(h.pla hi).1, by have := h.mono hi (Nat.le_refl _); omega⟩
/-- A number along the beams at a joint's place is that of the joint. -/
theorem bet_joint {l : Lin} (h : Rgt l) (g : Jnt → Int) {i : Nat} (hi : i ≤ l.bs.length) : betA (g (l.js.getD (atI l (plaP l.bs i)) default)) (g (l.js.getD (atI l (plaP l.bs i) + 1) default)) (atD l (plaP l.bs i)) (l.bs.getD (atI l (plaP l.bs i)) default).len = frA (g (l.js.getD i default)) 1 := by
  obtain ⟨h1, h2⟩ := at_joint h hi
  have hn0 := h.n0
  unfold betA
  by_cases hlt : i < l.bs.length
  · obtain ⟨e1, e2⟩ := h1 hlt
    have hb := h.bea i hlt
    rw [e1, e2, bet_0]
    obtain ⟨f1, f2⟩ := fra_mul (f := g (l.js.getD i default)) (L := (l.bs.getD i default).len) (by omega)
    rw [f1, f2]
  · obtain ⟨e1, e2⟩ := h2 (by omega)
    have hb := h.bea (i - 1) (by omega)
    rw [e1, e2, bet_L, show i - 1 + 1 = i by omega]
    obtain ⟨f1, f2⟩ := fra_mul (f := g (l.js.getD i default)) (L := (l.bs.getD (i - 1) default).len) (by omega)
    rw [f1, f2]
theorem fra_eq {n b : Int} (hb : 0 < b) : n = fraN n b * (Int.gcd n b : Int) ∧ b = fraD n b * (Int.gcd n b : Int) ∧ 0 < Int.gcd n b := by
  have hg : 0 < Int.gcd n b := Int.gcd_pos_of_ne_zero_right _ (by omega)
  refine ⟨?_, ?_, hg⟩
  · exact (Int.tdiv_mul_cancel (Int.gcd_dvd_left ..)).symm
  · exact (Int.tdiv_mul_cancel (Int.gcd_dvd_right ..)).symm
theorem fra_low {n b : Int} (hb : 0 < b) : Int.gcd (fraN n b) (fraD n b) = 1 := by
  obtain ⟨e1, e2, e3⟩ := fra_eq (n := n) hb
  have h1 : Int.gcd (fraN n b * (Int.gcd n b : Int)) (fraD n b * (Int.gcd n b : Int)) = Int.gcd (fraN n b) (fraD n b) * Int.gcd n b := by rw [Int.gcd_mul_right]; simp
  rw [← e1, ← e2] at h1
  have h2 : 1 * Int.gcd n b = Int.gcd (fraN n b) (fraD n b) * Int.gcd n b := by rw [Nat.one_mul]; exact h1
  exact (Nat.eq_of_mul_eq_mul_right e3 h2).symm
/-- A number on the straight line lies between both ends. -/
theorem bet_in {f t a L : Int} (hL : 0 < L) (h0 : 0 ≤ a) (h1 : a ≤ L) : min f t * fraD (betN f t a L) L ≤ fraN (betN f t a L) L ∧ fraN (betN f t a L) L ≤ max f t * fraD (betN f t a L) L := by
  obtain ⟨e1, e2, e3⟩ := fra_eq (n := betN f t a L) hL
  have p1 : min f t * L ≤ betN f t a L := by
    have q1 := Int.mul_le_mul_of_nonneg_right (show min f t ≤ f by omega) (show 0 ≤ L - a by omega)
    have q2 := Int.mul_le_mul_of_nonneg_right (show min f t ≤ t by omega) h0
    have q3 : min f t * L = min f t * (L - a) + min f t * a := by rw [← Int.mul_add]; congr 1; omega
    unfold betN; omega
  have p2 : betN f t a L ≤ max f t * L := by
    have q1 := Int.mul_le_mul_of_nonneg_right (show f ≤ max f t by omega) (show 0 ≤ L - a by omega)
    have q2 := Int.mul_le_mul_of_nonneg_right (show t ≤ max f t by omega) h0
    have q3 : max f t * L = max f t * (L - a) + max f t * a := by rw [← Int.mul_add]; congr 1; omega
    unfold betN; omega
  generalize hG : (Int.gcd (betN f t a L) L : Int) = G at *
  have hG0 : 0 < G := by omega
  constructor
  · refine Int.le_of_mul_le_mul_right ?_ hG0
    rw [Int.mul_assoc, ← e2, ← e1]; exact p1
  · refine Int.le_of_mul_le_mul_right ?_ hG0
    rw [Int.mul_assoc, ← e2, ← e1]; exact p2
theorem bet_bd {f t a L : Int} (hf : f.natAbs ≤ 20000) (ht : t.natAbs ≤ 20000) (h0 : 0 ≤ a) (hL : 0 < L ∧ L ≤ 30000) (haL : a ≤ L) : (fraN (betN f t a L) L).natAbs ≤ 600000000 ∧ 1 ≤ fraD (betN f t a L) L ∧ fraD (betN f t a L) L ≤ 30000 := by
  obtain ⟨e1, e2⟩ := bet_in (f := f) (t := t) hL.1 h0 haL
  have d := fraD_bd (n := betN f t a L) (b := L) hL.1
  have m1 := mul_in (x := min f t) (y := fraD (betN f t a L) L) 20000 30000 (by omega) (by omega)
  have m2 := mul_in (x := max f t) (y := fraD (betN f t a L) L) 20000 30000 (by omega) (by omega)
  omega
end Go.Proofs.Ytknclifdncmgpaa

/- Contracts of chapter 1: the limit at a joint where a product is one word; vehicles, poses. No conditions on a program. -/
namespace Go.Proofs.Ytknclifdncmgpaa
open Go Go.RowKit Go.Proofs
set_option linter.unusedSimpArgs false
set_option linter.unusedVariables false
theorem y22_az47 : (Try.prog.info? 47).bind (·.zero) = some (.agg #[.int .i64 0, .int .i64 0]) := by kernel_rfl
theorem y22_fl116_0 : FldIs Try.prog 116 0 0 true 4 := by unfold FldIs; kernel_rfl
theorem y22_fl26_2 : FldIs Try.prog 26 2 2 false 1 := by unfold FldIs; kernel_rfl
theorem y22_fl47_0 : FldIs Try.prog 47 0 0 false 1 := by unfold FldIs; kernel_rfl
theorem y22_fl47_1 : FldIs Try.prog 47 1 1 false 1 := by unfold FldIs; kernel_rfl
theorem y22_hcf100 : ∀ args w, (callFunc 100 args).run Try.prog w = .ok (.enter 100 args) w := fun _ _ => by kernel_rfl
theorem y22_hcf121 : ∀ args w, (callFunc 121 args).run Try.prog w = .ok (.enter 121 args) w := fun _ _ => by kernel_rfl
theorem y22_hcf122 : ∀ args w, (callFunc 122 args).run Try.prog w = .ok (.enter 122 args) w := fun _ _ => by kernel_rfl
theorem y22_hcf123 : ∀ args w, (callFunc 123 args).run Try.prog w = .ok (.enter 123 args) w := fun _ _ => by kernel_rfl
theorem y22_sl23 : SlIs Try.prog 23 47 2 16 (.agg #[.int .i64 0, .int .i64 0]) := ⟨by kernel_rfl, by kernel_rfl, by kernel_rfl⟩
theorem y22_sz47 : (Try.prog.info? 47).map (·.size) = some 2 := by kernel_rfl
theorem y22_ty23 : TyIs Try.prog 23 false 1 := ⟨by kernel_rfl, by kernel_rfl⟩
theorem y22_ty3 : TyIs Try.prog 3 false 1 := ⟨by kernel_rfl, by kernel_rfl⟩
theorem y22_ty47 : TyIs Try.prog 47 true 2 := ⟨by kernel_rfl, by kernel_rfl⟩

theorem mul64_low (x y : Int) (hx : InU64 x) (hy : InU64 y) (h : InU64 (x * y)) : FnOk Try.prog 122 [uA x, uA y] (fun q => q = .tuple [uA 0, uA (x * y)]) :=
  (mul64_ok x y hx hy).mono fun q hq => by
    unfold InU64 at h
    rw [hq, show x * y / 18446744073709551616 = 0 by omega, show x * y % 18446744073709551616 = x * y by omega]
def sgnV (n : Int) : Int := if n < 0 then -1 else if 0 < n then 1 else 0
/-- What side and cant hold. -/
def helV (l : Lin) (s : Int) (j : Nat) : Int := 2000 * s + sgnV (benN l j) * ((l.bs.getD (j - 1) default).cant + (l.bs.getD j default).cant) * 9810
/-- The limit at a joint. -/
def limU (l : Lin) (s : Int) (j : Nat) : Int := helV l s j * ((l.bs.getD (j - 1) default).len + (l.bs.getD j default).len) * benD l j
def limV (l : Lin) (s : Int) (j : Nat) : Int := if benN l j = 0 then 20000000000 else if helV l s j < 0 then 0 else min (limU l s j / (2 * 2000 * max (benN l j) (-benN l j))) 20000000000
theorem ben_bd {l : Lin} (h : Rgt l) {j : Nat} (hj : 1 ≤ j ∧ j + 2 ≤ l.js.length) : (benN l j).natAbs ≤ 2400000000 ∧ 1000000 ≤ benD l j ∧ benD l j ≤ 900000000 := by
  have hjs := h.js
  have j1 := h.jnt (j - 1) (by omega)
  have j2 := h.jnt j (by omega)
  have j3 := h.jnt (j + 1) (by omega)
  have b1 := h.bea (j - 1) (by omega)
  have b2 := h.bea j (by omega)
  have m1 := mul_in (x := (l.js.getD (j + 1) default).acr - (l.js.getD j default).acr) (y := (l.bs.getD (j - 1) default).len) 40000 30000 (by omega) (by omega)
  have m2 := mul_in (x := (l.js.getD j default).acr - (l.js.getD (j - 1) default).acr) (y := (l.bs.getD j default).len) 40000 30000 (by omega) (by omega)
  have m3 := mul_in (x := (l.bs.getD (j - 1) default).len) (y := (l.bs.getD j default).len) 30000 30000 (by omega) (by omega)
  have m4 : (1000 : Int) * 1000 ≤ (l.bs.getD (j - 1) default).len * (l.bs.getD j default).len := Int.mul_le_mul b1.1 b2.1 (by omega) (by omega)
  unfold benN benD
  omega
theorem hel_bd {l : Lin} (h : Rgt l) {j : Nat} (hj : 1 ≤ j ∧ j + 2 ≤ l.js.length) {s : Int} (hs : 0 ≤ s ∧ s ≤ 5000) : (sgnV (benN l j) * ((l.bs.getD (j - 1) default).cant + (l.bs.getD j default).cant)).natAbs ≤ 600 ∧ (helV l s j).natAbs ≤ 15886000 := by
  have hjs := h.js
  have b1 := h.bea (j - 1) (by omega)
  have b2 := h.bea j (by omega)
  have m1 := mul_in (x := sgnV (benN l j)) (y := (l.bs.getD (j - 1) default).cant + (l.bs.getD j default).cant) 1 600 (by unfold sgnV; split; decide; split <;> decide) (by omega)
  unfold helV
  omega
set_option maxRecDepth 100000 in
set_option maxHeartbeats 4000000 in
theorem limit_low (l : Lin) (h : Rgt l) (s : Int) (hs : 0 ≤ s ∧ s ≤ 5000) (j : Nat) (hj : 1 ≤ j ∧ j + 2 ≤ l.js.length) (hu : limU l s j < 18446744073709551616) : FnOk Try.prog 98 [tkA l, mA s, mA j] (fun q => q = mA (limV l s j)) := by
  refine fnOk_of (fn := Try.f98) 88 (by kernel_rfl) rfl (by kernel_rfl) (Nat.le_of_ble_eq_true rfl) ?_
  intro e_0 m_0 hA hm_0
  have s0_0 : evA e_0 (.tmp 0) = _ := hA 0 _ rfl
  have s1_0 : evA e_0 (.tmp 1) = _ := hA 1 _ rfl
  have s2_0 : evA e_0 (.tmp 2) = _ := hA 2 _ rfl
  have ml_0 : m_0.length = 0 := by rw [hm_0]; rfl
  clear hA hm_0
  have hn1 := h.n1; have hn0 := h.n0; have hjs := h.js; have b1 := h.bea (j - 1) (by omega); have b2 := h.bea j (by omega); obtain ⟨e1, e2, e3⟩ := ben_bd h hj; obtain ⟨e4, e5⟩ := hel_bd h hj hs
  refine aw_seq ?_
  refine aw_text (by kernel_rfl) ?_
  refine al_ro' (ro_assign ev_c) trivial rfl ?_
  refine al_end (fun e_1 he_1 => ?_)
  have s0_1 := ef 0 he_1 (up_m rfl s0_0)
  have s1_1 := ef 1 he_1 (up_m rfl s1_0)
  have s2_1 := ef 2 he_1 (up_m rfl s2_0)
  clear he_1 s0_0 s1_0 s2_0
  refine then_n ?_
  refine aw_seq ?_
  refine aw_text (by kernel_rfl) ?_
  refine al_ro' (ro_move s0_1) trivial rfl ?_
  refine al_ro' (ro_move (up_m rfl s2_1)) trivial rfl ?_
  refine al_ro' (ro_call (evL_cons (up_m rfl up_h) (evL_cons up_h evL_nil)) rfl (bend_ok l h j hj) y22_hcf100) trivial rfl ?_
  refine al_ro' (ro_move up_h) trivial rfl ?_
  refine al_ro' (ro_extract up_h rfl) trivial rfl ?_
  refine al_ro' (ro_extract (up_m rfl up_h) rfl) trivial rfl ?_
  refine al_ro' (ro_assign (up_m rfl up_h)) trivial rfl ?_
  refine al_ro' (ro_assign (up_m rfl up_h)) trivial rfl ?_
  refine al_end (fun e_2 he_2 => ?_)
  have s0_2 := ef 0 he_2 (u8 rfl s0_1)
  have s1_2 := ef 1 he_2 (u8 rfl s1_1)
  have s2_2 := ef 2 he_2 (u8 rfl s2_1)
  have s7_2 := ef 7 he_2 (up_m rfl up_h)
  have s8_2 := ef 8 he_2 up_h
  clear he_2 s0_1 s1_1 s2_1
  refine then_n ?_
  refine aw_seq ?_
  refine aw_seq ?_
  refine aw_text (by kernel_rfl) ?_
  refine al_ro' (ro_move s7_2) trivial rfl ?_
  refine al_ro' (ro_eql up_h ev_c) trivial rfl ?_
  refine al_end (fun e_3 he_3 => ?_)
  have s0_3 := ef 0 he_3 (u2 rfl s0_2)
  have s1_3 := ef 1 he_3 (u2 rfl s1_2)
  have s2_3 := ef 2 he_3 (u2 rfl s2_2)
  have s7_3 := ef 7 he_3 (u2 rfl s7_2)
  have s8_3 := ef 8 he_3 (u2 rfl s8_2)
  have s24_3 := ef 24 he_3 up_h
  clear he_3 s0_2 s1_2 s2_2 s7_2 s8_2
  refine then_n ?_
  refine aw_case s24_3 (fun hq_4 => ?_) (fun hq_4 => ?_)
  ·replace hq_4 := bt hq_4
   refine aw_seq ?_
   refine aw_text (by kernel_rfl) ?_
   refine al_ro' (ro_assign ev_c) trivial rfl ?_
   refine al_end (fun e_5 he_5 => ?_)
   have s6_5 := ef 6 he_5 up_h
   clear he_5 s0_3 s1_3 s24_3 s2_3 s7_3 s8_3
   refine then_n ?_
   refine aw_ret ?_
   refine then_r ?_
   refine ret1 (.inr rfl) (by kernel_rfl) (resV_tmp s6_5) (.ro _ rfl) ?_
   clear s6_5  ml_0
   (rw [limV, if_pos (by assumption)])
  replace hq_4 := bf hq_4
  refine aw_skip ?_
  refine then_n ?_
  refine aw_seq ?_
  refine aw_drawK 20 2 ml_0 (by kernel_rfl) (by kernel_rfl) (by kernel_rfl) (by kernel_rfl) (fun m_6 hm_6 => ?_)
  have mo0_6 : m_6[0]? = _ := m_room_g hm_6 ml_0 0 rfl rfl
  have mo1_6 : m_6[1]? = _ := m_room_g hm_6 ml_0 1 rfl rfl
  have ml_6 : _ = 2 := m_room_l (K := 2) hm_6 ml_0
  clear hm_6 ml_0
  refine dh_ro (fun M_ hM_ => (ro_move s0_3)) trivial ?_
  refine dh_ro (fun M_ hM_ => (ro_nilR up_h)) trivial ?_
  refine dh_ro (fun M_ hM_ => (ro_eq (ro_fld_ref y22_fl116_0 rfl up_h) (by simp only [packA_t, packA_f, iE, bE, setAt, cellsA, Value.cells, map_vc, map_vn, Nat.reduceAdd, qS, jnE, beE, Int.toNat_natCast, toNat_suc, toNat_pre] <;> rfl))) trivial ?_
  refine dh_ro (fun M_ hM_ => (ro_eq (ro_fld_ref y22_fl26_2 rfl up_h) (by simp only [packA_t, packA_f, iE, bE, setAt, cellsA, Value.cells, map_vc, map_vn, Nat.reduceAdd, qS, jnE, beE, Int.toNat_natCast, toNat_suc, toNat_pre] <;> rfl))) trivial ?_
  refine dh_ro (fun M_ hM_ => (ro_eq (ro_ld_ref y22_ty23 rfl up_h (by exact Nat.le_of_ble_eq_true rfl)) (by simp only [packA_t, packA_f, iE, bE, setAt, cellsA, Value.cells, map_vc, map_vn, Nat.reduceAdd, qS, jnE, beE, Int.toNat_natCast, toNat_suc, toNat_pre] <;> rfl))) trivial ?_
  refine dh_ro (fun M_ hM_ => (ro_move (up_m rfl (u4 rfl s2_3)))) trivial ?_
  (refine dh_ro (fun M_ hM_ => (ro_sub' up_h ev_c ?_)) trivial ?_; · ((first | unfold In64 | unfold InU64); omega))
  refine dh_ro (fun M_ hM_ => (ro_eq (ro_ix y22_sl23 (u2 rfl up_h) up_h (by omega) (by first | (refine idx_map ?_; first | omega | (simp only [lnS]; omega)) | (refine idx_mapI ?_; first | omega | (simp only [lnS]; omega)) | (refine idx_mapN ?_; first | omega | (simp only [lnS]; omega)) | rfl)) (by simp only [packA_t, packA_f, iE, bE, setAt, cellsA, Value.cells, map_vc, map_vn, Nat.reduceAdd, qS, jnE, beE, Int.toNat_natCast, toNat_suc, toNat_pre] <;> rfl))) trivial ?_
  refine dh_ro (fun M_ hM_ => (ro_eq (ro_ld_ref y22_ty47 rfl up_h (by exact Nat.le_of_ble_eq_true rfl)) (by simp only [packA_t, packA_f, iE, bE, setAt, cellsA, Value.cells, map_vc, map_vn, Nat.reduceAdd, qS, jnE, beE, Int.toNat_natCast, toNat_suc, toNat_pre] <;> rfl))) trivial ?_
  refine dh_ro (fun M_ hM_ => (ro_move (up_m rfl (u8 rfl s0_3)))) trivial ?_
  refine dh_ro (fun M_ hM_ => (ro_nilR up_h)) trivial ?_
  refine dh_ro (fun M_ hM_ => (ro_eq (ro_fld_ref y22_fl116_0 rfl up_h) (by simp only [packA_t, packA_f, iE, bE, setAt, cellsA, Value.cells, map_vc, map_vn, Nat.reduceAdd, qS, jnE, beE, Int.toNat_natCast, toNat_suc, toNat_pre] <;> rfl))) trivial ?_
  refine dh_ro (fun M_ hM_ => (ro_eq (ro_fld_ref y22_fl26_2 rfl up_h) (by simp only [packA_t, packA_f, iE, bE, setAt, cellsA, Value.cells, map_vc, map_vn, Nat.reduceAdd, qS, jnE, beE, Int.toNat_natCast, toNat_suc, toNat_pre] <;> rfl))) trivial ?_
  refine dh_ro (fun M_ hM_ => (ro_eq (ro_ld_ref y22_ty23 rfl up_h (by exact Nat.le_of_ble_eq_true rfl)) (by simp only [packA_t, packA_f, iE, bE, setAt, cellsA, Value.cells, map_vc, map_vn, Nat.reduceAdd, qS, jnE, beE, Int.toNat_natCast, toNat_suc, toNat_pre] <;> rfl))) trivial ?_
  refine dh_ro (fun M_ hM_ => (ro_move (u2 rfl (u4 rfl (u8 rfl s2_3))))) trivial ?_
  refine dh_ro (fun M_ hM_ => (ro_eq (ro_ix y22_sl23 (up_m rfl up_h) up_h (by omega) (by first | (refine idx_map ?_; first | omega | (simp only [lnS]; omega)) | (refine idx_mapI ?_; first | omega | (simp only [lnS]; omega)) | (refine idx_mapN ?_; first | omega | (simp only [lnS]; omega)) | rfl)) (by simp only [packA_t, packA_f, iE, bE, setAt, cellsA, Value.cells, map_vc, map_vn, Nat.reduceAdd, qS, jnE, beE, Int.toNat_natCast, toNat_suc, toNat_pre] <;> rfl))) trivial ?_
  refine dh_ro (fun M_ hM_ => (ro_eq (ro_ld_ref y22_ty47 rfl up_h (by exact Nat.le_of_ble_eq_true rfl)) (by simp only [packA_t, packA_f, iE, bE, setAt, cellsA, Value.cells, map_vc, map_vn, Nat.reduceAdd, qS, jnE, beE, Int.toNat_natCast, toNat_suc, toNat_pre] <;> rfl))) trivial ?_
  refine dh_nw (0) (fun M_ hM_ => (nw_alloc y22_az47 rfl)) trivial mo0_6 rfl trivial trivial (fun m_7 hm_7 => ?_)
  have mo0_7 := m_set hm_7 mo0_6
  simp only [packA_t, packA_f, iE, bE, setAt, cellsA, Value.cells, map_vc, map_vn, Nat.reduceAdd, qS, jnE, beE, Int.toNat_natCast, toNat_suc, toNat_pre] at mo0_7
  have mo1_7 := m_set_o hm_7 mo1_6 (by decide)
  have ml_7 := m_set_l hm_7 ml_6
  clear hm_7 mo0_6 mo1_6
  refine dh_nw (1) (fun M_ hM_ => (nw_alloc y22_az47 rfl)) trivial mo1_7 rfl ⟨.inl (by simp <;> omega), trivial⟩ ⟨.inl (by simp <;> omega), trivial⟩ (fun m_8 hm_8 => ?_)
  have mo1_8 := m_set hm_8 mo1_7
  simp only [packA_t, packA_f, iE, bE, setAt, cellsA, Value.cells, map_vc, map_vn, Nat.reduceAdd, qS, jnE, beE, Int.toNat_natCast, toNat_suc, toNat_pre] at mo1_8
  have mo0_8 := m_set_o hm_8 mo0_7 (by decide)
  have ml_8 := m_set_l hm_8 ml_7
  clear hm_8 mo0_7 mo1_7
  refine dh_set (0) (fun M_ hM_ => (se_store (up_m rfl up_h) (u2 rfl (u8 rfl up_h)) rfl rfl (agr hM_ mo0_8 (by simp)) y22_sz47 rfl (by exact Nat.le_of_ble_eq_true rfl))) trivial ⟨.inr (wt_one 19 17 (by kernel_rfl)), ⟨.inl (by simp <;> omega), trivial⟩⟩ ⟨.inr (wt_one 19 17 (by kernel_rfl)), ⟨.inl (by simp <;> omega), trivial⟩⟩ (fun m_9 hm_9 => ?_)
  have mo0_9 := m_set hm_9 mo0_8
  simp only [packA_t, packA_f, iE, bE, setAt, cellsA, Value.cells, map_vc, map_vn, Nat.reduceAdd, qS, jnE, beE, Int.toNat_natCast, toNat_suc, toNat_pre] at mo0_9
  have mo1_9 := m_set_o hm_9 mo1_8 (by decide)
  have ml_9 := m_set_l hm_9 ml_8
  clear hm_9 mo1_8 mo0_8
  refine dh_nil rfl ?_
  refine al_stm (st_store (up_n up_h) (up_n (u2 rfl up_h)) rfl rfl mo1_9 y22_sz47 rfl (by exact Nat.le_of_ble_eq_true rfl)) trivial rfl (fun m_10 hm_10 => ?_)
  have mo1_10 := m_set hm_10 mo1_9
  simp only [packA_t, packA_f, iE, bE, setAt, cellsA, Value.cells, map_vc, map_vn, Nat.reduceAdd, qS, jnE, beE, Int.toNat_natCast, toNat_suc, toNat_pre] at mo1_10
  have mo0_10 := m_set_o hm_10 mo0_9 (by decide)
  have ml_10 := m_set_l hm_10 ml_9
  clear hm_10 mo0_9 mo1_9
  refine al_end (fun e_11 he_11 => ?_)
  have s1_11 := ef 1 he_11 (up_n (up_n (up_m rfl (u2 rfl (u16 rfl s1_3)))))
  have s7_11 := ef 7 he_11 (up_n (up_n (up_m rfl (u2 rfl (u16 rfl s7_3)))))
  have s8_11 := ef 8 he_11 (up_n (up_n (up_m rfl (u2 rfl (u16 rfl s8_3)))))
  have s9_11 := ef 9 he_11 (up_n (up_n (up_m rfl up_h)))
  have s10_11 := ef 10 he_11 (up_n (up_n up_h))
  clear he_11 s0_3 s1_3 s24_3 s2_3 s7_3 s8_3
  refine then_n ?_
  refine aw_seq ?_
  refine aw_text (by kernel_rfl) ?_
  refine al_ro' (ro_assign ev_c) trivial rfl ?_
  refine al_end (fun e_12 he_12 => ?_)
  have s1_12 := ef 1 he_12 (up_m rfl s1_11)
  have s7_12 := ef 7 he_12 (up_m rfl s7_11)
  have s8_12 := ef 8 he_12 (up_m rfl s8_11)
  have s9_12 := ef 9 he_12 (up_m rfl s9_11)
  have s10_12 := ef 10 he_12 (up_m rfl s10_11)
  have s11_12 := ef 11 he_12 up_h
  clear he_12 s10_11 s1_11 s7_11 s8_11 s9_11
  refine then_n ?_
  refine aw_seq ?_
  refine aw_draw 14 (by kernel_rfl) (by kernel_rfl) (by kernel_rfl) (by kernel_rfl) ?_
  refine ds_ro' (ro_move s11_12) trivial rfl ?_
  refine ds_ro' (ro_move (up_m rfl s1_12)) trivial rfl ?_
  (refine ds_ro' (ro_mul' (up_m rfl up_h) up_h ?_) trivial rfl ?_; · ((first | unfold In64 | unfold InU64); omega))
  refine ds_ro' (ro_move (up_m rfl (u2 rfl s7_12))) trivial rfl ?_
  refine ds_ro' (ro_call (evL_cons up_h (evL_cons ev_c evL_nil)) rfl ((compare_ok _ _).mono (fun q h => show q = mA (sgnV (benN l j)) from h)) y22_hcf121) trivial rfl ?_
  refine ds_ro' (ro_fld_ptr y22_fl47_1 rfl (up_m rfl (u4 rfl s9_12))) trivial rfl ?_
  refine ds_ro' (ro_eq (ro_ld_ptr y22_ty3 rfl mo0_10 up_h (by exact Nat.le_of_ble_eq_true rfl)) (by simp only [packA_t, packA_f, iE, bE, setAt, cellsA, Value.cells, map_vc, map_vn, Nat.reduceAdd, qS, jnE, beE, Int.toNat_natCast, toNat_suc, toNat_pre] <;> rfl)) trivial rfl ?_
  refine ds_ro' (ro_fld_ptr y22_fl47_1 rfl (up_m rfl (u2 rfl (u4 rfl s10_12)))) trivial rfl ?_
  refine ds_ro' (ro_eq (ro_ld_ptr y22_ty3 rfl mo1_10 up_h (by exact Nat.le_of_ble_eq_true rfl)) (by simp only [packA_t, packA_f, iE, bE, setAt, cellsA, Value.cells, map_vc, map_vn, Nat.reduceAdd, qS, jnE, beE, Int.toNat_natCast, toNat_suc, toNat_pre] <;> rfl)) trivial rfl ?_
  (refine ds_ro' (ro_add' (u2 rfl up_h) up_h ?_) trivial rfl ?_; · ((first | unfold In64 | unfold InU64); omega))
  (refine ds_ro' (ro_mul' (up_m rfl (u4 rfl up_h)) up_h ?_) trivial rfl ?_; · ((first | unfold In64 | unfold InU64); omega))
  (refine ds_ro' (ro_mul' up_h ev_c ?_) trivial rfl ?_; · ((first | unfold In64 | unfold InU64); omega))
  (refine ds_ro' (ro_add' (up_m rfl (u8 rfl up_h)) up_h ?_) trivial rfl ?_; · ((first | unfold In64 | unfold InU64); omega))
  refine ds_ro' (ro_assign up_h) trivial rfl ?_
  refine ds_nil ?_
  refine al_end (fun e_13 he_13 => ?_)
  have s7_13 := ef 7 he_13 (u2 rfl (u4 rfl (u8 rfl s7_12)))
  have s8_13 := ef 8 he_13 (u2 rfl (u4 rfl (u8 rfl s8_12)))
  have s9_13 := ef 9 he_13 (u2 rfl (u4 rfl (u8 rfl s9_12)))
  have s10_13 := ef 10 he_13 (u2 rfl (u4 rfl (u8 rfl s10_12)))
  have s11_13 := ef 11 he_13 (u2 rfl (u4 rfl (u8 rfl s11_12)))
  have s12_13 := ef 12 he_13 up_h
  clear he_13 s10_12 s11_12 s1_12 s7_12 s8_12 s9_12
  refine then_n ?_
  refine aw_seq ?_
  refine aw_seq ?_
  refine aw_text (by kernel_rfl) ?_
  refine al_ro' (ro_move s12_13) trivial rfl ?_
  refine al_ro' (ro_lss up_h ev_c) trivial rfl ?_
  refine al_end (fun e_14 he_14 => ?_)
  have s7_14 := ef 7 he_14 (u2 rfl s7_13)
  have s8_14 := ef 8 he_14 (u2 rfl s8_13)
  have s9_14 := ef 9 he_14 (u2 rfl s9_13)
  have s10_14 := ef 10 he_14 (u2 rfl s10_13)
  have s11_14 := ef 11 he_14 (u2 rfl s11_13)
  have s12_14 := ef 12 he_14 (u2 rfl s12_13)
  have s56_14 := ef 56 he_14 up_h
  clear he_14 s10_13 s11_13 s12_13 s7_13 s8_13 s9_13
  refine then_n ?_
  refine aw_case s56_14 (fun hq_15 => ?_) (fun hq_15 => ?_)
  ·replace hq_15 := bt hq_15
   refine aw_seq ?_
   refine aw_text (by kernel_rfl) ?_
   refine al_ro' (ro_assign ev_c) trivial rfl ?_
   refine al_end (fun e_16 he_16 => ?_)
   have s6_16 := ef 6 he_16 up_h
   clear he_16 s10_14 s11_14 s12_14 s56_14 s7_14 s8_14 s9_14
   refine then_n ?_
   refine aw_ret ?_
   refine then_r ?_
   refine ret1 (.inr rfl) (by kernel_rfl) (resV_tmp s6_16) (.ro _ rfl) ?_
   clear s6_16 mo1_10 mo0_10 ml_10
   (rw [limV, if_neg (by assumption), if_pos (by assumption)])
  replace hq_15 := bf hq_15
  (have hh : 0 ≤ (2000 * s + sgnV (benN l j) * ((l.bs.getD (j - 1) default).cant + (l.bs.getD j default).cant) * 9810) := (by omega); have m1 := mul_in (x := (2000 * s + sgnV (benN l j) * ((l.bs.getD (j - 1) default).cant + (l.bs.getD j default).cant) * 9810)) (y := ((l.bs.getD (j - 1) default).len + (l.bs.getD j default).len)) 15886000 60000 e5 (by omega); have n1 := Int.mul_nonneg hh (show 0 ≤ ((l.bs.getD (j - 1) default).len + (l.bs.getD j default).len) by omega); have vv1 : InU64 ((2000 * s + sgnV (benN l j) * ((l.bs.getD (j - 1) default).cant + (l.bs.getD j default).cant) * 9810) * ((l.bs.getD (j - 1) default).len + (l.bs.getD j default).len)) := ⟨n1, by omega⟩; have vv2 : InU64 (benD l j) := ⟨by omega, by omega⟩; have vv3 : InU64 ((2000 * s + sgnV (benN l j) * ((l.bs.getD (j - 1) default).cant + (l.bs.getD j default).cant) * 9810) * ((l.bs.getD (j - 1) default).len + (l.bs.getD j default).len) * benD l j) := ⟨Int.mul_nonneg n1 (by omega), hu⟩; have vv4 : InU64 (2 * 2000 * max (benN l j) (-benN l j)) := ⟨by omega, by omega⟩; have vv5 : 0 < 2 * 2000 * max (benN l j) (-benN l j) := (by omega); have vv6 := Int.ediv_nonneg vv3.1 (Int.le_of_lt vv5); unfold InU64 at vv1 vv2 vv4)
  refine aw_skip ?_
  refine then_n ?_
  refine aw_seq ?_
  refine aw_text (by kernel_rfl) ?_
  refine al_ro' (ro_move s12_14) trivial rfl ?_
  refine al_ro' (ro_fld_ptr y22_fl47_0 rfl (up_m rfl s9_14)) trivial rfl ?_
  refine al_ro' (ro_eq (ro_ld_ptr y22_ty3 rfl mo0_10 up_h (by exact Nat.le_of_ble_eq_true rfl)) (by simp only [packA_t, packA_f, iE, bE, setAt, cellsA, Value.cells, map_vc, map_vn, Nat.reduceAdd, qS, jnE, beE, Int.toNat_natCast, toNat_suc, toNat_pre] <;> rfl)) trivial rfl ?_
  refine al_ro' (ro_fld_ptr y22_fl47_0 rfl (up_m rfl (u2 rfl s10_14))) trivial rfl ?_
  refine al_ro' (ro_eq (ro_ld_ptr y22_ty3 rfl mo1_10 up_h (by exact Nat.le_of_ble_eq_true rfl)) (by simp only [packA_t, packA_f, iE, bE, setAt, cellsA, Value.cells, map_vc, map_vn, Nat.reduceAdd, qS, jnE, beE, Int.toNat_natCast, toNat_suc, toNat_pre] <;> rfl)) trivial rfl ?_
  (refine al_ro' (ro_add' (u2 rfl up_h) up_h ?_) trivial rfl ?_; · ((first | unfold In64 | unfold InU64); omega))
  (refine al_ro' (ro_mul' (up_m rfl (u4 rfl up_h)) up_h ?_) trivial rfl ?_; · ((first | unfold In64 | unfold InU64); omega))
  (refine al_ro' (ro_cvU up_h (by kernel_rfl) (by kernel_rfl) ?_) trivial rfl ?_; · ((first | unfold In64 | unfold InU64); omega))
  refine al_ro' (ro_move (u8 rfl s8_14)) trivial rfl ?_
  (refine al_ro' (ro_cvU up_h (by kernel_rfl) (by kernel_rfl) ?_) trivial rfl ?_; · ((first | unfold In64 | unfold InU64); omega))
  refine al_ro' (ro_call (evL_cons (u2 rfl up_h) (evL_cons up_h evL_nil)) rfl (mul64_low _ _ vv1 vv2 vv3) y22_hcf122) trivial rfl ?_
  refine al_ro' (ro_move up_h) trivial rfl ?_
  refine al_ro' (ro_extract up_h rfl) trivial rfl ?_
  refine al_ro' (ro_extract (up_m rfl up_h) rfl) trivial rfl ?_
  refine al_ro' (ro_assign (up_m rfl up_h)) trivial rfl ?_
  refine al_ro' (ro_assign (up_m rfl up_h)) trivial rfl ?_
  refine al_end (fun e_17 he_17 => ?_)
  have s7_17 := ef 7 he_17 (u16 rfl s7_14)
  have s11_17 := ef 11 he_17 (u16 rfl s11_14)
  have s13_17 := ef 13 he_17 (up_m rfl up_h)
  have s14_17 := ef 14 he_17 up_h
  clear he_17 s10_14 s11_14 s12_14 s56_14 s7_14 s8_14 s9_14
  refine then_n ?_
  refine aw_seq ?_
  refine aw_text (by kernel_rfl) ?_
  refine al_ro' (ro_move s13_17) trivial rfl ?_
  refine al_ro' (ro_move (up_m rfl s14_17)) trivial rfl ?_
  refine al_ro' (ro_move (u2 rfl s11_17)) trivial rfl ?_
  (refine al_ro' (ro_mul' ev_c up_h ?_) trivial rfl ?_; · ((first | unfold In64 | unfold InU64); omega))
  refine al_ro' (ro_move (u4 rfl s7_17)) trivial rfl ?_
  refine al_ro' (ro_move (up_m rfl (u4 rfl s7_17))) trivial rfl ?_
  (refine al_ro' (ro_neg' up_h ?_) trivial rfl ?_; · ((first | unfold In64 | unfold InU64); omega))
  refine al_ro' (ro_max (u2 rfl up_h) up_h) trivial rfl ?_
  (refine al_ro' (ro_mul' (u4 rfl up_h) up_h ?_) trivial rfl ?_; · ((first | unfold In64 | unfold InU64); omega))
  (refine al_ro' (ro_cvU up_h (by kernel_rfl) (by kernel_rfl) ?_) trivial rfl ?_; · ((first | unfold In64 | unfold InU64); omega))
  refine al_ro' (ro_call (evL_cons (up_m rfl (u8 rfl up_h)) (evL_cons (u8 rfl up_h) (evL_cons up_h evL_nil))) rfl (div64_low _ _ vv3 vv4 vv5) y22_hcf123) trivial rfl ?_
  refine al_ro' (ro_move up_h) trivial rfl ?_
  refine al_ro' (ro_extract up_h rfl) trivial rfl ?_
  refine al_ro' (ro_extract (up_m rfl up_h) rfl) trivial rfl ?_
  refine al_ro' (ro_assign (up_m rfl up_h)) trivial rfl ?_
  refine al_ro' (ro_assign (up_m rfl up_h)) trivial rfl ?_
  refine al_end (fun e_18 he_18 => ?_)
  have s15_18 := ef 15 he_18 (up_m rfl up_h)
  clear he_18 s11_17 s13_17 s14_17 s7_17
  refine then_n ?_
  refine aw_seq ?_
  refine aw_text (by kernel_rfl) ?_
  refine al_ro' (ro_move s15_18) trivial rfl ?_
  refine al_ro' (ro_min up_h ev_c) trivial rfl ?_
  (refine al_ro' (ro_cvI up_h (by kernel_rfl) (by kernel_rfl) ?_) trivial rfl ?_; · ((first | unfold In64 | unfold InU64); omega))
  refine al_ro' (ro_assign up_h) trivial rfl ?_
  refine al_end (fun e_19 he_19 => ?_)
  have s6_19 := ef 6 he_19 up_h
  clear he_19 s15_18
  refine then_n ?_
  refine aw_ret ?_
  refine ret1 (.inr rfl) (by kernel_rfl) (resV_tmp s6_19) (.ro _ rfl) ?_
  clear s6_19 mo1_10 mo0_10 ml_10
  (rw [limV, if_neg (by assumption), if_neg (by assumption)]; rfl)
end Go.Proofs.Ytknclifdncmgpaa

