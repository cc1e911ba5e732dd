/- Texts of this claim, one behind the other: lemmas for the statement. -/
import Derived.Test.YtonjcljnpcmenaaM5
import Derived.Test.YtonjcljnpcmenaaA24
/- Contracts: a number sought in a sorted list. No conditions on a program. -/
namespace Go.Proofs.Ytonjcljnpcmenaa
open Go Go.RowKit Go.Proofs
set_option linter.unusedSimpArgs false
set_option linter.unusedVariables false
theorem y17_fl141_0 : FldIs Try.prog 141 0 0 true 4 := by unfold FldIs; kernel_rfl
theorem y17_fl141_1 : FldIs Try.prog 141 1 4 false 1 := by unfold FldIs; kernel_rfl
theorem y17_fl26_2 : FldIs Try.prog 26 2 2 false 1 := by unfold FldIs; kernel_rfl
theorem y17_hcf159 : ∀ args w, (callFunc 159 args).run Try.prog w = .ok (.enter 159 args) w := fun _ _ => by kernel_rfl
theorem y17_hcf161 : ∀ args w, (callFunc 161 args).run Try.prog w = .ok (.enter 161 args) w := fun _ _ => by kernel_rfl
theorem y17_hcf168 : ∀ args w, (callFunc 168 args).run Try.prog w = .ok (.enter 168 args) w := fun _ _ => by kernel_rfl
theorem y17_hcf169 : ∀ args w, (callFunc 169 args).run Try.prog w = .ok (.enter 169 args) w := fun _ _ => by kernel_rfl
theorem y17_sl23 : SlIs Try.prog 23 87 2 16 (.agg #[.int .i64 0, .int .i64 0]) := ⟨by kernel_rfl, by kernel_rfl, by kernel_rfl⟩
theorem y17_sl49 : SlIs Try.prog 49 3 1 8 (.int .i64 0) := ⟨by kernel_rfl, by kernel_rfl, by kernel_rfl⟩
theorem y17_ty23 : TyIs Try.prog 23 false 1 := ⟨by kernel_rfl, by kernel_rfl⟩
theorem y17_ty3 : TyIs Try.prog 3 false 1 := ⟨by kernel_rfl, by kernel_rfl⟩
theorem y17_ty49 : TyIs Try.prog 49 false 1 := ⟨by kernel_rfl, by kernel_rfl⟩

set_option maxRecDepth 100000 in
set_option maxHeartbeats 1000000 in
theorem cNaN_ok (n : Int) : FnOk Try.prog 161 [mA n] (fun q => q = tbA false) := by
  refine fnOk_of (fn := Try.f161) 6 (by kernel_rfl) rfl (by kernel_rfl) (Nat.le_of_ble_eq_true rfl) ?_
  intro e_0 m_0 hA hm_0
  have s0_0 : evA e_0 (.tmp 0) = _ := hA 0 _ rfl
  have ml_0 : m_0.length = 0 := by rw [hm_0]; rfl
  clear hA hm_0
  refine aw_seq <| at_ <| ar (ro_assign ev_c) rfl <| ae1 (up_m rfl s0_0) ?_; clear s0_0; intro e_1 s0_1
  refine then_n <| aw_seq <| at_ <| ar (ro_move s0_1) rfl <| ar (ro_move (up_m rfl s0_1)) rfl <| ar (ro_neq (up_m rfl up_h) up_h) rfl <| ar (ro_assign up_h) rfl <| ae1 up_h ?_; clear s0_1; intro e_2 s2_2
  refine then_n <| aw_ret <| ret1 (.inr rfl) (by kernel_rfl) (resV_tmp s2_2) (.ro _ rfl) ?_
  clear s2_2  ml_0
  simp
set_option maxRecDepth 100000 in
set_option maxHeartbeats 1000000 in
theorem sNaN_ok (n : Int) : FnOk Try.prog 169 [mA n] (fun q => q = tbA false) := by
  refine fnOk_of (fn := Try.f169) 6 (by kernel_rfl) rfl (by kernel_rfl) (Nat.le_of_ble_eq_true rfl) ?_
  intro e_0 m_0 hA hm_0
  have s0_0 : evA e_0 (.tmp 0) = _ := hA 0 _ rfl
  have ml_0 : m_0.length = 0 := by rw [hm_0]; rfl
  clear hA hm_0
  refine aw_seq <| at_ <| ar (ro_assign ev_c) rfl <| ae1 (up_m rfl s0_0) ?_; clear s0_0; intro e_1 s0_1
  refine then_n <| aw_seq <| at_ <| ar (ro_move s0_1) rfl <| ar (ro_move (up_m rfl s0_1)) rfl <| ar (ro_neq (up_m rfl up_h) up_h) rfl <| ar (ro_assign up_h) rfl <| ae1 up_h ?_; clear s0_1; intro e_2 s2_2
  refine then_n <| aw_ret <| ret1 (.inr rfl) (by kernel_rfl) (resV_tmp s2_2) (.ro _ rfl) ?_
  clear s2_2  ml_0
  simp
set_option maxRecDepth 100000 in
set_option maxHeartbeats 1000000 in
theorem less_ok (m n : Int) : FnOk Try.prog 168 [mA m, mA n] (fun q => q = tbA (decide (m < n))) := by
  refine fnOk_of (fn := Try.f168) 17 (by kernel_rfl) rfl (by kernel_rfl) (Nat.le_of_ble_eq_true rfl) ?_
  intro e_0 m_0 hA hm_0
  have s0_0 : evA e_0 (.tmp 0) = _ := hA 0 _ rfl
  have s1_0 : evA e_0 (.tmp 1) = _ := hA 1 _ rfl
  have ml_0 : m_0.length = 0 := by rw [hm_0]; rfl
  clear hA hm_0
  refine aw_seq <| at_ <| ar (ro_assign ev_c) rfl <| ae2 (up_m rfl s0_0) (up_m rfl s1_0) ?_; clear s0_0 s1_0; intro e_1 s0_1 s1_1
  refine then_n <| aw_seq <| at_ <| ar (ro_move s0_1) rfl <| ar (ro_call (evL_cons up_h evL_nil) rfl (cNaN_ok _) y17_hcf161) rfl <| ar (ro_move up_h) rfl <| al_case up_h (fun hb_2 hq_2 => ?_) (fun hb_2 hq_2 => ?_)
  · cases hq_2
  refine al_skip' ⟨_, rfl, .inl hb_2⟩ rfl ?_
  refine al_skip' ⟨_, rfl, .inl (up_m rfl hb_2)⟩ rfl ?_
  refine al_skip' ⟨_, rfl, .inl (u2 rfl hb_2)⟩ rfl ?_
  refine ar (ro_pickF (up_m rfl (u2 rfl hb_2)) ev_c) rfl <| ar (ro_move up_h) rfl <| al_ro' (ro_move (u8 rfl s0_1)) ⟨_, rfl, up_h⟩ rfl ?_
  refine al_ro' (ro_move (up_m rfl (u8 rfl s1_1))) ⟨_, rfl, (up_m rfl up_h)⟩ rfl ?_
  refine al_ro' (ro_lss (up_m rfl up_h) up_h) ⟨_, rfl, (u2 rfl up_h)⟩ rfl ?_
  refine ar (ro_pickF (up_m rfl (u2 rfl up_h)) up_h) rfl <| ar (ro_assign up_h) rfl <| ae1 up_h ?_; clear hb_2 s0_1 s1_1; intro e_6 s4_6
  refine then_n <| aw_ret <| ret1 (.inr rfl) (by kernel_rfl) (resV_tmp s4_6) (.ro _ rfl) ?_
  clear s4_6  ml_0
  rfl
/-- Those below i are less than a number; those from i on are not. -/
def Blw (xs : List Int) (t : Int) (i : Nat) : Prop := ∀ k : Nat, k < i → xs.getD k default < t
def Abo (xs : List Int) (t : Int) (i : Nat) : Prop := ∀ k : Nat, i ≤ k → k < xs.length → t ≤ xs.getD k default
/-- No number is less than one before it. -/
def Srt (xs : List Int) : Prop := ∀ i j : Nat, i ≤ j → j < xs.length → xs.getD i default ≤ xs.getD j default
/-- How many numbers are less, up to the first one that is not. -/
def lowN (xs : List Int) (t : Int) : Nat := (xs.takeWhile (fun x => decide (x < t))).length
theorem lowN_eq {t : Int} : ∀ {xs : List Int} {i : Nat}, i ≤ xs.length → Blw xs t i → Abo xs t i → lowN xs t = i
  | [], i, h, _, _ => by simp at h; subst h; rfl
  | x :: xs, 0, _, _, h => by
    have := h 0 (Nat.le_refl _) (by simp)
    simp at this
    simp [lowN, show ¬ x < t by omega]
  | x :: xs, i + 1, h, hb, ha => by
    have := hb 0 (by omega)
    simp at this
    have ih := lowN_eq (xs := xs) (i := i) (t := t) (by simpa using h) (fun k hk => by have := hb (k + 1) (by omega); simpa using this) (fun k h1 h2 => by have := ha (k + 1) (by omega) (by simpa using h2); simpa using this)
    unfold lowN at ih ⊢
    simp [this, ih]
theorem Blw.step {xs : List Int} {t : Int} (hs : Srt xs) {i : Nat} (hi : i < xs.length) (h : xs.getD i default < t) : Blw xs t (i + 1) := fun k hk => by
  have := hs k i (by omega) hi; omega
theorem Abo.step {xs : List Int} {t : Int} (hs : Srt xs) {i : Nat} (h : t ≤ xs.getD i default) : Abo xs t i := fun k h1 h2 => by
  have := hs i k h1 h2; omega
set_option maxRecDepth 100000 in
set_option maxHeartbeats 4000000 in
theorem search_ok (xs : List Int) (t : Int) (hs : Srt xs) (hl : xs.length ≤ 1000000) : FnOk Try.prog 159 [.row 1 (xs.map iE), mA t] (fun q => q = .tuple [mA (lowN xs t), tbA (decide (lowN xs t < xs.length ∧ xs.getD (lowN xs t) default = t))]) := by
  refine fnOk_of (fn := Try.f159) 54 (by kernel_rfl) rfl (by kernel_rfl) (Nat.le_of_ble_eq_true rfl) ?_
  intro e_0 m_0 hA hm_0
  have s0_0 : evA e_0 (.tmp 0) = _ := hA 0 _ rfl
  have s1_0 : evA e_0 (.tmp 1) = _ := hA 1 _ rfl
  have ml_0 : m_0.length = 0 := by rw [hm_0]; rfl
  clear hA hm_0
  refine aw_seq <| at_ <| ar (ro_assign ev_c) rfl <| ar (ro_assign ev_c) rfl <| ae2 (u2 rfl s0_0) (u2 rfl s1_0) ?_; clear s0_0 s1_0; intro e_1 s0_1 s1_1
  refine then_n <| aw_seq <| at_ <| ar (ro_move s0_1) rfl <| ar (ro_eq (ro_len_row up_h rfl y17_sl49.1) (by simp only [lnS] <;> rfl)) rfl ?_
  refine ar (ro_assign up_h) rfl <| ae3 (up_m rfl (u2 rfl s0_1)) (up_m rfl (u2 rfl s1_1)) up_h ?_; clear s0_1 s1_1; intro e_2 s0_2 s1_2 s6_2
  refine then_n <| aw_seq <| at_ <| ar (ro_move s6_2) rfl <| ar (ro_assign ev_c) rfl <| ar (ro_assign (up_m rfl up_h)) rfl <| ae5 (up_m rfl (u2 rfl s0_2)) (up_m rfl (u2 rfl s1_2)) (up_m rfl (u2 rfl s6_2)) (up_m rfl up_h) up_h ?_; clear s0_2 s1_2 s6_2; intro e_3 s0_3 s1_3 s6_3 s7_3 s8_3
  refine then_n <| aw_seq <| aw_block <| aw_loop (S := (Int × Int)) (fun s e mem => match s with | ⟨i, j⟩ => (evA e (.tmp 7) = .v (.int .i64 i)) ∧ (evA e (.tmp 8) = .v (.int .i64 j)) ∧ (evA e (.tmp 0) = evA e_3 (.tmp 0)) ∧ (evA e (.tmp 1) = evA e_3 (.tmp 1)) ∧ (evA e (.tmp 6) = evA e_3 (.tmp 6)) ∧ (mem.length = 0) ∧ ((0 ≤ i ∧ i ≤ j ∧ j ≤ xs.length ∧ Blw xs t i.toNat ∧ Abo xs t j.toNat))) (fun s => match s with | ⟨i, j⟩ => (j - i).toNat) ⟨_, _⟩ ⟨s7_3, s8_3, rfl, rfl, rfl, ml_0, ?_⟩ ?_
  · (exact ⟨by omega, by omega, by omega, fun k hk => absurd hk (by simp), fun k h1 h2 => absurd h1 (by omega)⟩)
  · rintro ⟨i, j⟩ e_4 m_4 ⟨s7_4, s8_4, k0_4, k1_4, k6_4, ml_4, hinv⟩
    have s0_4 := k0_4.trans s0_3
    have s1_4 := k1_4.trans s1_3
    have s6_4 := k6_4.trans s6_3
    (obtain ⟨p1, p2, p3, p4, p5⟩ := hinv)
    refine aw_seq <| aw_seq <| at_ <| ar (ro_move s7_4) rfl <| ar (ro_move (up_m rfl s8_4)) rfl <| ar (ro_lss (up_m rfl up_h) up_h) rfl <| ae6 (up_m rfl (u2 rfl s0_4)) (up_m rfl (u2 rfl s1_4)) (up_m rfl (u2 rfl s6_4)) (up_m rfl (u2 rfl s7_4)) (up_m rfl (u2 rfl s8_4)) up_h ?_; clear s0_4 s1_4 s6_4 s7_4 s8_4; intro e_5 s0_5 s1_5 s6_5 s7_5 s8_5 s15_5
    refine then_n <| aw_case s15_5 (fun hq_6 => ?_) (fun hq_6 => ?_)
    ·replace hq_6 := bt hq_6
     refine aw_skip <| then_n <| aw_block <| aw_seq <| at_ <| ar (ro_move s7_5) rfl <| ar (ro_move (up_m rfl s8_5)) rfl ?_
     (refine ar (ro_add' (up_m rfl up_h) up_h ?_) rfl ?_; · ((first | unfold In64 | unfold InU64); omega))
     (refine ar (ro_cvU up_h (by kernel_rfl) (by kernel_rfl) ?_) rfl ?_; · ((first | unfold In64 | unfold InU64); omega))
     refine ar (ro_shr (c := 2) up_h ev_c (by decide) (by decide)) rfl ?_
     (refine ar (ro_cvI up_h (by kernel_rfl) (by kernel_rfl) ?_) rfl ?_; · ((first | unfold In64 | unfold InU64); omega))
     refine ar (ro_assign up_h) rfl <| ae6 (up_m rfl (u2 rfl (u4 rfl s0_5))) (up_m rfl (u2 rfl (u4 rfl s1_5))) (up_m rfl (u2 rfl (u4 rfl s6_5))) (up_m rfl (u2 rfl (u4 rfl s7_5))) (up_m rfl (u2 rfl (u4 rfl s8_5))) up_h ?_; clear s0_5 s15_5 s1_5 s6_5 s7_5 s8_5; intro e_7 s0_7 s1_7 s6_7 s7_7 s8_7 s9_7
     refine then_n <| aw_seq <| at_ <| ar (ro_move s0_7) rfl <| ar (ro_move (up_m rfl s9_7)) rfl <| ar (ro_eq (ro_ix y17_sl49 (up_m rfl up_h) up_h (by omega) (by first | (refine idx_map ?_; first | omega | (simp only [lnS]; omega)) | (refine idx_mapI ?_; first | omega | (simp only [lnS]; omega)) | (refine idx_mapN ?_; first | omega | (simp only [lnS]; omega)) | rfl)) (by simp only [pS, Value.cells, Nat.reduceAdd] <;> rfl)) rfl ?_
     refine ar (ro_eq (ro_ld_ref y17_ty3 rfl up_h (nle rfl)) (by simp only [pS, Value.cells, Nat.reduceAdd] <;> rfl)) rfl ?_
     refine ar (ro_move (u4 rfl s1_7)) rfl <| ar (ro_call (evL_cons (up_m rfl up_h) (evL_cons up_h evL_nil)) rfl (less_ok _ _) y17_hcf168) rfl <| ae7 (u2 rfl (u4 rfl s0_7)) (u2 rfl (u4 rfl s1_7)) (u2 rfl (u4 rfl s6_7)) (u2 rfl (u4 rfl s7_7)) (u2 rfl (u4 rfl s8_7)) (u2 rfl (u4 rfl s9_7)) up_h ?_; clear s0_7 s1_7 s6_7 s7_7 s8_7 s9_7; intro e_8 s0_8 s1_8 s6_8 s7_8 s8_8 s9_8 s27_8
     refine then_n <| aw_case s27_8 (fun hq_9 => ?_) (fun hq_9 => ?_)
     ·replace hq_9 := bt hq_9
      refine at_ <| ar (ro_move s9_8) rfl ?_
      (refine ar (ro_add' up_h ev_c ?_) rfl ?_; · ((first | unfold In64 | unfold InU64); omega))
      refine ar (ro_assign up_h) rfl <| ae5 (up_m rfl (u2 rfl s0_8)) (up_m rfl (u2 rfl s1_8)) (up_m rfl (u2 rfl s6_8)) up_h (up_m rfl (u2 rfl s8_8)) ?_; clear s0_8 s1_8 s27_8 s6_8 s7_8 s8_8 s9_8; intro e_10 s0_10 s1_10 s6_10 s7_10 s8_10
      refine block_n <| then_n <| ⟨⟨_, _⟩, ⟨s7_10, s8_10, (s0_10.trans s0_3.symm), (s1_10.trans s1_3.symm), (s6_10.trans s6_3.symm), ml_4, ?_⟩, ?_⟩
      · (first | (have hk : xs.getD ((i + j) / 2).toNat default < t := (by assumption); refine ⟨by omega, by omega, by omega, ?_, p5⟩; rw [show ((i + j) / 2 + 1).toNat = ((i + j) / 2).toNat + 1 by omega]; exact Blw.step hs (by omega) hk) | (have hk : t ≤ xs.getD ((i + j) / 2).toNat default := (by first | omega | (simp_all; done)); exact ⟨by omega, by omega, by omega, p4, Abo.step hs hk⟩))
      · ((try dsimp only); omega)
     replace hq_9 := bf hq_9
     refine at_ <| ar (ro_move s9_8) rfl <| ar (ro_assign up_h) rfl <| ae5 (u2 rfl s0_8) (u2 rfl s1_8) (u2 rfl s6_8) (u2 rfl s7_8) up_h ?_; clear s0_8 s1_8 s27_8 s6_8 s7_8 s8_8 s9_8; intro e_11 s0_11 s1_11 s6_11 s7_11 s8_11
     refine block_n <| then_n <| ⟨⟨_, _⟩, ⟨s7_11, s8_11, (s0_11.trans s0_3.symm), (s1_11.trans s1_3.symm), (s6_11.trans s6_3.symm), ml_4, ?_⟩, ?_⟩
     · (first | (have hk : xs.getD ((i + j) / 2).toNat default < t := (by assumption); refine ⟨by omega, by omega, by omega, ?_, p5⟩; rw [show ((i + j) / 2 + 1).toNat = ((i + j) / 2).toNat + 1 by omega]; exact Blw.step hs (by omega) hk) | (have hk : t ≤ xs.getD ((i + j) / 2).toNat default := (by first | omega | (simp_all; done)); exact ⟨by omega, by omega, by omega, p4, Abo.step hs hk⟩))
     · ((try dsimp only); omega)
    replace hq_6 := bf hq_6
    refine aw_exit <| then_x <| then_x <| block_hit <| then_n <| aw_seq <| at_ <| ar (ro_move s7_5) rfl <| ar (ro_move (up_m rfl s7_5)) rfl <| ar (ro_move (u2 rfl s6_5)) rfl <| ar (ro_lss (up_m rfl up_h) up_h) rfl <| ar (ro_move up_h) rfl <| al_case up_h (fun hb_12 hq_12 => ?_) (fun hb_12 hq_12 => ?_)
    ·replace hq_12 := bt hq_12
     refine al_ro' (ro_move (up_m rfl (u4 rfl s0_5))) ⟨_, rfl, hb_12⟩ rfl ?_
     refine al_ro' (ro_move (u2 rfl (u4 rfl s7_5))) ⟨_, rfl, (up_m rfl hb_12)⟩ rfl ?_
     refine al_ro' (ro_eq (ro_ix y17_sl49 (up_m rfl up_h) up_h (by omega) (by first | (refine idx_map ?_; first | omega | (simp only [lnS]; omega)) | (refine idx_mapI ?_; first | omega | (simp only [lnS]; omega)) | (refine idx_mapN ?_; first | omega | (simp only [lnS]; omega)) | rfl)) (by simp only [pS, Value.cells, Nat.reduceAdd] <;> rfl)) ⟨_, rfl, (u2 rfl hb_12)⟩ rfl ?_
     refine al_ro' (ro_eq (ro_ld_ref y17_ty3 rfl up_h (nle rfl)) (by simp only [pS, Value.cells, Nat.reduceAdd] <;> rfl)) ⟨_, rfl, (up_m rfl (u2 rfl hb_12))⟩ rfl ?_
     refine al_ro' (ro_move (up_m rfl (u8 rfl s1_5))) ⟨_, rfl, (u4 rfl hb_12)⟩ rfl ?_
     refine al_ro' (ro_eql (up_m rfl up_h) up_h) ⟨_, rfl, (up_m rfl (u4 rfl hb_12))⟩ rfl ?_
     refine al_ro' (ro_move up_h) ⟨_, rfl, (u2 rfl (u4 rfl hb_12))⟩ rfl ?_
     refine al_case up_h (fun hb_13 hq_13 => ?_) (fun hb_13 hq_13 => ?_)
     ·replace hq_13 := bt hq_13
      refine al_skip' ⟨_, rfl, .inl hb_13⟩ rfl ?_
      refine al_skip' ⟨_, rfl, .inl (up_m rfl hb_13)⟩ rfl ?_
      refine al_skip' ⟨_, rfl, .inl (u2 rfl hb_13)⟩ rfl ?_
      refine al_skip' ⟨_, rfl, .inl (up_m rfl (u2 rfl hb_13))⟩ rfl ?_
      refine al_skip' ⟨_, rfl, .inl (u4 rfl hb_13)⟩ rfl ?_
      refine al_skip' ⟨_, rfl, .inl (up_m rfl (u4 rfl hb_13))⟩ rfl ?_
      refine al_skip' ⟨_, rfl, .inr up_h⟩ rfl ?_
      refine al_skip' ⟨_, rfl, .inr (up_m rfl up_h)⟩ rfl ?_
      refine al_skip' ⟨_, rfl, .inl (u8 rfl hb_13)⟩ rfl ?_
      refine al_ro' (ro_pickT (up_m rfl (u8 rfl hb_13)) ev_c) ⟨_, rfl, (u16 rfl hb_12)⟩ rfl ?_
      refine ar (ro_pickT (up_m rfl (u16 rfl hb_12)) up_h) rfl <| ar (ro_assign (u2 rfl (u4 rfl (u16 rfl up_h)))) rfl <| ar (ro_assign (up_m rfl up_h)) rfl <| ae2 (up_m rfl up_h) up_h ?_; clear hb_12 hb_13 s0_5 s15_5 s1_5 s6_5 s7_5 s8_5; intro e_14 s4_14 s5_14
      refine then_n <| aw_ret <| ret2 (.inr rfl) (by kernel_rfl) (resV_tmp s4_14) (resV_tmp s5_14) (.ro _ rfl) (.ro _ rfl) ?_
      clear s4_14 s5_14  ml_4
      (have hlo := lowN_eq (by omega) p4 (show Abo xs t i.toNat by rwa [show i.toNat = j.toNat by omega]); have hi : ((i.toNat : Nat) : Int) = i := (by omega); rw [hlo, hi]; refine congrArg (fun b => AV.tuple [mA i, tbA b]) ?_; symm; first | exact decide_eq_true ⟨by omega, by assumption⟩ | exact decide_eq_false (fun h => absurd h.2 (by assumption)) | exact decide_eq_false (fun h => by have := h.1; omega))
     replace hq_13 := bf hq_13
     refine al_ro' (ro_move (u4 rfl (u8 rfl s0_5))) ⟨_, rfl, hb_13⟩ rfl ?_
     refine al_ro' (ro_move (up_m rfl (u4 rfl (u8 rfl s7_5)))) ⟨_, rfl, (up_m rfl hb_13)⟩ rfl ?_
     refine al_ro' (ro_eq (ro_ix y17_sl49 (up_m rfl up_h) up_h (by omega) (by first | (refine idx_map ?_; first | omega | (simp only [lnS]; omega)) | (refine idx_mapI ?_; first | omega | (simp only [lnS]; omega)) | (refine idx_mapN ?_; first | omega | (simp only [lnS]; omega)) | rfl)) (by simp only [pS, Value.cells, Nat.reduceAdd] <;> rfl)) ⟨_, rfl, (u2 rfl hb_13)⟩ rfl ?_
     refine al_ro' (ro_eq (ro_ld_ref y17_ty3 rfl up_h (nle rfl)) (by simp only [pS, Value.cells, Nat.reduceAdd] <;> rfl)) ⟨_, rfl, (up_m rfl (u2 rfl hb_13))⟩ rfl ?_
     refine al_ro' (ro_call (evL_cons up_h evL_nil) rfl (sNaN_ok _) y17_hcf169) ⟨_, rfl, (u4 rfl hb_13)⟩ rfl ?_
     refine al_ro' (ro_move up_h) ⟨_, rfl, (up_m rfl (u4 rfl hb_13))⟩ rfl ?_
     refine al_case up_h (fun hb_15 hq_15 => ?_) (fun hb_15 hq_15 => ?_)
     · cases hq_15
     refine al_skip' ⟨_, rfl, .inl hb_15⟩ rfl ?_
     refine al_skip' ⟨_, rfl, .inl (up_m rfl hb_15)⟩ rfl ?_
     refine al_ro' (ro_pickF (u2 rfl hb_15) ev_c) ⟨_, rfl, (u8 rfl hb_13)⟩ rfl ?_
     refine al_ro' (ro_pickF (up_m rfl (u8 rfl hb_13)) up_h) ⟨_, rfl, (u16 rfl hb_12)⟩ rfl ?_
     refine ar (ro_pickT (up_m rfl (u16 rfl hb_12)) up_h) rfl <| ar (ro_assign (u2 rfl (u4 rfl (u16 rfl up_h)))) rfl <| ar (ro_assign (up_m rfl up_h)) rfl <| ae2 (up_m rfl up_h) up_h ?_; clear hb_12 hb_13 hb_15 s0_5 s15_5 s1_5 s6_5 s7_5 s8_5; intro e_17 s4_17 s5_17
     refine then_n <| aw_ret <| ret2 (.inr rfl) (by kernel_rfl) (resV_tmp s4_17) (resV_tmp s5_17) (.ro _ rfl) (.ro _ rfl) ?_
     clear s4_17 s5_17  ml_4
     (have hlo := lowN_eq (by omega) p4 (show Abo xs t i.toNat by rwa [show i.toNat = j.toNat by omega]); have hi : ((i.toNat : Nat) : Int) = i := (by omega); rw [hlo, hi]; refine congrArg (fun b => AV.tuple [mA i, tbA b]) ?_; symm; first | exact decide_eq_true ⟨by omega, by assumption⟩ | exact decide_eq_false (fun h => absurd h.2 (by assumption)) | exact decide_eq_false (fun h => by have := h.1; omega))
    replace hq_12 := bf hq_12
    refine al_skip' ⟨_, rfl, .inl hb_12⟩ rfl ?_
    refine al_skip' ⟨_, rfl, .inl (up_m rfl hb_12)⟩ rfl ?_
    refine al_skip' ⟨_, rfl, .inl (u2 rfl hb_12)⟩ rfl ?_
    refine al_skip' ⟨_, rfl, .inl (up_m rfl (u2 rfl hb_12))⟩ rfl ?_
    refine al_skip' ⟨_, rfl, .inl (u4 rfl hb_12)⟩ rfl ?_
    refine al_skip' ⟨_, rfl, .inl (up_m rfl (u4 rfl hb_12))⟩ rfl ?_
    refine al_skip' ⟨_, rfl, .inl (u2 rfl (u4 rfl hb_12))⟩ rfl ?_
    refine al_skip' ⟨_, rfl, .inr up_h⟩ rfl ?_
    refine al_skip' ⟨_, rfl, .inr (up_m rfl up_h)⟩ rfl ?_
    refine al_skip' ⟨_, rfl, .inr (u2 rfl up_h)⟩ rfl ?_
    refine al_skip' ⟨_, rfl, .inr (up_m rfl (u2 rfl up_h))⟩ rfl ?_
    refine al_skip' ⟨_, rfl, .inr (u4 rfl up_h)⟩ rfl ?_
    refine al_skip' ⟨_, rfl, .inr (up_m rfl (u4 rfl up_h))⟩ rfl ?_
    refine al_skip' ⟨_, rfl, .inr up_h⟩ rfl ?_
    refine al_skip' ⟨_, rfl, .inr (up_m rfl up_h)⟩ rfl ?_
    refine al_skip' ⟨_, rfl, .inr (u8 rfl up_h)⟩ rfl ?_
    refine al_skip' ⟨_, rfl, .inl (u16 rfl hb_12)⟩ rfl ?_
    refine ar (ro_pickF (up_m rfl (u16 rfl hb_12)) ev_c) rfl <| ar (ro_assign (u2 rfl (u4 rfl (u16 rfl up_h)))) rfl <| ar (ro_assign (up_m rfl up_h)) rfl <| ae2 (up_m rfl up_h) up_h ?_; clear hb_12 s0_5 s15_5 s1_5 s6_5 s7_5 s8_5; intro e_18 s4_18 s5_18
    refine then_n <| aw_ret <| ret2 (.inr rfl) (by kernel_rfl) (resV_tmp s4_18) (resV_tmp s5_18) (.ro _ rfl) (.ro _ rfl) ?_
    clear s4_18 s5_18  ml_4
    (have hlo := lowN_eq (by omega) p4 (show Abo xs t i.toNat by rwa [show i.toNat = j.toNat by omega]); have hi : ((i.toNat : Nat) : Int) = i := (by omega); rw [hlo, hi]; refine congrArg (fun b => AV.tuple [mA i, tbA b]) ?_; symm; first | exact decide_eq_true ⟨by omega, by assumption⟩ | exact decide_eq_false (fun h => absurd h.2 (by assumption)) | exact decide_eq_false (fun h => by have := h.1; omega))
/-- The last beam whose first joint is at most at a place. -/
def beaN (bs : List Bea) (p : Int) : Nat → Nat
  | 0 => 0
  | n + 1 => if plaP bs n ≤ p then n else beaN bs p n
theorem beaN_at {bs : List Bea} {p : Int} (h0 : 0 ≤ p) : ∀ {n : Nat}, 1 ≤ n → beaN bs p n < n ∧ plaP bs (beaN bs p n) ≤ p ∧ ∀ j : Nat, beaN bs p n < j → j < n → p < plaP bs j
  | n + 1, _ => by
    simp only [beaN]
    by_cases h : plaP bs n ≤ p
    · rw [if_pos h]; exact ⟨by omega, h, fun j h1 h2 => by omega⟩
    · rw [if_neg h]
      rcases Nat.eq_zero_or_pos n with hn | hn
      · subst hn; simp [plaP] at h; omega
      · obtain ⟨h1, h2, h3⟩ := beaN_at (bs := bs) h0 (n := n) hn
        refine ⟨by omega, h2, fun j h4 h5 => ?_⟩
        by_cases hj : j = n
        · subst hj; omega
        · exact h3 j h4 (by omega)
theorem Rgt.mono {l : Lin} (h : Rgt l) {i : Nat} : ∀ {j : Nat}, i ≤ j → j ≤ l.bs.length → plaP l.bs i + 1000 * ((j : Int) - i) ≤ plaP l.bs j
  | 0, h1, _ => by obtain rfl : i = 0 := by omega
                   omega
  | j + 1, h1, h2 => by
    by_cases hij : i = j + 1
    · subst hij; omega
    · have := h.mono (i := i) (j := j) (by omega) (by omega)
      have := h.bea j (by omega)
      simp only [plaP]
      omega
theorem beaN_is {l : Lin} (h : Rgt l) {p : Int} {i : Nat} (hi : i < l.bs.length) (h1 : plaP l.bs i ≤ p) (h2 : i + 1 < l.bs.length → p < plaP l.bs (i + 1)) : beaN l.bs p l.bs.length = i := by
  have h0 : 0 ≤ p := by have := (h.pla (n := i) (by omega)).1; omega
  obtain ⟨b1, b2, b3⟩ := beaN_at (bs := l.bs) h0 (n := l.bs.length) h.n0
  rcases Nat.lt_trichotomy (beaN l.bs p l.bs.length) i with hlt | he | hgt
  · have := b3 i hlt hi; omega
  · exact he
  · have := h.mono (i := i + 1) (j := beaN l.bs p l.bs.length) (by omega) (by omega)
    have := h2 (by omega)
    omega
theorem Rgt.srt {l : Lin} (h : Rgt l) : Srt (plaL l.bs l.bs.length) := fun i j hij hj => by
  rw [plaL_len] at hj
  rw [plaL_get (by omega), plaL_get (by omega)]
  have := h.mono hij (by omega)
  omega
theorem lowN_at {xs : List Int} {t : Int} : lowN xs t ≤ xs.length ∧ Blw xs t (lowN xs t) ∧ (lowN xs t < xs.length → t ≤ xs.getD (lowN xs t) default) := by
  induction xs with
  | nil => exact ⟨by simp [lowN], fun k hk => by simp [lowN] at hk, fun h => by simp [lowN] at h⟩
  | cons x xs ih =>
    obtain ⟨h1, h2, h3⟩ := ih
    by_cases hx : x < t
    · have e : lowN (x :: xs) t = lowN xs t + 1 := by simp [lowN, hx]
      rw [e]
      refine ⟨by simp; omega, fun k hk => ?_, fun h => ?_⟩
      · cases k with
        | zero => simpa using hx
        | succ k => have := h2 k (by omega); simpa using this
      · have := h3 (by simp at h; omega); simpa using this
    · have e : lowN (x :: xs) t = 0 := by simp [lowN, hx]
      rw [e]
      exact ⟨by simp, fun k hk => by omega, fun _ => by simp; omega⟩
/-- What the search comes to is the beam. -/
theorem at_is {l : Lin} (h : Rgt l) {p : Int} (h0 : 0 ≤ p) (h1 : p ≤ plaP l.bs l.bs.length) (i : Nat) (hi : i = lowN (plaL l.bs l.bs.length) p) : i ≤ l.bs.length ∧ (i < l.bs.length + 1 → (plaL l.bs l.bs.length).getD i default = plaP l.bs i) ∧
    (plaP l.bs i = p → (beaN l.bs p l.bs.length : Int) = min (i : Int) (l.bs.length - 1)) ∧ (plaP l.bs i ≠ p → 1 ≤ i ∧ (beaN l.bs p l.bs.length : Int) = min ((i : Int) - 1) (l.bs.length - 1)) := by
  subst hi
  obtain ⟨a1, a2, a3⟩ := lowN_at (xs := plaL l.bs l.bs.length) (t := p)
  rw [plaL_len] at a1 a3
  have hn0 := h.n0
  have hile : lowN (plaL l.bs l.bs.length) p ≤ l.bs.length := by
    rcases Nat.lt_or_ge (lowN (plaL l.bs l.bs.length) p) (l.bs.length + 1) with h2 | h2
    · omega
    · have := a2 l.bs.length (by omega)
      rw [plaL_get (Nat.le_refl _)] at this
      omega
  have a4 := a3 (by omega)
  rw [plaL_get hile] at a4
  have low : ∀ k : Nat, k < lowN (plaL l.bs l.bs.length) p → plaP l.bs k < p := fun k hk => by
    have := a2 k hk; rwa [plaL_get (by omega)] at this
  generalize hi : lowN (plaL l.bs l.bs.length) p = i at *
  refine ⟨hile, fun h => plaL_get (by omega), fun he => ?_, fun hne => ?_⟩
  · by_cases hlast : i = l.bs.length
    · have hb : beaN l.bs p l.bs.length = l.bs.length - 1 := beaN_is h (by omega) (by have := low (l.bs.length - 1) (by omega); omega) (fun hh => by omega)
      rw [hb]; omega
    · have hb : beaN l.bs p l.bs.length = i := beaN_is h (by omega) (by omega) (fun hh => by have := h.mono (i := i) (j := i + 1) (by omega) (by omega); omega)
      rw [hb]; omega
  · have hi1 : 1 ≤ i := by
      rcases Nat.eq_zero_or_pos i with h2 | h2
      · rw [h2] at hne a4; simp only [plaP] at hne a4; omega
      · exact h2
    have hb : beaN l.bs p l.bs.length = i - 1 := beaN_is h (by omega) (by have := low (i - 1) (by omega); omega) (fun hh => by rw [show i - 1 + 1 = i by omega]; omega)
    rw [hb]
    exact ⟨hi1, by omega⟩
set_option maxRecDepth 100000 in
set_option maxHeartbeats 4000000 in
theorem at_ok (l : Lin) (h : Rgt l) (p : Int) (h0 : 0 ≤ p) (h1 : p ≤ plaP l.bs l.bs.length) : FnOk Try.prog 131 [tkA l, mA p] (fun q => q = .tuple [mA (beaN l.bs p l.bs.length), mA (p - plaP l.bs (beaN l.bs p l.bs.length))]) := by
  refine fnOk_of (fn := Try.f131) 40 (by kernel_rfl) rfl (by kernel_rfl) (Nat.le_of_ble_eq_true rfl) ?_
  intro e_0 m_0 hA hm_0
  have s0_0 : evA e_0 (.tmp 0) = _ := hA 0 _ rfl
  have s1_0 : evA e_0 (.tmp 1) = _ := hA 1 _ rfl
  have ml_0 : m_0.length = 0 := by rw [hm_0]; rfl
  clear hA hm_0
  have hn1 := h.n1; have hn0 := h.n0; have hpl := plaL_len (bs := l.bs) (n := l.bs.length); have hpb := h.pla (n := l.bs.length) (Nat.le_refl _); obtain ⟨g1, g2, g3, g4⟩ := at_is h h0 h1 _ rfl; obtain ⟨b1, _, _⟩ := beaN_at (bs := l.bs) h0 (n := l.bs.length) h.n0; have hbp := h.pla (n := beaN l.bs p l.bs.length) (by omega)
  refine aw_seq <| at_ <| ar (ro_assign ev_c) rfl <| ar (ro_assign ev_c) rfl <| ae2 (u2 rfl s0_0) (u2 rfl s1_0) ?_; clear s0_0 s1_0; intro e_1 s0_1 s1_1
  refine then_n <| aw_seq <| at_ <| ar (ro_move s0_1) rfl <| ar (ro_nilR up_h) rfl <| ar (ro_eq (ro_fld_ref y17_fl141_1 rfl up_h) (by simp only [pS, Value.cells, Nat.reduceAdd] <;> rfl)) rfl ?_
  refine ar (ro_eq (ro_ld_ref y17_ty49 rfl up_h (nle rfl)) (by simp only [pS, Value.cells, Nat.reduceAdd] <;> rfl)) rfl ?_
  refine ar (ro_move (u4 rfl s1_1)) rfl <| ar (ro_call (evL_cons (up_m rfl up_h) (evL_cons up_h evL_nil)) rfl (search_ok _ _ h.srt (by omega)) y17_hcf159) rfl ?_
  refine ar (ro_move up_h) rfl <| ar (ro_extract up_h rfl) rfl <| ar (ro_extract (up_m rfl up_h) rfl) rfl <| ar (ro_assign (up_m rfl up_h)) rfl <| ar (ro_assign (up_m rfl up_h)) rfl <| ae4 (up_m rfl (u2 rfl (u8 rfl s0_1))) (up_m rfl (u2 rfl (u8 rfl s1_1))) (up_m rfl up_h) up_h ?_; clear s0_1 s1_1; intro e_2 s0_2 s1_2 s6_2 s7_2
  refine then_n <| aw_seq <| aw_seq <| at_ <| ar (ro_move s7_2) rfl <| ar (ro_not up_h) rfl <| ae4 (u2 rfl s0_2) (u2 rfl s1_2) (u2 rfl s6_2) up_h ?_; clear s0_2 s1_2 s6_2 s7_2; intro e_3 s0_3 s1_3 s6_3 s18_3
  refine then_n <| aw_case s18_3 (fun hq_4 => ?_) (fun hq_4 => ?_)
  ·replace hq_4 := bnt hq_4
   (have hf : ¬ (lowN (plaL l.bs l.bs.length) p < (plaL l.bs l.bs.length).length ∧ (plaL l.bs l.bs.length).getD (lowN (plaL l.bs l.bs.length) p) default = p) := (by assumption); have e1 := (g4 (fun he => hf ⟨by omega, by rw [g2 (by omega)]; exact he⟩)).2)
   refine at_ <| ar (ro_move s6_3) rfl ?_
   (refine ar (ro_sub' up_h ev_c ?_) rfl ?_; · (unfold In64; omega))
   refine ar (ro_assign up_h) rfl <| ae3 (up_m rfl (u2 rfl s0_3)) (up_m rfl (u2 rfl s1_3)) up_h ?_; clear s0_3 s18_3 s1_3 s6_3; intro e_5 s0_5 s1_5 s6_5
   refine then_n <| aw_seq <| at_ <| ar (ro_move s6_5) rfl <| ar (ro_move (up_m rfl s0_5)) rfl <| ar (ro_nilR up_h) rfl <| ar (ro_eq (ro_fld_ref y17_fl141_0 rfl up_h) (by simp only [pS, Value.cells, Nat.reduceAdd] <;> rfl)) rfl ?_
   refine ar (ro_eq (ro_fld_ref y17_fl26_2 rfl up_h) (by simp only [pS, Value.cells, Nat.reduceAdd] <;> rfl)) rfl ?_
   refine ar (ro_eq (ro_ld_ref y17_ty23 rfl up_h (nle rfl)) (by simp only [pS, Value.cells, Nat.reduceAdd] <;> rfl)) rfl ?_
   refine ar (ro_eq (ro_len_row up_h rfl y17_sl23.1) (by simp only [lnS] <;> rfl)) rfl ?_
   (refine ar (ro_sub' up_h ev_c ?_) rfl ?_; · (unfold In64; omega))
   refine ar (ro_min (up_m rfl (u2 rfl (u4 rfl up_h))) up_h) rfl <| ar (ro_assign up_h) rfl <| ae3 (u2 rfl (u8 rfl s0_5)) (u2 rfl (u8 rfl s1_5)) up_h ?_; clear s0_5 s1_5 s6_5; intro e_6 s0_6 s1_6 s6_6
   refine then_n <| aw_seq <| aw_draw 12 (by kernel_rfl) (by kernel_rfl) (by kernel_rfl) (by kernel_rfl) ?_
   refine dr (ro_move s6_6) rfl <| dr (ro_move (up_m rfl s1_6)) rfl <| dr (ro_move (u2 rfl s0_6)) rfl <| dr (ro_nilR up_h) rfl <| dr (ro_eq (ro_fld_ref y17_fl141_1 rfl up_h) (by simp only [pS, Value.cells, Nat.reduceAdd] <;> rfl)) rfl ?_
   refine dr (ro_eq (ro_ld_ref y17_ty49 rfl up_h (nle rfl)) (by simp only [pS, Value.cells, Nat.reduceAdd] <;> rfl)) rfl ?_
   refine dr (ro_move (u2 rfl (u4 rfl s6_6))) rfl <| dr (ro_eq (ro_ix y17_sl49 (up_m rfl up_h) up_h (by omega) (by first | (refine idx_map ?_; first | omega | (simp only [lnS]; omega)) | (refine idx_mapI ?_; first | omega | (simp only [lnS]; omega)) | (refine idx_mapN ?_; first | omega | (simp only [lnS]; omega)) | rfl)) (by simp only [pS, Value.cells, Nat.reduceAdd] <;> rfl)) rfl ?_
   refine dr (ro_eq (ro_ld_ref y17_ty3 rfl up_h (nle rfl)) (by simp only [pS, Value.cells, Nat.reduceAdd] <;> rfl)) rfl ?_
   refine dr (ro_sub (up_m rfl (u2 rfl (u4 rfl up_h))) up_h) rfl <| dr (ro_assign (up_m rfl (u8 rfl up_h))) rfl <| dr (ro_assign (up_m rfl up_h)) rfl <| ds_nil <| ae2 (up_m rfl up_h) up_h ?_; clear s0_6 s1_6 s6_6; intro e_7 s4_7 s5_7
   refine then_n <| aw_ret <| ret2 (.inr rfl) (by kernel_rfl) (resV_tmp s4_7) (resV_tmp s5_7) (.ro _ rfl) (.ro _ rfl) ?_
   clear s4_7 s5_7  ml_0
   (rw [← e1, Int.toNat_natCast, plaL_get (by omega), wrap_in (by unfold In64; omega)])
  replace hq_4 := bnf hq_4
  (have hf : (lowN (plaL l.bs l.bs.length) p < (plaL l.bs l.bs.length).length ∧ (plaL l.bs l.bs.length).getD (lowN (plaL l.bs l.bs.length) p) default = p) := (by assumption); have e1 := g3 (by rw [← g2 (by omega)]; exact hf.2))
  refine aw_skip <| then_n <| aw_seq <| at_ <| ar (ro_move s6_3) rfl <| ar (ro_move (up_m rfl s0_3)) rfl <| ar (ro_nilR up_h) rfl <| ar (ro_eq (ro_fld_ref y17_fl141_0 rfl up_h) (by simp only [pS, Value.cells, Nat.reduceAdd] <;> rfl)) rfl ?_
  refine ar (ro_eq (ro_fld_ref y17_fl26_2 rfl up_h) (by simp only [pS, Value.cells, Nat.reduceAdd] <;> rfl)) rfl ?_
  refine ar (ro_eq (ro_ld_ref y17_ty23 rfl up_h (nle rfl)) (by simp only [pS, Value.cells, Nat.reduceAdd] <;> rfl)) rfl ?_
  refine ar (ro_eq (ro_len_row up_h rfl y17_sl23.1) (by simp only [lnS] <;> rfl)) rfl ?_
  (refine ar (ro_sub' up_h ev_c ?_) rfl ?_; · (unfold In64; omega))
  refine ar (ro_min (up_m rfl (u2 rfl (u4 rfl up_h))) up_h) rfl <| ar (ro_assign up_h) rfl <| ae3 (u2 rfl (u8 rfl s0_3)) (u2 rfl (u8 rfl s1_3)) up_h ?_; clear s0_3 s18_3 s1_3 s6_3; intro e_8 s0_8 s1_8 s6_8
  refine then_n <| aw_seq <| aw_draw 12 (by kernel_rfl) (by kernel_rfl) (by kernel_rfl) (by kernel_rfl) ?_
  refine dr (ro_move s6_8) rfl <| dr (ro_move (up_m rfl s1_8)) rfl <| dr (ro_move (u2 rfl s0_8)) rfl <| dr (ro_nilR up_h) rfl <| dr (ro_eq (ro_fld_ref y17_fl141_1 rfl up_h) (by simp only [pS, Value.cells, Nat.reduceAdd] <;> rfl)) rfl ?_
  refine dr (ro_eq (ro_ld_ref y17_ty49 rfl up_h (nle rfl)) (by simp only [pS, Value.cells, Nat.reduceAdd] <;> rfl)) rfl ?_
  refine dr (ro_move (u2 rfl (u4 rfl s6_8))) rfl <| dr (ro_eq (ro_ix y17_sl49 (up_m rfl up_h) up_h (by omega) (by first | (refine idx_map ?_; first | omega | (simp only [lnS]; omega)) | (refine idx_mapI ?_; first | omega | (simp only [lnS]; omega)) | (refine idx_mapN ?_; first | omega | (simp only [lnS]; omega)) | rfl)) (by simp only [pS, Value.cells, Nat.reduceAdd] <;> rfl)) rfl ?_
  refine dr (ro_eq (ro_ld_ref y17_ty3 rfl up_h (nle rfl)) (by simp only [pS, Value.cells, Nat.reduceAdd] <;> rfl)) rfl ?_
  refine dr (ro_sub (up_m rfl (u2 rfl (u4 rfl up_h))) up_h) rfl <| dr (ro_assign (up_m rfl (u8 rfl up_h))) rfl <| dr (ro_assign (up_m rfl up_h)) rfl <| ds_nil <| ae2 (up_m rfl up_h) up_h ?_; clear s0_8 s1_8 s6_8; intro e_9 s4_9 s5_9
  refine then_n <| aw_ret <| ret2 (.inr rfl) (by kernel_rfl) (resV_tmp s4_9) (resV_tmp s5_9) (.ro _ rfl) (.ro _ rfl) ?_
  clear s4_9 s5_9  ml_0
  (rw [← e1, Int.toNat_natCast, plaL_get (by omega), wrap_in (by unfold In64; omega)])
end Go.Proofs.Ytonjcljnpcmenaa

/- Contracts: a quotient in lowest terms. No conditions on a program. -/
namespace Go.Proofs.Ytonjcljnpcmenaa
open Go Go.RowKit Go.Proofs
set_option linter.unusedSimpArgs false
set_option linter.unusedVariables false
theorem y18_az81 : (Try.prog.info? 81).bind (·.zero) = some (.agg #[.int .i64 0, .int .i64 0]) := by kernel_rfl
theorem y18_bz81 : (Try.prog.info? 81).bind (·.zero) = some (.agg #[.int .i64 0, .int .i64 0]) := by kernel_rfl
theorem y18_bu81 : Try.prog.underlying 81 = some (.struct (fsOf Try.prog 81)) := by kernel_rfl
theorem y18_bp81 : ∀ w, ((fsOf Try.prog 81).mapM fun f => Prod.mk f.offset <$> sizeOf f.type : Sem (Array (Nat × Nat))).run Try.prog w = .ok (#[(0, 1), (1, 1)]) w := fun _ => by kernel_rfl
theorem y18_sz81 : (Try.prog.info? 81).map (·.size) = some 2 := by kernel_rfl
theorem y18_ty81 : TyIs Try.prog 81 true 2 := ⟨by kernel_rfl, by kernel_rfl⟩

theorem tmod_lt {x y : Int} (hy : y ≠ 0) : (x.tmod y).natAbs < y.natAbs := by rw [Int.natAbs_tmod]; exact Nat.mod_lt _ (Int.natAbs_pos.2 hy)
theorem tmod_gcd (x y : Int) : Int.gcd y (x.tmod y) = Int.gcd x y := by
  unfold Int.gcd
  rw [Int.natAbs_tmod, Nat.gcd_comm y.natAbs, ← Nat.gcd_rec, Nat.gcd_comm]
theorem tdiv_bd {m : Int} (hm : -4000000000000000000 ≤ m ∧ m ≤ 4000000000000000000) (n : Int) : -4000000000000000000 ≤ m.tdiv n ∧ m.tdiv n ≤ 4000000000000000000 := by
  have := Int.natAbs_tdiv_le_natAbs m n
  omega
/-- A quotient in lowest terms. -/
def fraN (n b : Int) : Int := n.tdiv (Int.gcd n b)
def fraD (n b : Int) : Int := b.tdiv (Int.gcd n b)
def frA (x y : Int) : AV := .agg [mA x, mA y]
set_option maxRecDepth 100000 in
set_option maxHeartbeats 4000000 in
theorem frac_ok (n b : Int) (hn : -4000000000000000000 ≤ n ∧ n ≤ 4000000000000000000) (hb : 0 < b ∧ b ≤ 4000000000000000000) : FnOk Try.prog 105 [mA n, mA b] (fun q => q = frA (fraN n b) (fraD n b)) := by
  refine fnOk_of (fn := Try.f105) 26 (by kernel_rfl) rfl (by kernel_rfl) (Nat.le_of_ble_eq_true rfl) ?_
  intro e_0 m_0 hA hm_0
  have s0_0 : evA e_0 (.tmp 0) = _ := hA 0 _ rfl
  have s1_0 : evA e_0 (.tmp 1) = _ := hA 1 _ rfl
  have ml_0 : m_0.length = 0 := by rw [hm_0]; rfl
  clear hA hm_0
  refine aw_seq <| at_ <| al_stm (st_alloc y18_az81 rfl ml_0) trivial rfl (fun m_1 hm_1 => ?_)
  have mo0_1 := m_push hm_1 ml_0
  simp only [pS, Value.cells, Nat.reduceAdd] at mo0_1
  have ml_1 := m_push_l hm_1 ml_0
  have ml_1 : _ = 1 := ml_1
  clear hm_1
  refine ae3 (up_m rfl s0_0) (up_m rfl s1_0) up_h ?_; clear s0_0 s1_0; intro e_2 s0_2 s1_2 s4_2
  refine then_n <| aw_seq <| at_ <| ar (ro_move s0_2) rfl <| ar (ro_move (up_m rfl s1_2)) rfl <| ar (ro_assign (up_m rfl up_h)) rfl <| ar (ro_assign (up_m rfl up_h)) rfl <| ae5 (u4 rfl s0_2) (u4 rfl s1_2) (u4 rfl s4_2) (up_m rfl up_h) up_h ?_; clear s0_2 s1_2 s4_2; intro e_3 s0_3 s1_3 s4_3 s5_3 s6_3
  refine then_n <| aw_seq <| aw_block <| aw_loop (S := (Int × Int)) (fun s e mem => match s with | ⟨x, y⟩ => (evA e (.tmp 5) = .v (.int .i64 x)) ∧ (evA e (.tmp 6) = .v (.int .i64 y)) ∧ (evA e (.tmp 0) = evA e_3 (.tmp 0)) ∧ (evA e (.tmp 1) = evA e_3 (.tmp 1)) ∧ (evA e (.tmp 4) = evA e_3 (.tmp 4)) ∧ (mem[0]? = m_1[0]?) ∧ (mem.length = 1) ∧ (((-4000000000000000000 ≤ x ∧ x ≤ 4000000000000000000) ∧ (-4000000000000000000 ≤ y ∧ y ≤ 4000000000000000000) ∧ Int.gcd x y = Int.gcd n b))) (fun s => match s with | ⟨x, y⟩ => y.natAbs) ⟨_, _⟩ ⟨s5_3, s6_3, rfl, rfl, rfl, rfl, ml_1, ?_⟩ ?_
  · (exact ⟨hn, by omega, rfl⟩)
  · rintro ⟨x, y⟩ e_4 m_4 ⟨s5_4, s6_4, k0_4, k1_4, k4_4, mk0_4, ml_4, hinv⟩
    have s0_4 := k0_4.trans s0_3
    have s1_4 := k1_4.trans s1_3
    have s4_4 := k4_4.trans s4_3
    have mo0_4 := mk0_4.trans mo0_1
    (obtain ⟨p1, p2, p3⟩ := hinv)
    refine aw_seq <| aw_seq <| at_ <| ar (ro_move s6_4) rfl <| ar (ro_neq up_h ev_c) rfl <| ae6 (u2 rfl s0_4) (u2 rfl s1_4) (u2 rfl s4_4) (u2 rfl s5_4) (u2 rfl s6_4) up_h ?_; clear s0_4 s1_4 s4_4 s5_4 s6_4; intro e_5 s0_5 s1_5 s4_5 s5_5 s6_5 s10_5
    refine then_n <| aw_case s10_5 (fun hq_6 => ?_) (fun hq_6 => ?_)
    ·replace hq_6 := bnt hq_6
     refine aw_skip <| then_n <| aw_block <| aw_draw 6 (by kernel_rfl) (by kernel_rfl) (by kernel_rfl) (by kernel_rfl) ?_
     refine dr (ro_move s6_5) rfl <| dr (ro_move (up_m rfl s5_5)) rfl <| dr (ro_move (u2 rfl s6_5)) rfl <| dr (ro_rem (up_m rfl up_h) up_h (by omega)) rfl ?_
     refine dr (ro_assign (up_m rfl (u2 rfl up_h))) rfl <| dr (ro_assign (up_m rfl up_h)) rfl <| ds_nil <| ae5 (u2 rfl (u4 rfl s0_5)) (u2 rfl (u4 rfl s1_5)) (u2 rfl (u4 rfl s4_5)) (up_m rfl up_h) up_h ?_; clear s0_5 s10_5 s1_5 s4_5 s5_5 s6_5; intro e_7 s0_7 s1_7 s4_7 s5_7 s6_7
     refine block_n <| then_n <| ⟨⟨_, _⟩, ⟨s5_7, s6_7, (s0_7.trans s0_3.symm), (s1_7.trans s1_3.symm), (s4_7.trans s4_3.symm), (mo0_4.trans mo0_1.symm), ml_4, ?_⟩, ?_⟩
     · (have hy : y ≠ 0 := (by assumption); have := tmod_lt (x := x) hy; refine ⟨p2, by omega, ?_⟩; rw [tmod_gcd, p3])
     · ((try dsimp only); (exact tmod_lt (by assumption)))
    replace hq_6 := bnf hq_6
    (have hy : y = 0 := (by omega); have hg : max x (-x) = (Int.gcd n b : Int) := (by rw [← p3, hy, Int.gcd_zero_right]; omega); have hgp : 0 < Int.gcd n b := Int.gcd_pos_of_ne_zero_right _ (by omega); have t1 := tdiv_bd hn (max x (-x)); have t2 := tdiv_bd (m := b) (by omega) (max x (-x)))
    refine aw_exit <| then_x <| then_x <| block_hit <| then_n <| aw_seq <| at_ <| ar (ro_move s5_5) rfl <| ar (ro_move (up_m rfl s5_5)) rfl ?_
    (refine ar (ro_neg' up_h ?_) rfl ?_; · (unfold In64; omega))
    refine ar (ro_max (u2 rfl up_h) up_h) rfl <| ar (ro_assign up_h) rfl <| ae4 (up_m rfl (u4 rfl s0_5)) (up_m rfl (u4 rfl s1_5)) (up_m rfl (u4 rfl s4_5)) up_h ?_; clear s0_5 s10_5 s1_5 s4_5 s5_5 s6_5; intro e_8 s0_8 s1_8 s4_8 s5_8
    refine then_n <| aw_seq <| aw_draw 7 (by kernel_rfl) (by kernel_rfl) (by kernel_rfl) (by kernel_rfl) ?_
    refine dr (ro_move s0_8) rfl <| dr (ro_move (up_m rfl s5_8)) rfl ?_
    (refine dr (ro_quo' (up_m rfl up_h) up_h (by omega) ?_) rfl ?_; · (unfold In64; omega))
    refine dr (ro_move (up_m rfl (u2 rfl s1_8))) rfl <| dr (ro_move (u4 rfl s5_8)) rfl ?_
    (refine dr (ro_quo' (up_m rfl up_h) up_h (by omega) ?_) rfl ?_; · (unfold In64; omega))
    refine dr (ro_build (evP_cons (up_m rfl (u2 rfl up_h)) (evP_cons up_h evP_nil)) y18_bz81 y18_bu81 y18_bp81 rfl) rfl ?_
    refine ds_nil <| al_stm (st_store (up_m rfl (u2 rfl (u4 rfl s4_8))) up_h rfl rfl mo0_4 y18_sz81 rfl (nle rfl)) trivial rfl (fun m_9 hm_9 => ?_)
    have mo0_9 := m_set hm_9 mo0_4
    simp only [pS, Value.cells, Nat.reduceAdd] at mo0_9
    have ml_9 := m_set_l hm_9 ml_4
    clear hm_9 mo0_4
    refine ae1 (up_n (up_m rfl (u2 rfl (u4 rfl s4_8)))) ?_; clear s0_8 s1_8 s4_8 s5_8; intro e_10 s4_10
    refine then_n <| aw_ret <| ret1 (.inr rfl) (by kernel_rfl) (resV_cell s4_10 mo0_9 y18_ty81 (nle rfl) (by simp)) (vw_r (.ro _ rfl)) ?_
    clear s4_10 mo0_9 ml_9
    (unfold frA fraN fraD; rw [hg]; rfl)
end Go.Proofs.Ytonjcljnpcmenaa

/- Contracts of chapter 1: how far across and up a place is. No conditions on a program. -/
namespace Go.Proofs.Ytonjcljnpcmenaa
open Go Go.RowKit Go.Proofs
set_option linter.unusedSimpArgs false
set_option linter.unusedVariables false
theorem mul_in {x y : Int} (X Y : Nat) (hx : x.natAbs ≤ X) (hy : y.natAbs ≤ Y) : (x * y).natAbs ≤ X * Y := by rw [Int.natAbs_mul]; exact Nat.mul_le_mul hx hy
theorem toNat_suc (n : Nat) : ((n : Int) + 1).toNat = n + 1 := by omega
/-- The beam at a place, how far behind its first joint this is. -/
def atI (l : Lin) (p : Int) : Nat := beaN l.bs p l.bs.length
def atD (l : Lin) (p : Int) : Int := p - plaP l.bs (atI l p)
theorem at_bd {l : Lin} (h : Rgt l) {p : Int} (hp : 0 ≤ p ∧ p ≤ plaP l.bs l.bs.length) : atI l p < l.bs.length ∧ 0 ≤ atD l p ∧ atD l p ≤ (l.bs.getD (atI l p) default).len := by
  obtain ⟨b1, b2, b3⟩ := beaN_at (bs := l.bs) hp.1 (n := l.bs.length) h.n0
  refine ⟨b1, by unfold atD atI; omega, ?_⟩
  unfold atD atI
  by_cases hn : beaN l.bs p l.bs.length + 1 < l.bs.length
  · have := b3 _ (Nat.lt_succ_self _) hn
    simp only [plaP] at this; omega
  · have he : l.bs.length = beaN l.bs p l.bs.length + 1 := by omega
    have h2 := hp.2
    have key : ∀ n b : Nat, n = b + 1 → plaP l.bs n = plaP l.bs b + (l.bs.getD b default).len := fun n b h => by subst h; rfl
    have := key _ _ he
    omega
theorem atX_ok (l : Lin) (h : Rgt l) (p : Int) (hp : 0 ≤ p ∧ p ≤ plaP l.bs l.bs.length) : FnOk Try.prog 131 [tkA l, mA p] (fun q => q = .tuple [mA (atI l p), mA (atD l p)]) := at_ok l h p hp.1 hp.2
end Go.Proofs.Ytonjcljnpcmenaa

/- Contracts of chapter 1: how far across and up a place is, the walks. No conditions on a program. -/
namespace Go.Proofs.Ytonjcljnpcmenaa
open Go Go.RowKit Go.Proofs
set_option linter.unusedSimpArgs false
set_option linter.unusedVariables false
end Go.Proofs.Ytonjcljnpcmenaa

/- Contracts: products and quotients of two words, the limit at a joint where the product is one word. No conditions on a program. -/
namespace Go.Proofs.Ytonjcljnpcmenaa
open Go Go.RowKit Go.Proofs
set_option linter.unusedSimpArgs false
set_option linter.unusedVariables false
theorem y21_fl141_0 : FldIs Try.prog 141 0 0 true 4 := by unfold FldIs; kernel_rfl
theorem y21_fl26_1 : FldIs Try.prog 26 1 1 false 1 := by unfold FldIs; kernel_rfl
theorem y21_fl26_2 : FldIs Try.prog 26 2 2 false 1 := by unfold FldIs; kernel_rfl
theorem y21_fl70_0 : FldIs Try.prog 70 0 0 false 1 := by unfold FldIs; kernel_rfl
theorem y21_fl87_0 : FldIs Try.prog 87 0 0 false 1 := by unfold FldIs; kernel_rfl
theorem y21_hcf161 : ∀ args w, (callFunc 161 args).run Try.prog w = .ok (.enter 161 args) w := fun _ _ => by kernel_rfl
theorem y21_hcf94 : ∀ args w, (callFunc 94 args).run Try.prog w = .ok (.enter 94 args) w := fun _ _ => by kernel_rfl
theorem y21_hcf97 : ∀ args w, (callFunc 97 args).run Try.prog w = .ok (.enter 97 args) w := fun _ _ => by kernel_rfl
theorem y21_sl22 : SlIs Try.prog 22 70 4 32 (.agg #[.int .i64 0, .int .i64 0, .int .i64 0, .int .i64 0]) := ⟨by kernel_rfl, by kernel_rfl, by kernel_rfl⟩
theorem y21_sl23 : SlIs Try.prog 23 87 2 16 (.agg #[.int .i64 0, .int .i64 0]) := ⟨by kernel_rfl, by kernel_rfl, by kernel_rfl⟩
theorem y21_ty22 : TyIs Try.prog 22 false 1 := ⟨by kernel_rfl, by kernel_rfl⟩
theorem y21_ty23 : TyIs Try.prog 23 false 1 := ⟨by kernel_rfl, by kernel_rfl⟩
theorem y21_ty3 : TyIs Try.prog 3 false 1 := ⟨by kernel_rfl, by kernel_rfl⟩

abbrev uA (n : Int) : AV := .v (.int .u64 n)
theorem mul_words (x y : Int) : x * y = (x / 4294967296) * (y / 4294967296) * 18446744073709551616 + (x / 4294967296) * (y % 4294967296) * 4294967296 + (x % 4294967296) * (y / 4294967296) * 4294967296 + (x % 4294967296) * (y % 4294967296) := by
  have h1 : x = (x / 4294967296) * 4294967296 + x % 4294967296 := by omega
  have h2 : y = (y / 4294967296) * 4294967296 + y % 4294967296 := by omega
  generalize x / 4294967296 = b at *
  generalize x % 4294967296 = a at *
  generalize y / 4294967296 = d at *
  generalize y % 4294967296 = c at *
  subst h1 h2
  have e1 : b * 4294967296 * (d * 4294967296) = b * d * 18446744073709551616 := by
    rw [Int.mul_assoc, ← Int.mul_assoc 4294967296 d, Int.mul_comm 4294967296 d, Int.mul_assoc d, ← Int.mul_assoc b d]; rfl
  have e2 : b * 4294967296 * c = b * c * 4294967296 := by rw [Int.mul_assoc, Int.mul_comm 4294967296 c, ← Int.mul_assoc]
  have e3 : a * (d * 4294967296) = a * d * 4294967296 := by rw [← Int.mul_assoc]
  rw [Int.add_mul, Int.mul_add, Int.mul_add, e1, e2, e3]
  omega
theorem prod_in {a c : Int} (h1 : 0 ≤ a ∧ a < 4294967296) (h2 : 0 ≤ c ∧ c < 4294967296) : 0 ≤ a * c ∧ a * c ≤ 18446744065119617025 := by
  have := mul_in 4294967295 4294967295 (x := a) (y := c) (by omega) (by omega)
  have := Int.mul_nonneg h1.1 h2.1
  omega
set_option maxRecDepth 100000 in
set_option maxHeartbeats 4000000 in
theorem mul64_ok (x y : Int) (hx : InU64 x) (hy : InU64 y) : FnOk Try.prog 138 [uA x, uA y] (fun q => q = .tuple [uA (x * y / 18446744073709551616), uA (x * y % 18446744073709551616)]) := by
  refine fnOk_of (fn := Try.f138) 51 (by kernel_rfl) rfl (by kernel_rfl) (Nat.le_of_ble_eq_true rfl) ?_
  intro e_0 m_0 hA hm_0
  have s0_0 : evA e_0 (.tmp 0) = _ := hA 0 _ rfl
  have s1_0 : evA e_0 (.tmp 1) = _ := hA 1 _ rfl
  have ml_0 : m_0.length = 0 := by rw [hm_0]; rfl
  clear hA hm_0
  have hx' := hx; have hy' := hy; unfold InU64 at hx' hy'; have q1 := prod_in (a := x % 4294967296) (c := y % 4294967296) (by omega) (by omega); have q2 := prod_in (a := x / 4294967296) (c := y % 4294967296) (by omega) (by omega); have q3 := prod_in (a := x % 4294967296) (c := y / 4294967296) (by omega) (by omega); have q4 := prod_in (a := x / 4294967296) (c := y / 4294967296) (by omega) (by omega); have hm := mul_words x y
  refine aw_seq <| at_ <| ar (ro_assign ev_c) rfl <| ar (ro_assign ev_c) rfl <| ae2 (u2 rfl s0_0) (u2 rfl s1_0) ?_; clear s0_0 s1_0; intro e_1 s0_1 s1_1
  refine then_n <| aw_seq <| at_ <| ar (ro_move s0_1) rfl ?_
  (refine ar (ro_andL (c := 4294967296) up_h ev_c 32 (by decide) (by decide) (by decide) ?_) rfl ?_; · ((first | unfold In64 | unfold InU64); omega))
  refine ar (ro_assign up_h) rfl <| ae3 (up_m rfl (u2 rfl s0_1)) (up_m rfl (u2 rfl s1_1)) up_h ?_; clear s0_1 s1_1; intro e_2 s0_2 s1_2 s6_2
  refine then_n <| aw_seq <| at_ <| ar (ro_move s0_2) rfl <| ar (ro_shr (c := 4294967296) up_h ev_c (by decide) (by decide)) rfl ?_
  refine ar (ro_assign up_h) rfl <| ae4 (up_m rfl (u2 rfl s0_2)) (up_m rfl (u2 rfl s1_2)) (up_m rfl (u2 rfl s6_2)) up_h ?_; clear s0_2 s1_2 s6_2; intro e_3 s0_3 s1_3 s6_3 s7_3
  refine then_n <| aw_seq <| at_ <| ar (ro_move s1_3) rfl ?_
  (refine ar (ro_andL (c := 4294967296) up_h ev_c 32 (by decide) (by decide) (by decide) ?_) rfl ?_; · ((first | unfold In64 | unfold InU64); omega))
  refine ar (ro_assign up_h) rfl <| ae5 (up_m rfl (u2 rfl s0_3)) (up_m rfl (u2 rfl s1_3)) (up_m rfl (u2 rfl s6_3)) (up_m rfl (u2 rfl s7_3)) up_h ?_; clear s0_3 s1_3 s6_3 s7_3; intro e_4 s0_4 s1_4 s6_4 s7_4 s8_4
  refine then_n <| aw_seq <| at_ <| ar (ro_move s1_4) rfl <| ar (ro_shr (c := 4294967296) up_h ev_c (by decide) (by decide)) rfl ?_
  refine ar (ro_assign up_h) rfl <| ae6 (up_m rfl (u2 rfl s0_4)) (up_m rfl (u2 rfl s1_4)) (up_m rfl (u2 rfl s6_4)) (up_m rfl (u2 rfl s7_4)) (up_m rfl (u2 rfl s8_4)) up_h ?_; clear s0_4 s1_4 s6_4 s7_4 s8_4; intro e_5 s0_5 s1_5 s6_5 s7_5 s8_5 s9_5
  refine then_n <| aw_seq <| at_ <| ar (ro_move s6_5) rfl <| ar (ro_move (up_m rfl s8_5)) rfl ?_
  (refine ar (ro_mulU (up_m rfl up_h) up_h ?_) rfl ?_; · ((first | unfold In64 | unfold InU64); omega))
  refine ar (ro_assign up_h) rfl <| ae7 (u4 rfl s0_5) (u4 rfl s1_5) (u4 rfl s6_5) (u4 rfl s7_5) (u4 rfl s8_5) (u4 rfl s9_5) up_h ?_; clear s0_5 s1_5 s6_5 s7_5 s8_5 s9_5; intro e_6 s0_6 s1_6 s6_6 s7_6 s8_6 s9_6 s10_6
  refine then_n <| aw_seq <| at_ <| ar (ro_move s7_6) rfl <| ar (ro_move (up_m rfl s8_6)) rfl ?_
  (refine ar (ro_mulU (up_m rfl up_h) up_h ?_) rfl ?_; · ((first | unfold In64 | unfold InU64); omega))
  refine ar (ro_move (up_m rfl (u2 rfl s10_6))) rfl <| ar (ro_shr (c := 4294967296) up_h ev_c (by decide) (by decide)) rfl ?_
  (refine ar (ro_addU (u2 rfl up_h) up_h ?_) rfl ?_; · ((first | unfold In64 | unfold InU64); omega))
  refine ar (ro_assign up_h) rfl <| ae6 (up_m rfl (u2 rfl (u4 rfl s0_6))) (up_m rfl (u2 rfl (u4 rfl s1_6))) (up_m rfl (u2 rfl (u4 rfl s6_6))) (up_m rfl (u2 rfl (u4 rfl s7_6))) (up_m rfl (u2 rfl (u4 rfl s9_6))) up_h ?_; clear s0_6 s10_6 s1_6 s6_6 s7_6 s8_6 s9_6; intro e_7 s0_7 s1_7 s6_7 s7_7 s9_7 s11_7
  refine then_n <| aw_seq <| at_ <| ar (ro_move s11_7) rfl ?_
  (refine ar (ro_andL (c := 4294967296) up_h ev_c 32 (by decide) (by decide) (by decide) ?_) rfl ?_; · ((first | unfold In64 | unfold InU64); omega))
  refine ar (ro_assign up_h) rfl <| ae7 (up_m rfl (u2 rfl s0_7)) (up_m rfl (u2 rfl s1_7)) (up_m rfl (u2 rfl s6_7)) (up_m rfl (u2 rfl s7_7)) (up_m rfl (u2 rfl s9_7)) (up_m rfl (u2 rfl s11_7)) up_h ?_; clear s0_7 s11_7 s1_7 s6_7 s7_7 s9_7; intro e_8 s0_8 s1_8 s6_8 s7_8 s9_8 s11_8 s12_8
  refine then_n <| aw_seq <| at_ <| ar (ro_move s11_8) rfl <| ar (ro_shr (c := 4294967296) up_h ev_c (by decide) (by decide)) rfl ?_
  refine ar (ro_assign up_h) rfl <| ae7 (up_m rfl (u2 rfl s0_8)) (up_m rfl (u2 rfl s1_8)) (up_m rfl (u2 rfl s6_8)) (up_m rfl (u2 rfl s7_8)) (up_m rfl (u2 rfl s9_8)) (up_m rfl (u2 rfl s12_8)) up_h ?_; clear s0_8 s11_8 s12_8 s1_8 s6_8 s7_8 s9_8; intro e_9 s0_9 s1_9 s6_9 s7_9 s9_9 s12_9 s13_9
  refine then_n <| aw_seq <| at_ <| ar (ro_move s12_9) rfl <| ar (ro_move (up_m rfl s6_9)) rfl <| ar (ro_move (u2 rfl s9_9)) rfl ?_
  (refine ar (ro_mulU (up_m rfl up_h) up_h ?_) rfl ?_; · ((first | unfold In64 | unfold InU64); omega))
  (refine ar (ro_addU (up_m rfl (u2 rfl up_h)) up_h ?_) rfl ?_; · ((first | unfold In64 | unfold InU64); omega))
  refine ar (ro_assign up_h) rfl <| ae6 (u2 rfl (u4 rfl s0_9)) (u2 rfl (u4 rfl s1_9)) (u2 rfl (u4 rfl s7_9)) (u2 rfl (u4 rfl s9_9)) up_h (u2 rfl (u4 rfl s13_9)) ?_; clear s0_9 s12_9 s13_9 s1_9 s6_9 s7_9 s9_9; intro e_10 s0_10 s1_10 s7_10 s9_10 s12_10 s13_10
  refine then_n <| aw_seq <| at_ <| ar (ro_move s7_10) rfl <| ar (ro_move (up_m rfl s9_10)) rfl ?_
  (refine ar (ro_mulU (up_m rfl up_h) up_h ?_) rfl ?_; · ((first | unfold In64 | unfold InU64); omega))
  refine ar (ro_move (up_m rfl (u2 rfl s13_10))) rfl ?_
  (refine ar (ro_addU (up_m rfl up_h) up_h ?_) rfl ?_; · ((first | unfold In64 | unfold InU64); omega))
  refine ar (ro_move (up_m rfl (u4 rfl s12_10))) rfl <| ar (ro_shr (c := 4294967296) up_h ev_c (by decide) (by decide)) rfl ?_
  (refine ar (ro_addU (u2 rfl up_h) up_h ?_) rfl ?_; · ((first | unfold In64 | unfold InU64); omega))
  refine ar (ro_assign up_h) rfl <| ae3 (up_m rfl (u8 rfl s0_10)) (up_m rfl (u8 rfl s1_10)) up_h ?_; clear s0_10 s12_10 s13_10 s1_10 s7_10 s9_10; intro e_11 s0_11 s1_11 s4_11
  refine then_n <| aw_seq <| at_ <| ar (ro_move s0_11) rfl <| ar (ro_move (up_m rfl s1_11)) rfl <| ar (ro_mul (up_m rfl up_h) up_h) rfl <| ar (ro_assign up_h) rfl <| ae2 (u4 rfl s4_11) up_h ?_; clear s0_11 s1_11 s4_11; intro e_12 s4_12 s5_12
  refine then_n <| aw_ret <| ret2 (.inr rfl) (by kernel_rfl) (resV_tmp s4_12) (resV_tmp s5_12) (.ro _ rfl) (.ro _ rfl) ?_
  clear s4_12 s5_12  ml_0
  (rw [wrapU_eq]; refine congrArg (fun a => AV.tuple [uA a, uA (x * y % 18446744073709551616)]) ?_; omega)
set_option maxRecDepth 100000 in
set_option maxHeartbeats 4000000 in
theorem div64_low (lo y : Int) (hl : InU64 lo) (hy : InU64 y) (h0 : 0 < y) : FnOk Try.prog 139 [uA 0, uA lo, uA y] (fun q => q = .tuple [uA (lo / y), uA (lo % y)]) := by
  refine fnOk_of (fn := Try.f139) 135 (by kernel_rfl) rfl (by kernel_rfl) (Nat.le_of_ble_eq_true rfl) ?_
  intro e_0 m_0 hA hm_0
  have s0_0 : evA e_0 (.tmp 0) = _ := hA 0 _ rfl
  have s1_0 : evA e_0 (.tmp 1) = _ := hA 1 _ rfl
  have s2_0 : evA e_0 (.tmp 2) = _ := hA 2 _ rfl
  have ml_0 : m_0.length = 0 := by rw [hm_0]; rfl
  clear hA hm_0
  have hl' := hl; have hy' := hy; unfold InU64 at hl' hy'
  refine aw_seq <| at_ <| ar (ro_assign ev_c) rfl <| ar (ro_assign ev_c) rfl <| ae3 (u2 rfl s0_0) (u2 rfl s1_0) (u2 rfl s2_0) ?_; clear s0_0 s1_0 s2_0; intro e_1 s0_1 s1_1 s2_1
  refine then_n <| aw_seq <| aw_seq <| at_ <| ar (ro_move s2_1) rfl <| ar (ro_eql up_h ev_c) rfl ?_
  refine ae4 (u2 rfl s0_1) (u2 rfl s1_1) (u2 rfl s2_1) up_h ?_; clear s0_1 s1_1 s2_1; intro e_2 s0_2 s1_2 s2_2 s20_2
  refine then_n <| aw_case s20_2 (fun hq_3 => ?_) (fun hq_3 => ?_)
  · replace hq_3 := bt hq_3; exfalso; omega
  replace hq_3 := bf hq_3
  refine aw_skip <| then_n <| aw_seq <| aw_seq <| at_ <| ar (ro_move s2_2) rfl <| ar (ro_move (up_m rfl s0_2)) rfl <| ar (ro_leq (up_m rfl up_h) up_h) rfl <| ae4 (up_m rfl (u2 rfl s0_2)) (up_m rfl (u2 rfl s1_2)) (up_m rfl (u2 rfl s2_2)) up_h ?_; clear s0_2 s1_2 s20_2 s2_2; intro e_4 s0_4 s1_4 s2_4 s24_4
  refine then_n <| aw_case s24_4 (fun hq_5 => ?_) (fun hq_5 => ?_)
  · replace hq_5 := bt hq_5; exfalso; omega
  replace hq_5 := bf hq_5
  refine aw_skip <| then_n <| aw_seq <| aw_seq <| at_ <| ar (ro_move s0_4) rfl <| ar (ro_eql up_h ev_c) rfl ?_
  refine ae4 (u2 rfl s0_4) (u2 rfl s1_4) (u2 rfl s2_4) up_h ?_; clear s0_4 s1_4 s24_4 s2_4; intro e_6 s0_6 s1_6 s2_6 s27_6
  refine then_n <| aw_case s27_6 (fun hq_7 => ?_) (fun hq_7 => ?_)
  ·replace hq_7 := bt hq_7
   refine aw_seq <| aw_draw 8 (by kernel_rfl) (by kernel_rfl) (by kernel_rfl) (by kernel_rfl) ?_
   refine dr (ro_move s1_6) rfl <| dr (ro_move (up_m rfl s2_6)) rfl ?_
   (refine dr (ro_quoU (up_m rfl up_h) up_h (by omega) ?_) rfl ?_; · ((first | unfold In64 | unfold InU64); omega))
   refine dr (ro_move (up_m rfl (u2 rfl s1_6))) rfl <| dr (ro_move (u4 rfl s2_6)) rfl ?_
   (refine dr (ro_remU (up_m rfl up_h) up_h (by omega) ?_) rfl ?_; · ((first | unfold In64 | unfold InU64); omega))
   refine dr (ro_assign (up_m rfl (u2 rfl up_h))) rfl <| dr (ro_assign (up_m rfl up_h)) rfl <| ds_nil <| ae2 (up_m rfl up_h) up_h ?_; clear s0_6 s1_6 s27_6 s2_6; intro e_8 s6_8 s7_8
   refine then_n <| aw_ret <| then_r <| ret2 (.inr rfl) (by kernel_rfl) (resV_tmp s6_8) (resV_tmp s7_8) (.ro _ rfl) (.ro _ rfl) ?_
   clear s6_8 s7_8  ml_0
   rfl
  · replace hq_7 := bf hq_7; exfalso; omega
set_option maxRecDepth 100000 in
set_option maxHeartbeats 1000000 in
theorem compare_ok (m n : Int) : FnOk Try.prog 137 [mA m, mA n] (fun q => q = mA (if m < n then -1 else if n < m then 1 else 0)) := by
  refine fnOk_of (fn := Try.f137) 20 (by kernel_rfl) rfl (by kernel_rfl) (Nat.le_of_ble_eq_true rfl) ?_
  intro e_0 m_0 hA hm_0
  have s0_0 : evA e_0 (.tmp 0) = _ := hA 0 _ rfl
  have s1_0 : evA e_0 (.tmp 1) = _ := hA 1 _ rfl
  have ml_0 : m_0.length = 0 := by rw [hm_0]; rfl
  clear hA hm_0
  refine aw_seq <| at_ <| ar (ro_assign ev_c) rfl <| ae2 (up_m rfl s0_0) (up_m rfl s1_0) ?_; clear s0_0 s1_0; intro e_1 s0_1 s1_1
  refine then_n <| aw_seq <| at_ <| ar (ro_move s0_1) rfl <| ar (ro_call (evL_cons up_h evL_nil) rfl (cNaN_ok _) y21_hcf161) rfl <| ar (ro_assign up_h) rfl <| ae3 (up_m rfl (u2 rfl s0_1)) (up_m rfl (u2 rfl s1_1)) up_h ?_; clear s0_1 s1_1; intro e_2 s0_2 s1_2 s5_2
  refine then_n <| aw_seq <| at_ <| ar (ro_move s1_2) rfl <| ar (ro_call (evL_cons up_h evL_nil) rfl (cNaN_ok _) y21_hcf161) rfl <| ar (ro_assign up_h) rfl <| ae4 (up_m rfl (u2 rfl s0_2)) (up_m rfl (u2 rfl s1_2)) (up_m rfl (u2 rfl s5_2)) up_h ?_; clear s0_2 s1_2 s5_2; intro e_3 s0_3 s1_3 s5_3 s6_3
  refine then_n <| aw_seq <| aw_seq <| at_ <| ar (ro_move s5_3) rfl <| ae4 (up_m rfl s0_3) (up_m rfl s1_3) (up_m rfl s6_3) up_h ?_; clear s0_3 s1_3 s5_3 s6_3; intro e_4 s0_4 s1_4 s6_4 s11_4
  refine then_n <| aw_case s11_4 (fun hq_5 => ?_) (fun hq_5 => ?_)
  · cases hq_5
  refine aw_skip <| then_n <| aw_seq <| aw_seq <| at_ <| ar (ro_move s6_4) rfl <| ae3 (up_m rfl s0_4) (up_m rfl s1_4) up_h ?_; clear s0_4 s11_4 s1_4 s6_4; intro e_10 s0_10 s1_10 s13_10
  refine then_n <| aw_case s13_10 (fun hq_11 => ?_) (fun hq_11 => ?_)
  · cases hq_11
  refine aw_skip <| then_n <| aw_seq <| aw_seq <| at_ <| ar (ro_move s0_10) rfl <| ar (ro_move (up_m rfl s1_10)) rfl <| ar (ro_lss (up_m rfl up_h) up_h) rfl <| ae3 (up_m rfl (u2 rfl s0_10)) (up_m rfl (u2 rfl s1_10)) up_h ?_; clear s0_10 s13_10 s1_10; intro e_13 s0_13 s1_13 s16_13
  refine then_n <| aw_case s16_13 (fun hq_14 => ?_) (fun hq_14 => ?_)
  ·replace hq_14 := bt hq_14
   refine aw_seq <| at_ <| ar (ro_assign ev_c) rfl <| ae1 up_h ?_; clear s0_13 s16_13 s1_13; intro e_15 s4_15
   refine then_n <| aw_ret <| then_r <| ret1 (.inr rfl) (by kernel_rfl) (resV_tmp s4_15) (.ro _ rfl) ?_
   clear s4_15  ml_0
   (simp_all; try omega)
  replace hq_14 := bf hq_14
  refine aw_skip <| then_n <| aw_seq <| aw_seq <| at_ <| ar (ro_move s0_13) rfl <| ar (ro_move (up_m rfl s1_13)) rfl <| ar (ro_gtr (up_m rfl up_h) up_h) rfl <| ae1 up_h ?_; clear s0_13 s16_13 s1_13; intro e_16 s19_16
  refine then_n <| aw_case s19_16 (fun hq_17 => ?_) (fun hq_17 => ?_)
  ·replace hq_17 := bt hq_17
   refine aw_seq <| at_ <| ar (ro_assign ev_c) rfl <| ae1 up_h ?_; clear s19_16; intro e_18 s4_18
   refine then_n <| aw_ret <| then_r <| ret1 (.inr rfl) (by kernel_rfl) (resV_tmp s4_18) (.ro _ rfl) ?_
   clear s4_18  ml_0
   (simp_all; try omega)
  replace hq_17 := bf hq_17
  refine aw_skip <| then_n <| aw_seq <| at_ <| ar (ro_assign ev_c) rfl <| ae1 up_h ?_; clear s19_16; intro e_19 s4_19
  refine then_n <| aw_ret <| ret1 (.inr rfl) (by kernel_rfl) (resV_tmp s4_19) (.ro _ rfl) ?_
  clear s4_19  ml_0
  (simp_all; try omega)
set_option maxRecDepth 100000 in
set_option maxHeartbeats 1000000 in
theorem sideErr_ok (n : Int) : FnOk Try.prog 83 [mA n] (fun q => q = mA (unlessE (withinB n 0 5000) 2)) := by
  refine fnOk_of (fn := Try.f83) 6 (by kernel_rfl) rfl (by kernel_rfl) (Nat.le_of_ble_eq_true rfl) ?_
  intro e_0 m_0 hA hm_0
  have s0_0 : evA e_0 (.tmp 0) = _ := hA 0 _ rfl
  have ml_0 : m_0.length = 0 := by rw [hm_0]; rfl
  clear hA hm_0
  refine aw_seq <| at_ <| ar (ro_assign ev_c) rfl <| ae1 (up_m rfl s0_0) ?_; clear s0_0; intro e_1 s0_1
  refine then_n <| aw_seq <| at_ <| ar (ro_move s0_1) rfl <| ar (ro_call (evL_cons up_h (evL_cons ev_c (evL_cons ev_c evL_nil))) rfl (yWithin_ok _ _ _) y21_hcf97) rfl <| ar (ro_call (evL_cons up_h (evL_cons ev_c evL_nil)) rfl (yUnless_ok _ _) y21_hcf94) rfl <| ar (ro_assign up_h) rfl <| ae1 up_h ?_; clear s0_1; intro e_2 s2_2
  refine then_n <| aw_ret <| ret1 (.inr rfl) (by kernel_rfl) (resV_tmp s2_2) (.ro _ rfl) ?_
  clear s2_2  ml_0
  rfl
/-- The bend at a joint, over the product of both lengths. -/
def benN (l : Lin) (j : Nat) : Int := ((l.js.getD (j + 1) default).acr - (l.js.getD j default).acr) * (l.bs.getD (j - 1) default).len - ((l.js.getD j default).acr - (l.js.getD (j - 1) default).acr) * (l.bs.getD j default).len
def benD (l : Lin) (j : Nat) : Int := (l.bs.getD (j - 1) default).len * (l.bs.getD j default).len
theorem toNat_pre (n : Nat) : ((n : Int) - 1).toNat = n - 1 := by omega
set_option maxRecDepth 100000 in
set_option maxHeartbeats 4000000 in
theorem bend_ok (l : Lin) (h : Rgt l) (j : Nat) (hj : 1 ≤ j ∧ j + 2 ≤ l.js.length) : FnOk Try.prog 104 [tkA l, mA j] (fun q => q = .tuple [mA (benN l j), mA (benD l j)]) := by
  refine fnOk_of (fn := Try.f104) 79 (by kernel_rfl) rfl (by kernel_rfl) (Nat.le_of_ble_eq_true rfl) ?_
  intro e_0 m_0 hA hm_0
  have s0_0 : evA e_0 (.tmp 0) = _ := hA 0 _ rfl
  have s1_0 : evA e_0 (.tmp 1) = _ := hA 1 _ rfl
  have ml_0 : m_0.length = 0 := by rw [hm_0]; rfl
  clear hA hm_0
  have hn1 := h.n1; have hn0 := h.n0; have hjs := h.js; have j1 := h.jnt (j - 1) (by omega); have j2 := h.jnt j (by omega); have j3 := h.jnt (j + 1) (by omega); have b1 := h.bea (j - 1) (by omega); have b2 := h.bea j (by omega); have m1 := mul_in (x := (l.js.getD (j + 1) default).acr - (l.js.getD j default).acr) (y := (l.bs.getD (j - 1) default).len) 40000 30000 (by omega) (by omega); have m2 := mul_in (x := (l.js.getD j default).acr - (l.js.getD (j - 1) default).acr) (y := (l.bs.getD j default).len) 40000 30000 (by omega) (by omega); have m3 := mul_in (x := (l.bs.getD (j - 1) default).len) (y := (l.bs.getD j default).len) 30000 30000 (by omega) (by omega)
  refine aw_seq <| at_ <| ar (ro_assign ev_c) rfl <| ar (ro_assign ev_c) rfl <| ae2 (u2 rfl s0_0) (u2 rfl s1_0) ?_; clear s0_0 s1_0; intro e_1 s0_1 s1_1
  refine then_n <| aw_seq <| aw_draw 21 (by kernel_rfl) (by kernel_rfl) (by kernel_rfl) (by kernel_rfl) ?_
  refine dr (ro_move s0_1) rfl <| dr (ro_nilR up_h) rfl <| dr (ro_eq (ro_fld_ref y21_fl141_0 rfl up_h) (by simp only [pS, Value.cells, Nat.reduceAdd, jnE, beE, Int.toNat_natCast, toNat_suc, toNat_pre] <;> rfl)) rfl ?_
  refine dr (ro_eq (ro_fld_ref y21_fl26_2 rfl up_h) (by simp only [pS, Value.cells, Nat.reduceAdd, jnE, beE, Int.toNat_natCast, toNat_suc, toNat_pre] <;> rfl)) rfl ?_
  refine dr (ro_eq (ro_ld_ref y21_ty23 rfl up_h (nle rfl)) (by simp only [pS, Value.cells, Nat.reduceAdd, jnE, beE, Int.toNat_natCast, toNat_suc, toNat_pre] <;> rfl)) rfl ?_
  refine dr (ro_move (up_m rfl (u4 rfl s1_1))) rfl ?_
  (refine dr (ro_sub' up_h ev_c ?_) rfl ?_; · (unfold In64; omega))
  refine dr (ro_eq (ro_ix y21_sl23 (u2 rfl up_h) up_h (by omega) (by first | (refine idx_map ?_; first | omega | (simp only [lnS]; omega)) | (refine idx_mapI ?_; first | omega | (simp only [lnS]; omega)) | (refine idx_mapN ?_; first | omega | (simp only [lnS]; omega)) | rfl)) (by simp only [pS, Value.cells, Nat.reduceAdd, jnE, beE, Int.toNat_natCast, toNat_suc, toNat_pre] <;> rfl)) rfl ?_
  refine dr (ro_eq (ro_fld_ref y21_fl87_0 rfl up_h) (by simp only [pS, Value.cells, Nat.reduceAdd, jnE, beE, Int.toNat_natCast, toNat_suc, toNat_pre] <;> rfl)) rfl ?_
  refine dr (ro_eq (ro_ld_ref y21_ty3 rfl up_h (nle rfl)) (by simp only [pS, Value.cells, Nat.reduceAdd, jnE, beE, Int.toNat_natCast, toNat_suc, toNat_pre] <;> rfl)) rfl ?_
  refine dr (ro_move (u2 rfl (u8 rfl s0_1))) rfl <| dr (ro_nilR up_h) rfl <| dr (ro_eq (ro_fld_ref y21_fl141_0 rfl up_h) (by simp only [pS, Value.cells, Nat.reduceAdd, jnE, beE, Int.toNat_natCast, toNat_suc, toNat_pre] <;> rfl)) rfl ?_
  refine dr (ro_eq (ro_fld_ref y21_fl26_2 rfl up_h) (by simp only [pS, Value.cells, Nat.reduceAdd, jnE, beE, Int.toNat_natCast, toNat_suc, toNat_pre] <;> rfl)) rfl ?_
  refine dr (ro_eq (ro_ld_ref y21_ty23 rfl up_h (nle rfl)) (by simp only [pS, Value.cells, Nat.reduceAdd, jnE, beE, Int.toNat_natCast, toNat_suc, toNat_pre] <;> rfl)) rfl ?_
  refine dr (ro_move (up_m rfl (u2 rfl (u4 rfl (u8 rfl s1_1))))) rfl <| dr (ro_eq (ro_ix y21_sl23 (up_m rfl up_h) up_h (by omega) (by first | (refine idx_map ?_; first | omega | (simp only [lnS]; omega)) | (refine idx_mapI ?_; first | omega | (simp only [lnS]; omega)) | (refine idx_mapN ?_; first | omega | (simp only [lnS]; omega)) | rfl)) (by simp only [pS, Value.cells, Nat.reduceAdd, jnE, beE, Int.toNat_natCast, toNat_suc, toNat_pre] <;> rfl)) rfl ?_
  refine dr (ro_eq (ro_fld_ref y21_fl87_0 rfl up_h) (by simp only [pS, Value.cells, Nat.reduceAdd, jnE, beE, Int.toNat_natCast, toNat_suc, toNat_pre] <;> rfl)) rfl ?_
  refine dr (ro_eq (ro_ld_ref y21_ty3 rfl up_h (nle rfl)) (by simp only [pS, Value.cells, Nat.reduceAdd, jnE, beE, Int.toNat_natCast, toNat_suc, toNat_pre] <;> rfl)) rfl ?_
  refine dr (ro_assign (up_m rfl (u8 rfl up_h))) rfl <| dr (ro_assign (up_m rfl up_h)) rfl <| ds_nil <| ae4 (up_m rfl (u4 rfl (u16 rfl s0_1))) (up_m rfl (u4 rfl (u16 rfl s1_1))) (up_m rfl up_h) up_h ?_; clear s0_1 s1_1; intro e_2 s0_2 s1_2 s6_2 s7_2
  refine then_n <| aw_seq <| aw_draw 21 (by kernel_rfl) (by kernel_rfl) (by kernel_rfl) (by kernel_rfl) ?_
  refine dr (ro_move s0_2) rfl <| dr (ro_nilR up_h) rfl <| dr (ro_eq (ro_fld_ref y21_fl141_0 rfl up_h) (by simp only [pS, Value.cells, Nat.reduceAdd, jnE, beE, Int.toNat_natCast, toNat_suc, toNat_pre] <;> rfl)) rfl ?_
  refine dr (ro_eq (ro_fld_ref y21_fl26_1 rfl up_h) (by simp only [pS, Value.cells, Nat.reduceAdd, jnE, beE, Int.toNat_natCast, toNat_suc, toNat_pre] <;> rfl)) rfl ?_
  refine dr (ro_eq (ro_ld_ref y21_ty22 rfl up_h (nle rfl)) (by simp only [pS, Value.cells, Nat.reduceAdd, jnE, beE, Int.toNat_natCast, toNat_suc, toNat_pre] <;> rfl)) rfl ?_
  refine dr (ro_move (up_m rfl (u4 rfl s1_2))) rfl <| dr (ro_eq (ro_ix y21_sl22 (up_m rfl up_h) up_h (by omega) (by first | (refine idx_map ?_; first | omega | (simp only [lnS]; omega)) | (refine idx_mapI ?_; first | omega | (simp only [lnS]; omega)) | (refine idx_mapN ?_; first | omega | (simp only [lnS]; omega)) | rfl)) (by simp only [pS, Value.cells, Nat.reduceAdd, jnE, beE, Int.toNat_natCast, toNat_suc, toNat_pre] <;> rfl)) rfl ?_
  refine dr (ro_eq (ro_fld_ref y21_fl70_0 rfl up_h) (by simp only [pS, Value.cells, Nat.reduceAdd, jnE, beE, Int.toNat_natCast, toNat_suc, toNat_pre] <;> rfl)) rfl ?_
  refine dr (ro_eq (ro_ld_ref y21_ty3 rfl up_h (nle rfl)) (by simp only [pS, Value.cells, Nat.reduceAdd, jnE, beE, Int.toNat_natCast, toNat_suc, toNat_pre] <;> rfl)) rfl ?_
  refine dr (ro_move (up_m rfl (u8 rfl s0_2))) rfl <| dr (ro_nilR up_h) rfl <| dr (ro_eq (ro_fld_ref y21_fl141_0 rfl up_h) (by simp only [pS, Value.cells, Nat.reduceAdd, jnE, beE, Int.toNat_natCast, toNat_suc, toNat_pre] <;> rfl)) rfl ?_
  refine dr (ro_eq (ro_fld_ref y21_fl26_1 rfl up_h) (by simp only [pS, Value.cells, Nat.reduceAdd, jnE, beE, Int.toNat_natCast, toNat_suc, toNat_pre] <;> rfl)) rfl ?_
  refine dr (ro_eq (ro_ld_ref y21_ty22 rfl up_h (nle rfl)) (by simp only [pS, Value.cells, Nat.reduceAdd, jnE, beE, Int.toNat_natCast, toNat_suc, toNat_pre] <;> rfl)) rfl ?_
  refine dr (ro_move (u2 rfl (u4 rfl (u8 rfl s1_2)))) rfl ?_
  (refine dr (ro_sub' up_h ev_c ?_) rfl ?_; · (unfold In64; omega))
  refine dr (ro_eq (ro_ix y21_sl22 (u2 rfl up_h) up_h (by omega) (by first | (refine idx_map ?_; first | omega | (simp only [lnS]; omega)) | (refine idx_mapI ?_; first | omega | (simp only [lnS]; omega)) | (refine idx_mapN ?_; first | omega | (simp only [lnS]; omega)) | rfl)) (by simp only [pS, Value.cells, Nat.reduceAdd, jnE, beE, Int.toNat_natCast, toNat_suc, toNat_pre] <;> rfl)) rfl ?_
  refine dr (ro_eq (ro_fld_ref y21_fl70_0 rfl up_h) (by simp only [pS, Value.cells, Nat.reduceAdd, jnE, beE, Int.toNat_natCast, toNat_suc, toNat_pre] <;> rfl)) rfl ?_
  refine dr (ro_eq (ro_ld_ref y21_ty3 rfl up_h (nle rfl)) (by simp only [pS, Value.cells, Nat.reduceAdd, jnE, beE, Int.toNat_natCast, toNat_suc, toNat_pre] <;> rfl)) rfl ?_
  (refine dr (ro_sub' (u2 rfl (u8 rfl up_h)) up_h ?_) rfl ?_; · (unfold In64; omega))
  refine dr (ro_assign up_h) rfl <| ds_nil <| ae5 (up_m rfl (u4 rfl (u16 rfl s0_2))) (up_m rfl (u4 rfl (u16 rfl s1_2))) (up_m rfl (u4 rfl (u16 rfl s6_2))) (up_m rfl (u4 rfl (u16 rfl s7_2))) up_h ?_; clear s0_2 s1_2 s6_2 s7_2; intro e_3 s0_3 s1_3 s6_3 s7_3 s8_3
  refine then_n <| aw_seq <| aw_draw 21 (by kernel_rfl) (by kernel_rfl) (by kernel_rfl) (by kernel_rfl) ?_
  refine dr (ro_move s0_3) rfl <| dr (ro_nilR up_h) rfl <| dr (ro_eq (ro_fld_ref y21_fl141_0 rfl up_h) (by simp only [pS, Value.cells, Nat.reduceAdd, jnE, beE, Int.toNat_natCast, toNat_suc, toNat_pre] <;> rfl)) rfl ?_
  refine dr (ro_eq (ro_fld_ref y21_fl26_1 rfl up_h) (by simp only [pS, Value.cells, Nat.reduceAdd, jnE, beE, Int.toNat_natCast, toNat_suc, toNat_pre] <;> rfl)) rfl ?_
  refine dr (ro_eq (ro_ld_ref y21_ty22 rfl up_h (nle rfl)) (by simp only [pS, Value.cells, Nat.reduceAdd, jnE, beE, Int.toNat_natCast, toNat_suc, toNat_pre] <;> rfl)) rfl ?_
  refine dr (ro_move (up_m rfl (u4 rfl s1_3))) rfl ?_
  (refine dr (ro_add' up_h ev_c ?_) rfl ?_; · (unfold In64; omega))
  refine dr (ro_eq (ro_ix y21_sl22 (u2 rfl up_h) up_h (by omega) (by refine idx_map ?_; first | omega | (simp only [lnS]; omega))) (by simp only [pS, Value.cells, Nat.reduceAdd, jnE, beE, Int.toNat_natCast, toNat_suc, toNat_pre] <;> rfl)) rfl ?_
  refine dr (ro_eq (ro_fld_ref y21_fl70_0 rfl up_h) (by simp only [pS, Value.cells, Nat.reduceAdd, jnE, beE, Int.toNat_natCast, toNat_suc, toNat_pre] <;> rfl)) rfl ?_
  refine dr (ro_eq (ro_ld_ref y21_ty3 rfl up_h (nle rfl)) (by simp only [pS, Value.cells, Nat.reduceAdd, jnE, beE, Int.toNat_natCast, toNat_suc, toNat_pre] <;> rfl)) rfl ?_
  refine dr (ro_move (u2 rfl (u8 rfl s0_3))) rfl <| dr (ro_nilR up_h) rfl <| dr (ro_eq (ro_fld_ref y21_fl141_0 rfl up_h) (by simp only [pS, Value.cells, Nat.reduceAdd, jnE, beE, Int.toNat_natCast, toNat_suc, toNat_pre] <;> rfl)) rfl ?_
  refine dr (ro_eq (ro_fld_ref y21_fl26_1 rfl up_h) (by simp only [pS, Value.cells, Nat.reduceAdd, jnE, beE, Int.toNat_natCast, toNat_suc, toNat_pre] <;> rfl)) rfl ?_
  refine dr (ro_eq (ro_ld_ref y21_ty22 rfl up_h (nle rfl)) (by simp only [pS, Value.cells, Nat.reduceAdd, jnE, beE, Int.toNat_natCast, toNat_suc, toNat_pre] <;> rfl)) rfl ?_
  refine dr (ro_move (up_m rfl (u2 rfl (u4 rfl (u8 rfl s1_3))))) rfl <| dr (ro_eq (ro_ix y21_sl22 (up_m rfl up_h) up_h (by omega) (by first | (refine idx_map ?_; first | omega | (simp only [lnS]; omega)) | (refine idx_mapI ?_; first | omega | (simp only [lnS]; omega)) | (refine idx_mapN ?_; first | omega | (simp only [lnS]; omega)) | rfl)) (by simp only [pS, Value.cells, Nat.reduceAdd, jnE, beE, Int.toNat_natCast, toNat_suc, toNat_pre] <;> rfl)) rfl ?_
  refine dr (ro_eq (ro_fld_ref y21_fl70_0 rfl up_h) (by simp only [pS, Value.cells, Nat.reduceAdd, jnE, beE, Int.toNat_natCast, toNat_suc, toNat_pre] <;> rfl)) rfl ?_
  refine dr (ro_eq (ro_ld_ref y21_ty3 rfl up_h (nle rfl)) (by simp only [pS, Value.cells, Nat.reduceAdd, jnE, beE, Int.toNat_natCast, toNat_suc, toNat_pre] <;> rfl)) rfl ?_
  (refine dr (ro_sub' (up_m rfl (u8 rfl up_h)) up_h ?_) rfl ?_; · (unfold In64; omega))
  refine dr (ro_assign up_h) rfl <| ds_nil <| ae4 (up_m rfl (u4 rfl (u16 rfl s6_3))) (up_m rfl (u4 rfl (u16 rfl s7_3))) (up_m rfl (u4 rfl (u16 rfl s8_3))) up_h ?_; clear s0_3 s1_3 s6_3 s7_3 s8_3; intro e_4 s6_4 s7_4 s8_4 s9_4
  refine then_n <| aw_seq <| at_ <| ar (ro_move s9_4) rfl <| ar (ro_move (up_m rfl s6_4)) rfl ?_
  (refine ar (ro_mul' (up_m rfl up_h) up_h ?_) rfl ?_; · (unfold In64; omega))
  refine ar (ro_move (up_m rfl (u2 rfl s8_4))) rfl <| ar (ro_move (u4 rfl s7_4)) rfl ?_
  (refine ar (ro_mul' (up_m rfl up_h) up_h ?_) rfl ?_; · (unfold In64; omega))
  (refine ar (ro_sub' (up_m rfl (u2 rfl up_h)) up_h ?_) rfl ?_; · (unfold In64; omega))
  refine ar (ro_move (up_m rfl (u2 rfl (u4 rfl s6_4)))) rfl <| ar (ro_move (u8 rfl s7_4)) rfl ?_
  (refine ar (ro_mul' (up_m rfl up_h) up_h ?_) rfl ?_; · (unfold In64; omega))
  refine ar (ro_assign (up_m rfl (u2 rfl up_h))) rfl <| ar (ro_assign (up_m rfl up_h)) rfl <| ae2 (up_m rfl up_h) up_h ?_; clear s6_4 s7_4 s8_4 s9_4; intro e_5 s4_5 s5_5
  refine then_n <| aw_ret <| ret2 (.inr rfl) (by kernel_rfl) (resV_tmp s4_5) (resV_tmp s5_5) (.ro _ rfl) (.ro _ rfl) ?_
  clear s4_5 s5_5  ml_0
  rfl
end Go.Proofs.Ytonjcljnpcmenaa

/- Contracts of chapter 1: the limit at a joint where a product is one word; vehicles, poses. No conditions on a program. -/
namespace Go.Proofs.Ytonjcljnpcmenaa
open Go Go.RowKit Go.Proofs
set_option linter.unusedSimpArgs false
set_option linter.unusedVariables false
theorem y22_az87 : (Try.prog.info? 87).bind (·.zero) = some (.agg #[.int .i64 0, .int .i64 0]) := by kernel_rfl
theorem y22_fl141_0 : FldIs Try.prog 141 0 0 true 4 := by unfold FldIs; kernel_rfl
theorem y22_fl26_2 : FldIs Try.prog 26 2 2 false 1 := by unfold FldIs; kernel_rfl
theorem y22_fl87_0 : FldIs Try.prog 87 0 0 false 1 := by unfold FldIs; kernel_rfl
theorem y22_fl87_1 : FldIs Try.prog 87 1 1 false 1 := by unfold FldIs; kernel_rfl
theorem y22_hcf104 : ∀ args w, (callFunc 104 args).run Try.prog w = .ok (.enter 104 args) w := fun _ _ => by kernel_rfl
theorem y22_hcf137 : ∀ args w, (callFunc 137 args).run Try.prog w = .ok (.enter 137 args) w := fun _ _ => by kernel_rfl
theorem y22_hcf138 : ∀ args w, (callFunc 138 args).run Try.prog w = .ok (.enter 138 args) w := fun _ _ => by kernel_rfl
theorem y22_hcf139 : ∀ args w, (callFunc 139 args).run Try.prog w = .ok (.enter 139 args) w := fun _ _ => by kernel_rfl
theorem y22_sl23 : SlIs Try.prog 23 87 2 16 (.agg #[.int .i64 0, .int .i64 0]) := ⟨by kernel_rfl, by kernel_rfl, by kernel_rfl⟩
theorem y22_sz87 : (Try.prog.info? 87).map (·.size) = some 2 := by kernel_rfl
theorem y22_ty23 : TyIs Try.prog 23 false 1 := ⟨by kernel_rfl, by kernel_rfl⟩
theorem y22_ty3 : TyIs Try.prog 3 false 1 := ⟨by kernel_rfl, by kernel_rfl⟩
theorem y22_ty87 : TyIs Try.prog 87 true 2 := ⟨by kernel_rfl, by kernel_rfl⟩

theorem mul64_low (x y : Int) (hx : InU64 x) (hy : InU64 y) (h : InU64 (x * y)) : FnOk Try.prog 138 [uA x, uA y] (fun q => q = .tuple [uA 0, uA (x * y)]) :=
  (mul64_ok x y hx hy).mono fun q hq => by
    unfold InU64 at h
    rw [hq, show x * y / 18446744073709551616 = 0 by omega, show x * y % 18446744073709551616 = x * y by omega]
def sgnV (n : Int) : Int := if n < 0 then -1 else if 0 < n then 1 else 0
/-- What side and cant hold. -/
def helV (l : Lin) (s : Int) (j : Nat) : Int := 2000 * s + sgnV (benN l j) * ((l.bs.getD (j - 1) default).cant + (l.bs.getD j default).cant) * 9810
/-- The limit at a joint. -/
def limU (l : Lin) (s : Int) (j : Nat) : Int := helV l s j * ((l.bs.getD (j - 1) default).len + (l.bs.getD j default).len) * benD l j
def limV (l : Lin) (s : Int) (j : Nat) : Int := if benN l j = 0 then 20000000000 else if helV l s j < 0 then 0 else min (limU l s j / (2 * 2000 * max (benN l j) (-benN l j))) 20000000000
theorem ben_bd {l : Lin} (h : Rgt l) {j : Nat} (hj : 1 ≤ j ∧ j + 2 ≤ l.js.length) : (benN l j).natAbs ≤ 2400000000 ∧ 1000000 ≤ benD l j ∧ benD l j ≤ 900000000 := by
  have hjs := h.js
  have j1 := h.jnt (j - 1) (by omega)
  have j2 := h.jnt j (by omega)
  have j3 := h.jnt (j + 1) (by omega)
  have b1 := h.bea (j - 1) (by omega)
  have b2 := h.bea j (by omega)
  have m1 := mul_in (x := (l.js.getD (j + 1) default).acr - (l.js.getD j default).acr) (y := (l.bs.getD (j - 1) default).len) 40000 30000 (by omega) (by omega)
  have m2 := mul_in (x := (l.js.getD j default).acr - (l.js.getD (j - 1) default).acr) (y := (l.bs.getD j default).len) 40000 30000 (by omega) (by omega)
  have m3 := mul_in (x := (l.bs.getD (j - 1) default).len) (y := (l.bs.getD j default).len) 30000 30000 (by omega) (by omega)
  have m4 : (1000 : Int) * 1000 ≤ (l.bs.getD (j - 1) default).len * (l.bs.getD j default).len := Int.mul_le_mul b1.1 b2.1 (by omega) (by omega)
  unfold benN benD
  omega
theorem hel_bd {l : Lin} (h : Rgt l) {j : Nat} (hj : 1 ≤ j ∧ j + 2 ≤ l.js.length) {s : Int} (hs : 0 ≤ s ∧ s ≤ 5000) : (sgnV (benN l j) * ((l.bs.getD (j - 1) default).cant + (l.bs.getD j default).cant)).natAbs ≤ 600 ∧ (helV l s j).natAbs ≤ 15886000 := by
  have hjs := h.js
  have b1 := h.bea (j - 1) (by omega)
  have b2 := h.bea j (by omega)
  have m1 := mul_in (x := sgnV (benN l j)) (y := (l.bs.getD (j - 1) default).cant + (l.bs.getD j default).cant) 1 600 (by unfold sgnV; split; decide; split <;> decide) (by omega)
  unfold helV
  omega
set_option maxRecDepth 100000 in
set_option maxHeartbeats 4000000 in
theorem limit_low (l : Lin) (h : Rgt l) (s : Int) (hs : 0 ≤ s ∧ s ≤ 5000) (j : Nat) (hj : 1 ≤ j ∧ j + 2 ≤ l.js.length) (hu : limU l s j < 18446744073709551616) : FnOk Try.prog 85 [tkA l, mA s, mA j] (fun q => q = mA (limV l s j)) := by
  refine fnOk_of (fn := Try.f85) 88 (by kernel_rfl) rfl (by kernel_rfl) (Nat.le_of_ble_eq_true rfl) ?_
  intro e_0 m_0 hA hm_0
  have s0_0 : evA e_0 (.tmp 0) = _ := hA 0 _ rfl
  have s1_0 : evA e_0 (.tmp 1) = _ := hA 1 _ rfl
  have s2_0 : evA e_0 (.tmp 2) = _ := hA 2 _ rfl
  have ml_0 : m_0.length = 0 := by rw [hm_0]; rfl
  clear hA hm_0
  have hn1 := h.n1; have hn0 := h.n0; have hjs := h.js; have b1 := h.bea (j - 1) (by omega); have b2 := h.bea j (by omega); obtain ⟨e1, e2, e3⟩ := ben_bd h hj; obtain ⟨e4, e5⟩ := hel_bd h hj hs
  refine aw_seq <| at_ <| ar (ro_assign ev_c) rfl <| ae3 (up_m rfl s0_0) (up_m rfl s1_0) (up_m rfl s2_0) ?_; clear s0_0 s1_0 s2_0; intro e_1 s0_1 s1_1 s2_1
  refine then_n <| aw_seq <| at_ <| ar (ro_move s0_1) rfl <| ar (ro_move (up_m rfl s2_1)) rfl <| ar (ro_call (evL_cons (up_m rfl up_h) (evL_cons up_h evL_nil)) rfl (bend_ok l h j hj) y22_hcf104) rfl <| ar (ro_move up_h) rfl <| ar (ro_extract up_h rfl) rfl <| ar (ro_extract (up_m rfl up_h) rfl) rfl <| ar (ro_assign (up_m rfl up_h)) rfl <| ar (ro_assign (up_m rfl up_h)) rfl <| ae5 (u8 rfl s0_1) (u8 rfl s1_1) (u8 rfl s2_1) (up_m rfl up_h) up_h ?_; clear s0_1 s1_1 s2_1; intro e_2 s0_2 s1_2 s2_2 s7_2 s8_2
  refine then_n <| aw_seq <| aw_seq <| at_ <| ar (ro_move s7_2) rfl <| ar (ro_eql up_h ev_c) rfl ?_
  refine ae6 (u2 rfl s0_2) (u2 rfl s1_2) (u2 rfl s2_2) (u2 rfl s7_2) (u2 rfl s8_2) up_h ?_; clear s0_2 s1_2 s2_2 s7_2 s8_2; intro e_3 s0_3 s1_3 s2_3 s7_3 s8_3 s24_3
  refine then_n <| aw_case s24_3 (fun hq_4 => ?_) (fun hq_4 => ?_)
  ·replace hq_4 := bt hq_4
   refine aw_seq <| at_ <| ar (ro_assign ev_c) rfl <| ae1 up_h ?_; clear s0_3 s1_3 s24_3 s2_3 s7_3 s8_3; intro e_5 s6_5
   refine then_n <| aw_ret <| then_r <| ret1 (.inr rfl) (by kernel_rfl) (resV_tmp s6_5) (.ro _ rfl) ?_
   clear s6_5  ml_0
   (rw [limV, if_pos (by assumption)])
  replace hq_4 := bf hq_4
  refine aw_skip <| then_n <| aw_seq <| aw_drawK 20 2 ml_0 (by kernel_rfl) (by kernel_rfl) (by kernel_rfl) (by kernel_rfl) (fun m_6 hm_6 => ?_)
  have mo0_6 : m_6[0]? = _ := m_room_g hm_6 ml_0 0 rfl rfl
  have mo1_6 : m_6[1]? = _ := m_room_g hm_6 ml_0 1 rfl rfl
  have ml_6 : _ = 2 := m_room_l (K := 2) hm_6 ml_0
  clear hm_6 ml_0
  refine dh_ro (fun M_ hM_ => (ro_move s0_3)) trivial ?_
  refine dh_ro (fun M_ hM_ => (ro_nilR up_h)) trivial ?_
  refine dh_ro (fun M_ hM_ => (ro_eq (ro_fld_ref y22_fl141_0 rfl up_h) (by simp only [pS, Value.cells, Nat.reduceAdd, jnE, beE, Int.toNat_natCast, toNat_suc, toNat_pre] <;> rfl))) trivial ?_
  refine dh_ro (fun M_ hM_ => (ro_eq (ro_fld_ref y22_fl26_2 rfl up_h) (by simp only [pS, Value.cells, Nat.reduceAdd, jnE, beE, Int.toNat_natCast, toNat_suc, toNat_pre] <;> rfl))) trivial ?_
  refine dh_ro (fun M_ hM_ => (ro_eq (ro_ld_ref y22_ty23 rfl up_h (nle rfl)) (by simp only [pS, Value.cells, Nat.reduceAdd, jnE, beE, Int.toNat_natCast, toNat_suc, toNat_pre] <;> rfl))) trivial ?_
  refine dh_ro (fun M_ hM_ => (ro_move (up_m rfl (u4 rfl s2_3)))) trivial ?_
  (refine dh_ro (fun M_ hM_ => (ro_sub' up_h ev_c ?_)) trivial ?_; · ((first | unfold In64 | unfold InU64); omega))
  refine dh_ro (fun M_ hM_ => (ro_eq (ro_ix y22_sl23 (u2 rfl up_h) up_h (by omega) (by first | (refine idx_map ?_; first | omega | (simp only [lnS]; omega)) | (refine idx_mapI ?_; first | omega | (simp only [lnS]; omega)) | (refine idx_mapN ?_; first | omega | (simp only [lnS]; omega)) | rfl)) (by simp only [pS, Value.cells, Nat.reduceAdd, jnE, beE, Int.toNat_natCast, toNat_suc, toNat_pre] <;> rfl))) trivial ?_
  refine dh_ro (fun M_ hM_ => (ro_eq (ro_ld_ref y22_ty87 rfl up_h (nle rfl)) (by simp only [pS, Value.cells, Nat.reduceAdd, jnE, beE, Int.toNat_natCast, toNat_suc, toNat_pre] <;> rfl))) trivial ?_
  refine dh_ro (fun M_ hM_ => (ro_move (up_m rfl (u8 rfl s0_3)))) trivial ?_
  refine dh_ro (fun M_ hM_ => (ro_nilR up_h)) trivial ?_
  refine dh_ro (fun M_ hM_ => (ro_eq (ro_fld_ref y22_fl141_0 rfl up_h) (by simp only [pS, Value.cells, Nat.reduceAdd, jnE, beE, Int.toNat_natCast, toNat_suc, toNat_pre] <;> rfl))) trivial ?_
  refine dh_ro (fun M_ hM_ => (ro_eq (ro_fld_ref y22_fl26_2 rfl up_h) (by simp only [pS, Value.cells, Nat.reduceAdd, jnE, beE, Int.toNat_natCast, toNat_suc, toNat_pre] <;> rfl))) trivial ?_
  refine dh_ro (fun M_ hM_ => (ro_eq (ro_ld_ref y22_ty23 rfl up_h (nle rfl)) (by simp only [pS, Value.cells, Nat.reduceAdd, jnE, beE, Int.toNat_natCast, toNat_suc, toNat_pre] <;> rfl))) trivial ?_
  refine dh_ro (fun M_ hM_ => (ro_move (u2 rfl (u4 rfl (u8 rfl s2_3))))) trivial ?_
  refine dh_ro (fun M_ hM_ => (ro_eq (ro_ix y22_sl23 (up_m rfl up_h) up_h (by omega) (by first | (refine idx_map ?_; first | omega | (simp only [lnS]; omega)) | (refine idx_mapI ?_; first | omega | (simp only [lnS]; omega)) | (refine idx_mapN ?_; first | omega | (simp only [lnS]; omega)) | rfl)) (by simp only [pS, Value.cells, Nat.reduceAdd, jnE, beE, Int.toNat_natCast, toNat_suc, toNat_pre] <;> rfl))) trivial ?_
  refine dh_ro (fun M_ hM_ => (ro_eq (ro_ld_ref y22_ty87 rfl up_h (nle rfl)) (by simp only [pS, Value.cells, Nat.reduceAdd, jnE, beE, Int.toNat_natCast, toNat_suc, toNat_pre] <;> rfl))) trivial ?_
  refine dh_nw (0) (fun M_ hM_ => (nw_alloc y22_az87 rfl)) trivial mo0_6 rfl trivial trivial (fun m_7 hm_7 => ?_)
  have mo0_7 := m_set hm_7 mo0_6
  simp only [pS, Value.cells, Nat.reduceAdd, jnE, beE, Int.toNat_natCast, toNat_suc, toNat_pre] at mo0_7
  have mo1_7 := m_set_o hm_7 mo1_6 (by decide)
  have ml_7 := m_set_l hm_7 ml_6
  clear hm_7 mo0_6 mo1_6
  refine dh_nw (1) (fun M_ hM_ => (nw_alloc y22_az87 rfl)) trivial mo1_7 rfl ⟨.inl (by simp <;> omega), trivial⟩ ⟨.inl (by simp <;> omega), trivial⟩ (fun m_8 hm_8 => ?_)
  have mo1_8 := m_set hm_8 mo1_7
  simp only [pS, Value.cells, Nat.reduceAdd, jnE, beE, Int.toNat_natCast, toNat_suc, toNat_pre] at mo1_8
  have mo0_8 := m_set_o hm_8 mo0_7 (by decide)
  have ml_8 := m_set_l hm_8 ml_7
  clear hm_8 mo0_7 mo1_7
  refine dh_set (0) (fun M_ hM_ => (se_store (up_m rfl up_h) (u2 rfl (u8 rfl up_h)) rfl rfl (agr hM_ mo0_8 (by simp)) y22_sz87 rfl (nle rfl))) trivial ⟨.inr (wt_one 19 17 (by kernel_rfl)), ⟨.inl (by simp <;> omega), trivial⟩⟩ ⟨.inr (wt_one 19 17 (by kernel_rfl)), ⟨.inl (by simp <;> omega), trivial⟩⟩ (fun m_9 hm_9 => ?_)
  have mo0_9 := m_set hm_9 mo0_8
  simp only [pS, Value.cells, Nat.reduceAdd, jnE, beE, Int.toNat_natCast, toNat_suc, toNat_pre] at mo0_9
  have mo1_9 := m_set_o hm_9 mo1_8 (by decide)
  have ml_9 := m_set_l hm_9 ml_8
  clear hm_9 mo1_8 mo0_8
  refine dh_nil rfl ?_
  refine al_stm (st_store (up_n up_h) (up_n (u2 rfl up_h)) rfl rfl mo1_9 y22_sz87 rfl (nle rfl)) trivial rfl (fun m_10 hm_10 => ?_)
  have mo1_10 := m_set hm_10 mo1_9
  simp only [pS, Value.cells, Nat.reduceAdd, jnE, beE, Int.toNat_natCast, toNat_suc, toNat_pre] at mo1_10
  have mo0_10 := m_set_o hm_10 mo0_9 (by decide)
  have ml_10 := m_set_l hm_10 ml_9
  clear hm_10 mo0_9 mo1_9
  refine ae5 (up_n (up_n (up_m rfl (u2 rfl (u16 rfl s1_3))))) (up_n (up_n (up_m rfl (u2 rfl (u16 rfl s7_3))))) (up_n (up_n (up_m rfl (u2 rfl (u16 rfl s8_3))))) (up_n (up_n (up_m rfl up_h))) (up_n (up_n up_h)) ?_; clear s0_3 s1_3 s24_3 s2_3 s7_3 s8_3; intro e_11 s1_11 s7_11 s8_11 s9_11 s10_11
  refine then_n <| aw_seq <| at_ <| ar (ro_assign ev_c) rfl <| ae6 (up_m rfl s1_11) (up_m rfl s7_11) (up_m rfl s8_11) (up_m rfl s9_11) (up_m rfl s10_11) up_h ?_; clear s10_11 s1_11 s7_11 s8_11 s9_11; intro e_12 s1_12 s7_12 s8_12 s9_12 s10_12 s11_12
  refine then_n <| aw_seq <| aw_draw 14 (by kernel_rfl) (by kernel_rfl) (by kernel_rfl) (by kernel_rfl) ?_
  refine dr (ro_move s11_12) rfl <| dr (ro_move (up_m rfl s1_12)) rfl ?_
  (refine dr (ro_mul' (up_m rfl up_h) up_h ?_) rfl ?_; · ((first | unfold In64 | unfold InU64); omega))
  refine dr (ro_move (up_m rfl (u2 rfl s7_12))) rfl <| dr (ro_call (evL_cons up_h (evL_cons ev_c evL_nil)) rfl ((compare_ok _ _).mono (fun q h => show q = mA (sgnV (benN l j)) from h)) y22_hcf137) rfl ?_
  refine dr (ro_fld_ptr y22_fl87_1 rfl (up_m rfl (u4 rfl s9_12))) rfl <| dr (ro_eq (ro_ld_ptr y22_ty3 rfl mo0_10 up_h (nle rfl)) (by simp only [pS, Value.cells, Nat.reduceAdd, jnE, beE, Int.toNat_natCast, toNat_suc, toNat_pre] <;> rfl)) rfl ?_
  refine dr (ro_fld_ptr y22_fl87_1 rfl (up_m rfl (u2 rfl (u4 rfl s10_12)))) rfl <| dr (ro_eq (ro_ld_ptr y22_ty3 rfl mo1_10 up_h (nle rfl)) (by simp only [pS, Value.cells, Nat.reduceAdd, jnE, beE, Int.toNat_natCast, toNat_suc, toNat_pre] <;> rfl)) rfl ?_
  (refine dr (ro_add' (u2 rfl up_h) up_h ?_) rfl ?_; · ((first | unfold In64 | unfold InU64); omega))
  (refine dr (ro_mul' (up_m rfl (u4 rfl up_h)) up_h ?_) rfl ?_; · ((first | unfold In64 | unfold InU64); omega))
  (refine dr (ro_mul' up_h ev_c ?_) rfl ?_; · ((first | unfold In64 | unfold InU64); omega))
  (refine dr (ro_add' (up_m rfl (u8 rfl up_h)) up_h ?_) rfl ?_; · ((first | unfold In64 | unfold InU64); omega))
  refine dr (ro_assign up_h) rfl <| ds_nil <| ae6 (u2 rfl (u4 rfl (u8 rfl s7_12))) (u2 rfl (u4 rfl (u8 rfl s8_12))) (u2 rfl (u4 rfl (u8 rfl s9_12))) (u2 rfl (u4 rfl (u8 rfl s10_12))) (u2 rfl (u4 rfl (u8 rfl s11_12))) up_h ?_; clear s10_12 s11_12 s1_12 s7_12 s8_12 s9_12; intro e_13 s7_13 s8_13 s9_13 s10_13 s11_13 s12_13
  refine then_n <| aw_seq <| aw_seq <| at_ <| ar (ro_move s12_13) rfl <| ar (ro_lss up_h ev_c) rfl <| ae7 (u2 rfl s7_13) (u2 rfl s8_13) (u2 rfl s9_13) (u2 rfl s10_13) (u2 rfl s11_13) (u2 rfl s12_13) up_h ?_; clear s10_13 s11_13 s12_13 s7_13 s8_13 s9_13; intro e_14 s7_14 s8_14 s9_14 s10_14 s11_14 s12_14 s56_14
  refine then_n <| aw_case s56_14 (fun hq_15 => ?_) (fun hq_15 => ?_)
  ·replace hq_15 := bt hq_15
   refine aw_seq <| at_ <| ar (ro_assign ev_c) rfl <| ae1 up_h ?_; clear s10_14 s11_14 s12_14 s56_14 s7_14 s8_14 s9_14; intro e_16 s6_16
   refine then_n <| aw_ret <| then_r <| ret1 (.inr rfl) (by kernel_rfl) (resV_tmp s6_16) (.ro _ rfl) ?_
   clear s6_16 mo1_10 mo0_10 ml_10
   (rw [limV, if_neg (by assumption), if_pos (by assumption)])
  replace hq_15 := bf hq_15
  (have hh : 0 ≤ (2000 * s + sgnV (benN l j) * ((l.bs.getD (j - 1) default).cant + (l.bs.getD j default).cant) * 9810) := (by omega); have m1 := mul_in (x := (2000 * s + sgnV (benN l j) * ((l.bs.getD (j - 1) default).cant + (l.bs.getD j default).cant) * 9810)) (y := ((l.bs.getD (j - 1) default).len + (l.bs.getD j default).len)) 15886000 60000 e5 (by omega); have n1 := Int.mul_nonneg hh (show 0 ≤ ((l.bs.getD (j - 1) default).len + (l.bs.getD j default).len) by omega); have vv1 : InU64 ((2000 * s + sgnV (benN l j) * ((l.bs.getD (j - 1) default).cant + (l.bs.getD j default).cant) * 9810) * ((l.bs.getD (j - 1) default).len + (l.bs.getD j default).len)) := ⟨n1, by omega⟩; have vv2 : InU64 (benD l j) := ⟨by omega, by omega⟩; have vv3 : InU64 ((2000 * s + sgnV (benN l j) * ((l.bs.getD (j - 1) default).cant + (l.bs.getD j default).cant) * 9810) * ((l.bs.getD (j - 1) default).len + (l.bs.getD j default).len) * benD l j) := ⟨Int.mul_nonneg n1 (by omega), hu⟩; have vv4 : InU64 (2 * 2000 * max (benN l j) (-benN l j)) := ⟨by omega, by omega⟩; have vv5 : 0 < 2 * 2000 * max (benN l j) (-benN l j) := (by omega); have vv6 := Int.ediv_nonneg vv3.1 (Int.le_of_lt vv5); unfold InU64 at vv1 vv2 vv4)
  refine aw_skip <| then_n <| aw_seq <| at_ <| ar (ro_move s12_14) rfl <| ar (ro_fld_ptr y22_fl87_0 rfl (up_m rfl s9_14)) rfl <| ar (ro_eq (ro_ld_ptr y22_ty3 rfl mo0_10 up_h (nle rfl)) (by simp only [pS, Value.cells, Nat.reduceAdd, jnE, beE, Int.toNat_natCast, toNat_suc, toNat_pre] <;> rfl)) rfl ?_
  refine ar (ro_fld_ptr y22_fl87_0 rfl (up_m rfl (u2 rfl s10_14))) rfl <| ar (ro_eq (ro_ld_ptr y22_ty3 rfl mo1_10 up_h (nle rfl)) (by simp only [pS, Value.cells, Nat.reduceAdd, jnE, beE, Int.toNat_natCast, toNat_suc, toNat_pre] <;> rfl)) rfl ?_
  (refine ar (ro_add' (u2 rfl up_h) up_h ?_) rfl ?_; · ((first | unfold In64 | unfold InU64); omega))
  (refine ar (ro_mul' (up_m rfl (u4 rfl up_h)) up_h ?_) rfl ?_; · ((first | unfold In64 | unfold InU64); omega))
  (refine ar (ro_cvU up_h (by kernel_rfl) (by kernel_rfl) ?_) rfl ?_; · ((first | unfold In64 | unfold InU64); omega))
  refine ar (ro_move (u8 rfl s8_14)) rfl ?_
  (refine ar (ro_cvU up_h (by kernel_rfl) (by kernel_rfl) ?_) rfl ?_; · ((first | unfold In64 | unfold InU64); omega))
  refine ar (ro_call (evL_cons (u2 rfl up_h) (evL_cons up_h evL_nil)) rfl (mul64_low _ _ vv1 vv2 vv3) y22_hcf138) rfl <| ar (ro_move up_h) rfl <| ar (ro_extract up_h rfl) rfl <| ar (ro_extract (up_m rfl up_h) rfl) rfl <| ar (ro_assign (up_m rfl up_h)) rfl <| ar (ro_assign (up_m rfl up_h)) rfl <| ae4 (u16 rfl s7_14) (u16 rfl s11_14) (up_m rfl up_h) up_h ?_; clear s10_14 s11_14 s12_14 s56_14 s7_14 s8_14 s9_14; intro e_17 s7_17 s11_17 s13_17 s14_17
  refine then_n <| aw_seq <| at_ <| ar (ro_move s13_17) rfl <| ar (ro_move (up_m rfl s14_17)) rfl <| ar (ro_move (u2 rfl s11_17)) rfl ?_
  (refine ar (ro_mul' ev_c up_h ?_) rfl ?_; · ((first | unfold In64 | unfold InU64); omega))
  refine ar (ro_move (u4 rfl s7_17)) rfl <| ar (ro_move (up_m rfl (u4 rfl s7_17))) rfl ?_
  (refine ar (ro_neg' up_h ?_) rfl ?_; · ((first | unfold In64 | unfold InU64); omega))
  refine ar (ro_max (u2 rfl up_h) up_h) rfl ?_
  (refine ar (ro_mul' (u4 rfl up_h) up_h ?_) rfl ?_; · ((first | unfold In64 | unfold InU64); omega))
  (refine ar (ro_cvU up_h (by kernel_rfl) (by kernel_rfl) ?_) rfl ?_; · ((first | unfold In64 | unfold InU64); omega))
  refine ar (ro_call (evL_cons (up_m rfl (u8 rfl up_h)) (evL_cons (u8 rfl up_h) (evL_cons up_h evL_nil))) rfl (div64_low _ _ vv3 vv4 vv5) y22_hcf139) rfl <| ar (ro_move up_h) rfl <| ar (ro_extract up_h rfl) rfl <| ar (ro_extract (up_m rfl up_h) rfl) rfl <| ar (ro_assign (up_m rfl up_h)) rfl <| ar (ro_assign (up_m rfl up_h)) rfl <| ae1 (up_m rfl up_h) ?_; clear s11_17 s13_17 s14_17 s7_17; intro e_18 s15_18
  refine then_n <| aw_seq <| at_ <| ar (ro_move s15_18) rfl <| ar (ro_min up_h ev_c) rfl ?_
  (refine ar (ro_cvI up_h (by kernel_rfl) (by kernel_rfl) ?_) rfl ?_; · ((first | unfold In64 | unfold InU64); omega))
  refine ar (ro_assign up_h) rfl <| ae1 up_h ?_; clear s15_18; intro e_19 s6_19
  refine then_n <| aw_ret <| ret1 (.inr rfl) (by kernel_rfl) (resV_tmp s6_19) (.ro _ rfl) ?_
  clear s6_19 mo1_10 mo0_10 ml_10
  (rw [limV, if_neg (by assumption), if_neg (by assumption)]; rfl)
end Go.Proofs.Ytonjcljnpcmenaa

/- Contracts of chapter 1: the limit at a joint of any line; vehicles, poses opened. No conditions on a program. -/
namespace Go.Proofs.Ytonjcljnpcmenaa
open Go Go.RowKit Go.Proofs
set_option linter.unusedSimpArgs false
set_option linter.unusedVariables false
theorem y23_fl28_0 : FldIs Try.prog 28 0 0 false 1 := by unfold FldIs; kernel_rfl
theorem y23_fl28_1 : FldIs Try.prog 28 1 1 false 1 := by unfold FldIs; kernel_rfl
theorem y23_fl28_2 : FldIs Try.prog 28 2 2 false 1 := by unfold FldIs; kernel_rfl
theorem y23_hcf76 : ∀ args w, (callFunc 76 args).run Try.prog w = .ok (.enter 76 args) w := fun _ _ => by kernel_rfl
theorem y23_hcf77 : ∀ args w, (callFunc 77 args).run Try.prog w = .ok (.enter 77 args) w := fun _ _ => by kernel_rfl
theorem y23_hcf78 : ∀ args w, (callFunc 78 args).run Try.prog w = .ok (.enter 78 args) w := fun _ _ => by kernel_rfl
theorem y23_hcf83 : ∀ args w, (callFunc 83 args).run Try.prog w = .ok (.enter 83 args) w := fun _ _ => by kernel_rfl
theorem y23_hcf84 : ∀ args w, (callFunc 84 args).run Try.prog w = .ok (.enter 84 args) w := fun _ _ => by kernel_rfl
theorem y23_hcf85 : ∀ args w, (callFunc 85 args).run Try.prog w = .ok (.enter 85 args) w := fun _ _ => by kernel_rfl
theorem y23_hcf94 : ∀ args w, (callFunc 94 args).run Try.prog w = .ok (.enter 94 args) w := fun _ _ => by kernel_rfl
theorem y23_hcf97 : ∀ args w, (callFunc 97 args).run Try.prog w = .ok (.enter 97 args) w := fun _ _ => by kernel_rfl
theorem y23_hcf98 : ∀ args w, (callFunc 98 args).run Try.prog w = .ok (.enter 98 args) w := fun _ _ => by kernel_rfl
theorem y23_sl185 : SlIs Try.prog 185 34 1 8 (.int .i64 0) := ⟨by kernel_rfl, by kernel_rfl, by kernel_rfl⟩
theorem y23_ty26 : TyIs Try.prog 26 true 4 := ⟨by kernel_rfl, by kernel_rfl⟩
theorem y23_ty28 : TyIs Try.prog 28 true 3 := ⟨by kernel_rfl, by kernel_rfl⟩
theorem y23_ty3 : TyIs Try.prog 3 false 1 := ⟨by kernel_rfl, by kernel_rfl⟩

theorem firstE_0 (e : Int) : firstE [0, e] = e := by
  by_cases h : e = 0 <;> simp [firstE, h]
def sidE (s : Int) : Int := unlessE (withinB s 0 5000) 2
theorem sidE_z {s : Int} : sidE s = 0 ↔ 0 ≤ s ∧ s ≤ 5000 := by
  unfold sidE unlessE; rw [← withinB_iff]
  cases withinB s 0 5000 <;> simp
def limE (l : Lin) (s j : Int) : Int := if sidE s = 0 then misE j 1 (l.js.length - 2) else sidE s
set_option maxRecDepth 100000 in
set_option maxHeartbeats 4000000 in
theorem limitAt_good (l : Lin) (hl : Sho l) (hg : (linM l).2 = 0) (s j : Int) (hL : 0 ≤ s ∧ s ≤ 5000 → ∀ n : Nat, 1 ≤ n ∧ n + 2 ≤ l.js.length → FnOk Try.prog 85 [tkA l, mA s, mA n] (fun q => q = mA (limV l s n))) : FnOk Try.prog 23 [lnA l, mA s, mA j] (fun q => q = .tuple [mA (if limE l s j = 0 then limV l s j.toNat else 0), mA (limE l s j)]) := by
  refine fnOk_of (fn := Try.f23) 34 (by kernel_rfl) rfl (by kernel_rfl) (Nat.le_of_ble_eq_true rfl) ?_
  intro e_0 m_0 hA hm_0
  have s0_0 : evA e_0 (.tmp 0) = _ := hA 0 _ rfl
  have s1_0 : evA e_0 (.tmp 1) = _ := hA 1 _ rfl
  have s2_0 : evA e_0 (.tmp 2) = _ := hA 2 _ rfl
  have ml_0 : m_0.length = 0 := by rw [hm_0]; rfl
  clear hA hm_0
  have h := rgt_of hg; have hn1 := h.n1; have hn0 := h.n0; have hjs := h.js
  refine aw_seq <| at_ <| al_stm (st_box s0_0 rfl ml_0) trivial rfl (fun m_1 hm_1 => ?_)
  have mo0_1 := m_push hm_1 ml_0
  have ml_1 := m_push_l hm_1 ml_0
  have ml_1 : _ = 1 := ml_1
  clear hm_1
  refine ar (ro_assign ev_c) rfl <| ar (ro_assign ev_c) rfl <| ae3 (up_m rfl (u2 rfl s1_0)) (up_m rfl (u2 rfl s2_0)) (u2 rfl up_h) ?_; clear s0_0 s1_0 s2_0; intro e_2 s1_2 s2_2 s3_2
  refine then_n <| aw_seq <| at_ <| ar (ro_eq (ro_ld_ptr y23_ty26 rfl mo0_1 s3_2 (nle rfl)) (by simp only [pS, Value.cells, Nat.reduceAdd] <;> rfl)) rfl ?_
  refine ar (ro_call (evL_cons up_h evL_nil) rfl (yOpen_good l hl hg) y23_hcf76) rfl <| ar (ro_move up_h) rfl <| ar (ro_extract up_h rfl) rfl <| ar (ro_extract (up_m rfl up_h) rfl) rfl <| ar (ro_assign (up_m rfl up_h)) rfl <| ar (ro_assign (up_m rfl up_h)) rfl <| ae4 (up_m rfl (u2 rfl (u4 rfl s1_2))) (up_m rfl (u2 rfl (u4 rfl s2_2))) (up_m rfl up_h) up_h ?_; clear s1_2 s2_2 s3_2; intro e_3 s1_3 s2_3 s8_3 s9_3
  refine then_n <| aw_seq <| aw_seq <| at_ <| ar (ro_move s9_3) rfl <| ar (ro_move (up_m rfl s1_3)) rfl <| ar (ro_call (evL_cons up_h evL_nil) rfl (sideErr_ok _) y23_hcf83) rfl <| ar (ro_lit y23_sl185 (evP_cons (u2 rfl up_h) (evP_cons up_h evP_nil)) rfl rfl rfl rfl) rfl <| ar (ro_call (evL_cons up_h evL_nil) rfl ((yFirst_ok [_, _] (by simp)).mono (fun q h => h.trans (show mA (firstE [0, unlessE (withinB s 0 5000) 2]) = mA (sidE s) from congrArg mA (firstE_0 _)))) y23_hcf77) rfl ?_
  refine ar (ro_assign up_h) rfl <| ae4 (u2 rfl (u4 rfl s1_3)) (u2 rfl (u4 rfl s2_3)) (u2 rfl (u4 rfl s8_3)) up_h ?_; clear s1_3 s2_3 s8_3 s9_3; intro e_4 s1_4 s2_4 s8_4 s9_4
  refine then_n <| aw_seq <| at_ <| ar (ro_move s9_4) rfl <| ar (ro_neq up_h ev_c) rfl <| ae5 (u2 rfl s1_4) (u2 rfl s2_4) (u2 rfl s8_4) (u2 rfl s9_4) up_h ?_; clear s1_4 s2_4 s8_4 s9_4; intro e_5 s1_5 s2_5 s8_5 s9_5 s22_5
  refine then_n <| aw_case s22_5 (fun hq_6 => ?_) (fun hq_6 => ?_)
  ·replace hq_6 := bnt hq_6
   refine aw_seq <| at_ <| ar (ro_move s9_5) rfl <| ar (ro_assign ev_c) rfl <| ar (ro_assign (up_m rfl up_h)) rfl <| ae2 (up_m rfl up_h) up_h ?_; clear s1_5 s22_5 s2_5 s8_5 s9_5; intro e_7 s6_7 s7_7
   refine then_n <| aw_ret <| then_r <| ret2 (.inr rfl) (by kernel_rfl) (resV_tmp s6_7) (resV_tmp s7_7) (.ro _ rfl) (.ro _ rfl) ?_
   clear s6_7 s7_7 mo0_1 ml_1
   (have hs : ¬ sidE s = 0 := (by assumption); simp [limE, hs])
  replace hq_6 := bnf hq_6
  (have hs : sidE s = 0 := (by assumption); have hs2 := sidE_z.1 hs)
  refine aw_skip <| then_n <| aw_seq <| aw_seq <| at_ <| ar (ro_move s8_5) rfl <| ar (ro_move (up_m rfl s2_5)) rfl <| ar (ro_call (evL_cons (up_m rfl up_h) (evL_cons up_h evL_nil)) rfl (yInnerErr_ok l h _) y23_hcf84) rfl <| ar (ro_assign up_h) rfl <| ae4 (u4 rfl s1_5) (u4 rfl s2_5) (u4 rfl s8_5) up_h ?_; clear s1_5 s22_5 s2_5 s8_5 s9_5; intro e_8 s1_8 s2_8 s8_8 s10_8
  refine then_n <| aw_seq <| at_ <| ar (ro_move s10_8) rfl <| ar (ro_neq up_h ev_c) rfl <| ae5 (u2 rfl s1_8) (u2 rfl s2_8) (u2 rfl s8_8) (u2 rfl s10_8) up_h ?_; clear s10_8 s1_8 s2_8 s8_8; intro e_9 s1_9 s2_9 s8_9 s10_9 s28_9
  refine then_n <| aw_case s28_9 (fun hq_10 => ?_) (fun hq_10 => ?_)
  ·replace hq_10 := bnt hq_10
   refine aw_seq <| at_ <| ar (ro_move s10_9) rfl <| ar (ro_assign ev_c) rfl <| ar (ro_assign (up_m rfl up_h)) rfl <| ae2 (up_m rfl up_h) up_h ?_; clear s10_9 s1_9 s28_9 s2_9 s8_9; intro e_11 s6_11 s7_11
   refine then_n <| aw_ret <| then_r <| ret2 (.inr rfl) (by kernel_rfl) (resV_tmp s6_11) (resV_tmp s7_11) (.ro _ rfl) (.ro _ rfl) ?_
   clear s6_11 s7_11 mo0_1 ml_1
   (have hm : ¬ misE j 1 (l.js.length - 2) = 0 := (by assumption); simp [limE, hs, hm])
  replace hq_10 := bnf hq_10
  (have hm : misE j 1 (l.js.length - 2) = 0 := (by assumption); have hm2 := misE_z.1 hm; have lm := hL hs2 j.toNat (by omega); rw [show ((j.toNat : Nat) : Int) = j by omega] at lm)
  refine aw_skip <| then_n <| aw_seq <| at_ <| ar (ro_move s8_9) rfl <| ar (ro_move (up_m rfl s1_9)) rfl <| ar (ro_move (u2 rfl s2_9)) rfl <| ar (ro_call (evL_cons (u2 rfl up_h) (evL_cons (up_m rfl up_h) (evL_cons up_h evL_nil))) rfl (lm) y23_hcf85) rfl <| ar (ro_assign up_h) rfl <| ar (ro_assign ev_c) rfl <| ae2 (up_m rfl up_h) up_h ?_; clear s10_9 s1_9 s28_9 s2_9 s8_9; intro e_12 s6_12 s7_12
  refine then_n <| aw_ret <| ret2 (.inr rfl) (by kernel_rfl) (resV_tmp s6_12) (resV_tmp s7_12) (.ro _ rfl) (.ro _ rfl) ?_
  clear s6_12 s7_12 mo0_1 ml_1
  simp [limE, hs, hm]
abbrev vehA (L c s : Int) : AV := .agg [mA L, mA c, mA s]
def vehE (L c s : Int) : Int := unlessE (withinB L 1000 30000 && withinB c 0 1000 && withinB s 100 30000) 2
theorem vehE_z {L c s : Int} : vehE L c s = 0 ↔ (1000 ≤ L ∧ L ≤ 30000) ∧ (0 ≤ c ∧ c ≤ 1000) ∧ 100 ≤ s ∧ s ≤ 30000 := by
  unfold vehE unlessE
  rw [← withinB_iff, ← withinB_iff, ← withinB_iff]
  cases withinB L 1000 30000 <;> cases withinB c 0 1000 <;> cases withinB s 100 30000 <;> simp
set_option maxRecDepth 100000 in
set_option maxHeartbeats 4000000 in
theorem checkVehicle_ok (L c s : Int) : FnOk Try.prog 78 [vehA L c s] (fun q => q = mA (vehE L c s)) := by
  refine fnOk_of (fn := Try.f78) 17 (by kernel_rfl) rfl (by kernel_rfl) (Nat.le_of_ble_eq_true rfl) ?_
  intro e_0 m_0 hA hm_0
  have s0_0 : evA e_0 (.tmp 0) = _ := hA 0 _ rfl
  have ml_0 : m_0.length = 0 := by rw [hm_0]; rfl
  clear hA hm_0
  refine aw_seq <| at_ <| al_stm (st_box s0_0 rfl ml_0) trivial rfl (fun m_1 hm_1 => ?_)
  have mo0_1 := m_push hm_1 ml_0
  have ml_1 := m_push_l hm_1 ml_0
  have ml_1 : _ = 1 := ml_1
  clear hm_1
  refine ar (ro_assign ev_c) rfl <| ae1 (up_m rfl up_h) ?_; clear s0_0; intro e_2 s1_2
  refine then_n <| aw_seq <| at_ <| ar (ro_fld_ptr y23_fl28_0 rfl s1_2) rfl <| ar (ro_eq (ro_ld_ptr y23_ty3 rfl mo0_1 up_h (nle rfl)) (by simp only [pS, Value.cells, Nat.reduceAdd] <;> rfl)) rfl ?_
  refine ar (ro_call (evL_cons up_h (evL_cons ev_c (evL_cons ev_c evL_nil))) rfl (yWithin_ok _ _ _) y23_hcf97) rfl <| ar (ro_move up_h) rfl <| al_case up_h (fun hb_3 hq_3 => ?_) (fun hb_3 hq_3 => ?_)
  ·skip
   refine al_ro' (ro_fld_ptr y23_fl28_1 rfl (u4 rfl s1_2)) ⟨_, rfl, hb_3⟩ rfl ?_
   refine al_ro' (ro_eq (ro_ld_ptr y23_ty3 rfl mo0_1 up_h (nle rfl)) (by simp only [pS, Value.cells, Nat.reduceAdd] <;> rfl)) ⟨_, rfl, (up_m rfl hb_3)⟩ rfl ?_
   refine al_ro' (ro_call (evL_cons up_h (evL_cons ev_c (evL_cons ev_c evL_nil))) rfl (yWithin_ok _ _ _) y23_hcf97) ⟨_, rfl, (u2 rfl hb_3)⟩ rfl ?_
   refine ar (ro_pickT (up_m rfl (u2 rfl hb_3)) up_h) rfl <| ar (ro_move up_h) rfl <| al_case up_h (fun hb_4 hq_4 => ?_) (fun hb_4 hq_4 => ?_)
   ·skip
    refine al_ro' (ro_fld_ptr y23_fl28_2 rfl (up_m rfl (u8 rfl s1_2))) ⟨_, rfl, hb_4⟩ rfl ?_
    refine al_ro' (ro_eq (ro_ld_ptr y23_ty3 rfl mo0_1 up_h (nle rfl)) (by simp only [pS, Value.cells, Nat.reduceAdd] <;> rfl)) ⟨_, rfl, (up_m rfl hb_4)⟩ rfl ?_
    refine al_ro' (ro_call (evL_cons up_h (evL_cons ev_c (evL_cons ev_c evL_nil))) rfl (yWithin_ok _ _ _) y23_hcf97) ⟨_, rfl, (u2 rfl hb_4)⟩ rfl ?_
    refine ar (ro_pickT (up_m rfl (u2 rfl hb_4)) up_h) rfl <| ar (ro_call (evL_cons up_h (evL_cons ev_c evL_nil)) rfl (yUnless_ok _ _) y23_hcf94) rfl <| ar (ro_assign up_h) rfl <| ae1 up_h ?_; clear hb_3 hb_4 s1_2; intro e_5 s2_5
    refine then_n <| aw_ret <| ret1 (.inr rfl) (by kernel_rfl) (resV_tmp s2_5) (.ro _ rfl) ?_
    clear s2_5 mo0_1 ml_1
    (unfold vehE; simp_all)
   refine al_skip' ⟨_, rfl, .inl hb_4⟩ rfl ?_
   refine al_skip' ⟨_, rfl, .inl (up_m rfl hb_4)⟩ rfl ?_
   refine al_skip' ⟨_, rfl, .inl (u2 rfl hb_4)⟩ rfl ?_
   refine ar (ro_pickF (up_m rfl (u2 rfl hb_4)) ev_c) rfl <| ar (ro_call (evL_cons up_h (evL_cons ev_c evL_nil)) rfl (yUnless_ok _ _) y23_hcf94) rfl <| ar (ro_assign up_h) rfl <| ae1 up_h ?_; clear hb_3 hb_4 s1_2; intro e_6 s2_6
   refine then_n <| aw_ret <| ret1 (.inr rfl) (by kernel_rfl) (resV_tmp s2_6) (.ro _ rfl) ?_
   clear s2_6 mo0_1 ml_1
   (unfold vehE; simp_all)
  refine al_skip' ⟨_, rfl, .inl hb_3⟩ rfl ?_
  refine al_skip' ⟨_, rfl, .inl (up_m rfl hb_3)⟩ rfl ?_
  refine al_skip' ⟨_, rfl, .inl (u2 rfl hb_3)⟩ rfl ?_
  refine ar (ro_pickF (up_m rfl (u2 rfl hb_3)) ev_c) rfl <| ar (ro_move up_h) rfl <| al_skip' ⟨_, rfl, .inl up_h⟩ rfl ?_
  refine al_skip' ⟨_, rfl, .inl (up_m rfl up_h)⟩ rfl ?_
  refine al_skip' ⟨_, rfl, .inl (u2 rfl up_h)⟩ rfl ?_
  refine ar (ro_pickF (up_m rfl (u2 rfl up_h)) ev_c) rfl <| ar (ro_call (evL_cons up_h (evL_cons ev_c evL_nil)) rfl (yUnless_ok _ _) y23_hcf94) rfl <| ar (ro_assign up_h) rfl <| ae1 up_h ?_; clear hb_3 s1_2; intro e_7 s2_7
  refine then_n <| aw_ret <| ret1 (.inr rfl) (by kernel_rfl) (resV_tmp s2_7) (.ro _ rfl) ?_
  clear s2_7 mo0_1 ml_1
  (unfold vehE; simp_all)
/-- The error of a pose. -/
def posE (l : Lin) (L s p : Int) : Int := unlessE (withinB p 0 (plaP l.bs l.bs.length - L) && decide (p.tmod s = 0)) 6
theorem posE_z {l : Lin} {L s p : Int} : posE l L s p = 0 ↔ (0 ≤ p ∧ p ≤ plaP l.bs l.bs.length - L) ∧ p.tmod s = 0 := by
  unfold posE unlessE
  rw [← withinB_iff]
  cases withinB p 0 (plaP l.bs l.bs.length - L) <;> by_cases h : p.tmod s = 0 <;> simp [h]
set_option maxRecDepth 100000 in
set_option maxHeartbeats 4000000 in
theorem openPose_good (l : Lin) (hl : Sho l) (hg : (linM l).2 = 0) (L c s p : Int) (hv : vehE L c s = 0) : FnOk Try.prog 71 [lnA l, vehA L c s, mA p] (fun q => q = .tuple [tkA l, mA (posE l L s p)]) := by
  refine fnOk_of (fn := Try.f71) 39 (by kernel_rfl) rfl (by kernel_rfl) (Nat.le_of_ble_eq_true rfl) ?_
  intro e_0 m_0 hA hm_0
  have s0_0 : evA e_0 (.tmp 0) = _ := hA 0 _ rfl
  have s1_0 : evA e_0 (.tmp 1) = _ := hA 1 _ rfl
  have s2_0 : evA e_0 (.tmp 2) = _ := hA 2 _ rfl
  have ml_0 : m_0.length = 0 := by rw [hm_0]; rfl
  clear hA hm_0
  have hf : firstE [0, vehE L c s] = vehE L c s := firstE_0 _; have hv2 := vehE_z.1 hv; have h := rgt_of hg; have hpb := h.pla (n := l.bs.length) (Nat.le_refl _)
  refine aw_seq <| at_ <| al_stm (st_box s0_0 rfl ml_0) trivial rfl (fun m_1 hm_1 => ?_)
  have mo0_1 := m_push hm_1 ml_0
  have ml_1 := m_push_l hm_1 ml_0
  have ml_1 : _ = 1 := ml_1
  clear hm_1
  refine al_stm (st_box (up_m rfl s1_0) rfl ml_1) trivial rfl (fun m_2 hm_2 => ?_)
  have mo1_2 := m_push hm_2 ml_1
  have mo0_2 := m_push_o hm_2 mo0_1
  have ml_2 := m_push_l hm_2 ml_1
  have ml_2 : _ = 2 := ml_2
  clear hm_2 mo0_1
  refine ar (ro_assign ev_c) rfl <| ar (ro_assign ev_c) rfl <| ae3 (u4 rfl s2_0) (up_m rfl (u2 rfl up_h)) (u2 rfl up_h) ?_; clear s0_0 s1_0 s2_0; intro e_3 s2_3 s3_3 s4_3
  refine then_n <| aw_seq <| at_ <| ar (ro_eq (ro_ld_ptr y23_ty26 rfl mo0_2 s3_3 (nle rfl)) (by simp only [pS, Value.cells, Nat.reduceAdd] <;> rfl)) rfl ?_
  refine ar (ro_call (evL_cons up_h evL_nil) rfl (yOpen_good l hl hg) y23_hcf76) rfl <| ar (ro_move up_h) rfl <| ar (ro_extract up_h rfl) rfl <| ar (ro_extract (up_m rfl up_h) rfl) rfl <| ar (ro_assign (up_m rfl up_h)) rfl <| ar (ro_assign (up_m rfl up_h)) rfl <| ae4 (up_m rfl (u2 rfl (u4 rfl s2_3))) (up_m rfl (u2 rfl (u4 rfl s4_3))) (up_m rfl up_h) up_h ?_; clear s2_3 s3_3 s4_3; intro e_4 s2_4 s4_4 s8_4 s9_4
  refine then_n <| aw_seq <| aw_seq <| at_ <| ar (ro_move s9_4) rfl <| ar (ro_eq (ro_ld_ptr y23_ty28 rfl mo1_2 (up_m rfl s4_4) (nle rfl)) (by simp only [pS, Value.cells, Nat.reduceAdd] <;> rfl)) rfl ?_
  refine ar (ro_call (evL_cons up_h evL_nil) rfl (checkVehicle_ok L c s) y23_hcf78) rfl <| ar (ro_lit y23_sl185 (evP_cons (u2 rfl up_h) (evP_cons up_h evP_nil)) rfl rfl rfl rfl) rfl <| ar (ro_call (evL_cons up_h evL_nil) rfl ((yFirst_ok [_, _] (by simp)).mono (fun q h => h.trans (by rw [hf]))) y23_hcf77) rfl ?_
  refine ar (ro_assign up_h) rfl <| ae4 (u2 rfl (u4 rfl s2_4)) (u2 rfl (u4 rfl s4_4)) (u2 rfl (u4 rfl s8_4)) up_h ?_; clear s2_4 s4_4 s8_4 s9_4; intro e_5 s2_5 s4_5 s8_5 s9_5
  refine then_n <| aw_seq <| at_ <| ar (ro_move s9_5) rfl <| ar (ro_neq up_h ev_c) rfl <| ae5 (u2 rfl s2_5) (u2 rfl s4_5) (u2 rfl s8_5) (u2 rfl s9_5) up_h ?_; clear s2_5 s4_5 s8_5 s9_5; intro e_6 s2_6 s4_6 s8_6 s9_6 s21_6
  refine then_n <| aw_case s21_6 (fun hq_7 => ?_) (fun hq_7 => ?_)
  · replace hq_7 := bnt hq_7; exfalso; omega
  replace hq_7 := bnf hq_7
  refine aw_skip <| then_n <| aw_seq <| aw_draw 18 (by kernel_rfl) (by kernel_rfl) (by kernel_rfl) (by kernel_rfl) ?_
  refine dr (ro_move s8_6) rfl <| dr (ro_move (up_m rfl s2_6)) rfl <| dr (ro_move (u2 rfl s8_6)) rfl <| dr (ro_call (evL_cons up_h evL_nil) rfl (length_ok l h) y23_hcf98) rfl <| dr (ro_fld_ptr y23_fl28_0 rfl (u4 rfl s4_6)) rfl <| dr (ro_eq (ro_ld_ptr y23_ty3 rfl mo1_2 up_h (nle rfl)) (by simp only [pS, Value.cells, Nat.reduceAdd] <;> rfl)) rfl ?_
  (refine dr (ro_sub' (u2 rfl up_h) up_h ?_) rfl ?_; · (unfold In64; omega))
  refine dr (ro_call (evL_cons (up_m rfl (u4 rfl up_h)) (evL_cons ev_c (evL_cons up_h evL_nil))) rfl (yWithin_ok _ _ _) y23_hcf97) rfl <| dr (ro_move up_h) rfl <| ds_case up_h (fun hb_9 hq_9 => ?_) (fun hb_9 hq_9 => ?_)
  ·skip
   refine ds_ro' (ro_move (up_m rfl (u8 rfl s2_6))) ⟨_, rfl, hb_9⟩ rfl ?_
   refine ds_ro' (ro_fld_ptr y23_fl28_2 rfl (u2 rfl (u8 rfl s4_6))) ⟨_, rfl, (up_m rfl hb_9)⟩ rfl ?_
   refine ds_ro' (ro_eq (ro_ld_ptr y23_ty3 rfl mo1_2 up_h (nle rfl)) (by simp only [pS, Value.cells, Nat.reduceAdd] <;> rfl)) ⟨_, rfl, (u2 rfl hb_9)⟩ rfl ?_
   refine ds_ro' (ro_rem (u2 rfl up_h) up_h (by omega)) ⟨_, rfl, (up_m rfl (u2 rfl hb_9))⟩ rfl ?_
   refine ds_ro' (ro_eql up_h ev_c) ⟨_, rfl, (u4 rfl hb_9)⟩ rfl ?_
   refine dr (ro_pickT (up_m rfl (u4 rfl hb_9)) up_h) rfl <| dr (ro_call (evL_cons up_h (evL_cons ev_c evL_nil)) rfl (yUnless_ok _ _) y23_hcf94) rfl <| dr (ro_assign (up_m rfl (u2 rfl (u4 rfl (u8 rfl up_h))))) rfl <| dr (ro_assign (up_m rfl up_h)) rfl <| ds_nil <| ae2 (up_m rfl up_h) up_h ?_; clear hb_9 s21_6 s2_6 s4_6 s8_6 s9_6; intro e_10 s6_10 s7_10
   refine then_n <| aw_ret <| ret2 (.inr rfl) (by kernel_rfl) (resV_tmp s6_10) (resV_tmp s7_10) (.ro _ rfl) (.ro _ rfl) ?_
   clear s6_10 s7_10 mo1_2 mo0_2 ml_2
   (unfold posE; simp_all)
  refine ds_skip' ⟨_, rfl, .inl hb_9⟩ rfl ?_
  refine ds_skip' ⟨_, rfl, .inl (up_m rfl hb_9)⟩ rfl ?_
  refine ds_skip' ⟨_, rfl, .inl (u2 rfl hb_9)⟩ rfl ?_
  refine ds_skip' ⟨_, rfl, .inl (up_m rfl (u2 rfl hb_9))⟩ rfl ?_
  refine ds_skip' ⟨_, rfl, .inl (u4 rfl hb_9)⟩ rfl ?_
  refine dr (ro_pickF (up_m rfl (u4 rfl hb_9)) ev_c) rfl <| dr (ro_call (evL_cons up_h (evL_cons ev_c evL_nil)) rfl (yUnless_ok _ _) y23_hcf94) rfl <| dr (ro_assign (up_m rfl (u2 rfl (u4 rfl (u8 rfl up_h))))) rfl <| dr (ro_assign (up_m rfl up_h)) rfl <| ds_nil <| ae2 (up_m rfl up_h) up_h ?_; clear hb_9 s21_6 s2_6 s4_6 s8_6 s9_6; intro e_11 s6_11 s7_11
  refine then_n <| aw_ret <| ret2 (.inr rfl) (by kernel_rfl) (resV_tmp s6_11) (resV_tmp s7_11) (.ro _ rfl) (.ro _ rfl) ?_
  clear s6_11 s7_11 mo1_2 mo0_2 ml_2
  (unfold posE; simp_all)
end Go.Proofs.Ytonjcljnpcmenaa

/- Contracts of chapter 1: the deviation at a joint beneath a pose. No conditions on a program. -/
namespace Go.Proofs.Ytonjcljnpcmenaa
open Go Go.RowKit Go.Proofs
set_option linter.unusedSimpArgs false
set_option linter.unusedVariables false


theorem fdivF {n k : Int} (hk : 1 ≤ k) : (n.tmod k < 0 → n.tdiv k - 1 = n / k) ∧ (¬ n.tmod k < 0 → n.tdiv k = n / k) := by
  have h1 := Int.mul_tdiv_add_tmod n k
  have h2 : n.tmod k < k := Int.tmod_lt_of_pos n (by omega)
  have h3 : -k < n.tmod k := Int.lt_tmod_of_pos n (by omega)
  constructor
  · intro h
    have := (Int.ediv_emod_unique (a := n) (b := k) (r := n.tmod k + k) (q := n.tdiv k - 1) (by omega)).2 ⟨by rw [Int.mul_sub]; omega, by omega, by omega⟩
    exact this.1.symm
  · intro h
    have := (Int.ediv_emod_unique (a := n) (b := k) (r := n.tmod k) (q := n.tdiv k) (by omega)).2 ⟨by omega, by omega, h2⟩
    exact this.1.symm
set_option maxRecDepth 100000 in
set_option maxHeartbeats 1000000 in
theorem yFloor_ok (n k : Int) (hk : 1 ≤ k) (hn : -4000000000000000000 ≤ n ∧ n ≤ 4000000000000000000) : FnOk Try.prog 132 [mA n, mA k] (fun q => q = mA (n / k)) := by
  have hb := tdiv_bd hn k
  have hf := fdivF (n := n) hk
  refine fnOk_of (fn := Try.f132) 16 (by kernel_rfl) rfl (by kernel_rfl) (Nat.le_of_ble_eq_true rfl) ?_
  intro e_0 m_0 hA hm_0
  have s0_0 : evA e_0 (.tmp 0) = _ := hA 0 _ rfl
  have s1_0 : evA e_0 (.tmp 1) = _ := hA 1 _ rfl
  have ml_0 : m_0.length = 0 := by rw [hm_0]; rfl
  clear hA hm_0
  refine aw_seq <| at_ <| ar (ro_assign ev_c) rfl <| ae2 (up_m rfl s0_0) (up_m rfl s1_0) ?_; clear s0_0 s1_0; intro e_1 s0_1 s1_1
  refine then_n <| aw_seq <| at_ <| ar (ro_move s0_1) rfl <| ar (ro_move (up_m rfl s1_1)) rfl ?_
  (refine ar (ro_quo' (up_m rfl up_h) up_h (by omega) ?_) rfl ?_; · (unfold In64; omega))
  refine ar (ro_assign up_h) rfl <| ae3 (u4 rfl s0_1) (u4 rfl s1_1) up_h ?_; clear s0_1 s1_1; intro e_2 s0_2 s1_2 s5_2
  refine then_n <| aw_seq <| aw_seq <| at_ <| ar (ro_move s0_2) rfl <| ar (ro_move (up_m rfl s1_2)) rfl <| ar (ro_rem (up_m rfl up_h) up_h (by omega)) rfl ?_
  refine ar (ro_lss up_h ev_c) rfl <| ae2 (u4 rfl s5_2) up_h ?_; clear s0_2 s1_2 s5_2; intro e_3 s5_3 s12_3
  refine then_n <| aw_case s12_3 (fun hq_4 => ?_) (fun hq_4 => ?_)
  ·replace hq_4 := bt hq_4
   refine at_ <| ar (ro_move s5_3) rfl ?_
   (refine ar (ro_sub' up_h ev_c ?_) rfl ?_; · (unfold In64; omega))
   refine ar (ro_assign up_h) rfl <| ae1 up_h ?_; clear s12_3 s5_3; intro e_5 s5_5
   refine then_n <| aw_seq <| at_ <| ar (ro_move s5_5) rfl <| ar (ro_assign up_h) rfl <| ae1 up_h ?_; clear s5_5; intro e_6 s4_6
   refine then_n <| aw_ret <| ret1 (.inr rfl) (by kernel_rfl) (resV_tmp s4_6) (.ro _ rfl) ?_
   clear s4_6  ml_0
   (refine avj ?_; exact hf.1 (by assumption))
  replace hq_4 := bf hq_4
  refine aw_skip <| then_n <| aw_seq <| at_ <| ar (ro_move s5_3) rfl <| ar (ro_assign up_h) rfl <| ae1 up_h ?_; clear s12_3 s5_3; intro e_7 s4_7
  refine then_n <| aw_ret <| ret1 (.inr rfl) (by kernel_rfl) (resV_tmp s4_7) (.ro _ rfl) ?_
  clear s4_7  ml_0
  (refine avj ?_; exact hf.2 (by assumption))
def addAt (ws : List Int) (i : Nat) (d : Int) : List Int := ws.set i (ws.getD i default + d)
def subAt (ws : List Int) (i : Nat) (d : Int) : List Int := ws.set i (ws.getD i default - d)
theorem addAt_f (ws : List Int) (i : Nat) (d : Int) : ws.set i (ws.getD i default + d) = addAt ws i d := rfl
theorem subAt_f (ws : List Int) (i : Nat) (d : Int) : ws.set i (ws.getD i default - d) = subAt ws i d := rfl
/-- The sizes of the first n numbers together. -/
def absP (ws : List Int) : Nat → Nat
  | 0 => 0
  | n + 1 => absP ws n + (ws.getD n default).natAbs
theorem absP_mono {ws : List Int} {m : Nat} : ∀ {n : Nat}, m ≤ n → absP ws m ≤ absP ws n
  | 0, h => by obtain rfl : m = 0 := by omega
               exact Nat.le_refl _
  | n + 1, h => by
    by_cases hm : m = n + 1
    · subst hm; exact Nat.le_refl _
    · have := absP_mono (ws := ws) (m := m) (n := n) (by omega)
      simp only [absP]; omega
theorem absP_get {ws : List Int} {n i : Nat} (h : i < n) : (ws.getD i default).natAbs ≤ absP ws n := by
  have := absP_mono (ws := ws) (m := i + 1) (n := n) (by omega)
  simp only [absP] at this; omega
theorem getD_setW (ws : List Int) (i j : Nat) (v : Int) : (ws.set i v).getD j default = if i = j ∧ j < ws.length then v else ws.getD j default := by
  rw [List.getD_eq_getElem?_getD, List.getElem?_set]
  by_cases h : i = j
  · subst h
    by_cases hl : i < ws.length
    · simp [hl]
    · simp [hl]
  · simp [h]
theorem absP_set (ws : List Int) (i : Nat) (v : Int) : ∀ n : Nat, absP (ws.set i v) n ≤ absP ws n + if i < n then (v - ws.getD i default).natAbs else 0
  | 0 => by simp [absP]
  | n + 1 => by
    have ih := absP_set ws i v n
    simp only [absP]
    rw [getD_setW]
    by_cases h : i = n
    · subst h
      rw [if_neg (by omega)] at ih
      rw [if_pos (show i < i + 1 by omega)]
      split <;> omega
    · rw [if_neg (fun hc => h hc.1)]
      by_cases h2 : i < n
      · rw [if_pos h2] at ih; rw [if_pos (by omega)]; omega
      · rw [if_neg h2] at ih; rw [if_neg (by omega)]; omega
theorem absP_add {ws : List Int} {i n A B : Nat} {d : Int} (h : absP ws n ≤ A) (hd : d.natAbs ≤ B) : absP (addAt ws i d) n ≤ A + B := by
  have := absP_set ws i (ws.getD i default + d) n
  unfold addAt
  split at this <;> omega
theorem absP_sub {ws : List Int} {i n A B : Nat} {d : Int} (h : absP ws n ≤ A) (hd : d.natAbs ≤ B) : absP (subAt ws i d) n ≤ A + B := by
  have := absP_set ws i (ws.getD i default - d) n
  unfold subAt
  split at this <;> omega
theorem absP_rep (m : Nat) : ∀ n : Nat, absP (List.replicate m 0) n = 0
  | 0 => rfl
  | n + 1 => by
    simp only [absP, absP_rep m n]
    rw [List.getD_eq_getElem?_getD, List.getElem?_replicate]
    split <;> rfl
theorem len_addAt (ws : List Int) (i : Nat) (d : Int) : (addAt ws i d).length = ws.length := by simp [addAt]
theorem len_subAt (ws : List Int) (i : Nat) (d : Int) : (subAt ws i d).length = ws.length := by simp [subAt]
/-- The product of three lengths. -/
def devD (l : Lin) (L p : Int) : Int := (l.bs.getD (atI l p) default).len * (l.bs.getD (atI l (p + L)) default).len * L
/-- The weights of the joints. -/
def wts1 (l : Lin) (L p : Int) (j : Nat) : List Int := addAt (List.replicate l.js.length 0) j (devD l L p)
def wts2 (l : Lin) (L p : Int) (j : Nat) : List Int := subAt (wts1 l L p j) (atI l p) ((L - (plaP l.bs j - p)) * ((l.bs.getD (atI l p) default).len - atD l p) * (l.bs.getD (atI l (p + L)) default).len)
def wts3 (l : Lin) (L p : Int) (j : Nat) : List Int := subAt (wts2 l L p j) (atI l p + 1) ((L - (plaP l.bs j - p)) * atD l p * (l.bs.getD (atI l (p + L)) default).len)
def wts4 (l : Lin) (L p : Int) (j : Nat) : List Int := subAt (wts3 l L p j) (atI l (p + L)) ((plaP l.bs j - p) * ((l.bs.getD (atI l (p + L)) default).len - atD l (p + L)) * (l.bs.getD (atI l p) default).len)
def wtsL (l : Lin) (L p : Int) (j : Nat) : List Int := subAt (wts4 l L p j) (atI l (p + L) + 1) ((plaP l.bs j - p) * atD l (p + L) * (l.bs.getD (atI l p) default).len)
theorem len_wts1 {l : Lin} {L p : Int} {j : Nat} : (wts1 l L p j).length = l.js.length := by simp [wts1, len_addAt]
theorem len_wts2 {l : Lin} {L p : Int} {j : Nat} : (wts2 l L p j).length = l.js.length := by simp [wts2, len_subAt, len_wts1]
theorem len_wts3 {l : Lin} {L p : Int} {j : Nat} : (wts3 l L p j).length = l.js.length := by simp [wts3, len_subAt, len_wts2]
theorem len_wts4 {l : Lin} {L p : Int} {j : Nat} : (wts4 l L p j).length = l.js.length := by simp [wts4, len_subAt, len_wts3]
theorem len_wts {l : Lin} {L p : Int} {j : Nat} : (wtsL l L p j).length = l.js.length := by simp [wtsL, len_subAt, len_wts4]
/-- A pose that is right, and a joint beneath it. -/
structure Pos (l : Lin) (L p : Int) (j : Nat) : Prop where
  L0 : 1000 ≤ L
  L1 : L ≤ 30000
  p0 : 0 ≤ p
  p1 : p + L ≤ plaP l.bs l.bs.length
  j0 : p ≤ plaP l.bs j
  j1 : plaP l.bs j ≤ p + L
  jn : j < l.js.length
theorem Pos.bd {l : Lin} (h : Rgt l) {L p : Int} {j : Nat} (q : Pos l L p j) : 1 ≤ devD l L p ∧ devD l L p ≤ 27000000000000 ∧ ((L - (plaP l.bs j - p)) * ((l.bs.getD (atI l p) default).len - atD l p) * (l.bs.getD (atI l (p + L)) default).len).natAbs ≤ 27000000000000 ∧
    ((L - (plaP l.bs j - p)) * atD l p * (l.bs.getD (atI l (p + L)) default).len).natAbs ≤ 27000000000000 ∧ ((plaP l.bs j - p) * ((l.bs.getD (atI l (p + L)) default).len - atD l (p + L)) * (l.bs.getD (atI l p) default).len).natAbs ≤ 27000000000000 ∧ ((plaP l.bs j - p) * atD l (p + L) * (l.bs.getD (atI l p) default).len).natAbs ≤ 27000000000000 := by
  obtain ⟨L0, L1, p0, p1, j0, j1, jn⟩ := q
  obtain ⟨a1, a2, a3⟩ := at_bd h (p := p) ⟨p0, by omega⟩
  obtain ⟨b1, b2, b3⟩ := at_bd h (p := p + L) ⟨by omega, p1⟩
  have c1 := h.bea _ a1
  have c2 := h.bea _ b1
  have t : ∀ {x y z : Int}, x.natAbs ≤ 30000 → y.natAbs ≤ 30000 → z.natAbs ≤ 30000 → (x * y * z).natAbs ≤ 27000000000000 := fun h1 h2 h3 => mul_in (30000 * 30000) 30000 (mul_in 30000 30000 h1 h2) h3
  have d0 := t (x := (l.bs.getD (atI l p) default).len) (y := (l.bs.getD (atI l (p + L)) default).len) (z := L) (by omega) (by omega) (by omega)
  have d1 : 0 < devD l L p := Int.mul_pos (Int.mul_pos (by omega) (by omega)) (by omega)
  refine ⟨by omega, by unfold devD at d1 ⊢; omega, t (by omega) (by omega) (by omega), t (by omega) (by omega) (by omega), t (by omega) (by omega) (by omega), t (by omega) (by omega) (by omega)⟩
theorem Pos.abs {l : Lin} (h : Rgt l) {L p : Int} {j : Nat} (q : Pos l L p j) : absP (wts1 l L p j) l.js.length ≤ 27000000000000 ∧ absP (wts2 l L p j) l.js.length ≤ 54000000000000 ∧ absP (wts3 l L p j) l.js.length ≤ 81000000000000 ∧ absP (wts4 l L p j) l.js.length ≤ 108000000000000 ∧ absP (wtsL l L p j) l.js.length ≤ 135000000000000 := by
  obtain ⟨d0, d1, d2, d3, d4, d5⟩ := q.bd h
  have e0 : absP (List.replicate l.js.length 0) l.js.length ≤ 0 := by rw [absP_rep]; exact Nat.le_refl _
  have e1 : absP (wts1 l L p j) l.js.length ≤ 0 + 27000000000000 := absP_add e0 (by omega)
  have e2 : absP (wts2 l L p j) l.js.length ≤ 0 + 27000000000000 + 27000000000000 := absP_sub e1 d2
  have e3 : absP (wts3 l L p j) l.js.length ≤ 0 + 27000000000000 + 27000000000000 + 27000000000000 := absP_sub e2 d3
  have e4 : absP (wts4 l L p j) l.js.length ≤ 0 + 27000000000000 + 27000000000000 + 27000000000000 + 27000000000000 := absP_sub e3 d4
  have e5 : absP (wtsL l L p j) l.js.length ≤ 0 + 27000000000000 + 27000000000000 + 27000000000000 + 27000000000000 + 27000000000000 := absP_sub e4 d5
  omega
/-- The first n joints' parts together. -/
def devS (f : Int → Jnt → Int) (ws : List Int) (js : List Jnt) : Nat → Int
  | 0 => 0
  | n + 1 => devS f ws js n + f (ws.getD n default) (js.getD n default)
def loF (w : Int) (j : Jnt) : Int := w * j.acr + min (w * j.lo) (w * j.hi)
def hiF (w : Int) (j : Jnt) : Int := w * j.acr + max (w * j.lo) (w * j.hi)
theorem fF_bd {w : Int} {j : Jnt} {A : Nat} (hw : w.natAbs ≤ A) (h1 : -20000 ≤ j.acr ∧ j.acr ≤ 20000) (h2 : -100 ≤ j.lo ∧ j.hi ≤ 100 ∧ j.lo ≤ j.hi) : (loF w j).natAbs ≤ 20100 * A ∧ (hiF w j).natAbs ≤ 20100 * A ∧ (w * j.acr).natAbs ≤ A * 20000 ∧ (w * j.lo).natAbs ≤ A * 100 ∧ (w * j.hi).natAbs ≤ A * 100 := by
  have m1 := mul_in (x := w) (y := j.acr) A 20000 hw (by omega)
  have m2 := mul_in (x := w) (y := j.lo) A 100 hw (by omega)
  have m3 := mul_in (x := w) (y := j.hi) A 100 hw (by omega)
  unfold loF hiF
  omega
theorem devS_bd {l : Lin} (h : Rgt l) {f : Int → Jnt → Int} (hf : f = loF ∨ f = hiF) {ws : List Int} : ∀ {n : Nat}, n ≤ l.js.length → (devS f ws l.js n).natAbs ≤ 20100 * absP ws n
  | 0, _ => by simp [devS]
  | n + 1, hn => by
    have ih := devS_bd h hf (ws := ws) (n := n) (by omega)
    have j1 := h.jnt n (by omega)
    have := fF_bd (w := ws.getD n default) (j := l.js.getD n default) (Nat.le_refl _) j1.1 ⟨j1.2.2.1, j1.2.2.2.1, j1.2.2.2.2⟩
    simp only [devS, absP]
    rcases hf with rfl | rfl <;> omega
/-- The deviation at a joint beneath a pose. -/
def devLo (l : Lin) (L p : Int) (j : Nat) : Int := devS loF (wtsL l L p j) l.js l.js.length / devD l L p
def devHi (l : Lin) (L p : Int) (j : Nat) : Int := -(-devS hiF (wtsL l L p j) l.js l.js.length / devD l L p)
end Go.Proofs.Ytonjcljnpcmenaa

