/- The law of chapter 1 on branches and lines that are joined. No conditions on a program. -/
import Derived.Test.YtonjcljnpcmenaaY67
namespace Go.Proofs.Ytonjcljnpcmenaa
open Go Go.RowKit Go.Proofs
set_option linter.unusedSimpArgs false
set_option linter.unusedVariables false
theorem y68_az26 : (Try.prog.info? 26).bind (·.zero) = some (.agg #[.string ByteArray.empty, .slice none 0 0, .slice none 0 0, .slice none 0 0]) := by kernel_rfl
theorem y68_bz26 : (Try.prog.info? 26).bind (·.zero) = some (.agg #[.string ByteArray.empty, .slice none 0 0, .slice none 0 0, .slice none 0 0]) := by kernel_rfl
theorem y68_bu26 : Try.prog.underlying 26 = some (.struct (fsOf Try.prog 26)) := by kernel_rfl
theorem y68_bp26 : ∀ w, ((fsOf Try.prog 26).mapM fun f => Prod.mk f.offset <$> sizeOf f.type : Sem (Array (Nat × Nat))).run Try.prog w = .ok (#[(0, 1), (1, 1), (2, 1), (3, 1)]) w := fun _ => by kernel_rfl
theorem y68_hcf12 : ∀ args w, (callFunc 12 args).run Try.prog w = .ok (.enter 12 args) w := fun _ _ => by kernel_rfl
theorem y68_hcf13 : ∀ args w, (callFunc 13 args).run Try.prog w = .ok (.enter 13 args) w := fun _ _ => by kernel_rfl
theorem y68_hcf14 : ∀ args w, (callFunc 14 args).run Try.prog w = .ok (.enter 14 args) w := fun _ _ => by kernel_rfl
theorem y68_hcf18 : ∀ args w, (callFunc 18 args).run Try.prog w = .ok (.enter 18 args) w := fun _ _ => by kernel_rfl
theorem y68_hcf34 : ∀ args w, (callFunc 34 args).run Try.prog w = .ok (.enter 34 args) w := fun _ _ => by kernel_rfl
theorem y68_hcf38 : ∀ args w, (callFunc 38 args).run Try.prog w = .ok (.enter 38 args) w := fun _ _ => by kernel_rfl
theorem y68_hcf39 : ∀ args w, (callFunc 39 args).run Try.prog w = .ok (.enter 39 args) w := fun _ _ => by kernel_rfl
theorem y68_hcf40 : ∀ args w, (callFunc 40 args).run Try.prog w = .ok (.enter 40 args) w := fun _ _ => by kernel_rfl
theorem y68_hcf41 : ∀ args w, (callFunc 41 args).run Try.prog w = .ok (.enter 41 args) w := fun _ _ => by kernel_rfl
theorem y68_hcf42 : ∀ args w, (callFunc 42 args).run Try.prog w = .ok (.enter 42 args) w := fun _ _ => by kernel_rfl
theorem y68_hcf43 : ∀ args w, (callFunc 43 args).run Try.prog w = .ok (.enter 43 args) w := fun _ _ => by kernel_rfl
theorem y68_sz26 : (Try.prog.info? 26).map (·.size) = some 4 := by kernel_rfl
theorem y68_ty26 : TyIs Try.prog 26 true 4 := ⟨by kernel_rfl, by kernel_rfl⟩
theorem y68_un9 : Try.prog.underlying 9 = some .string := by kernel_rfl

theorem jnt_bd {j : Jnt} (h : jntE j = 0) : (-20000 ≤ j.acr ∧ j.acr ≤ 20000) ∧ (-20000 ≤ j.up ∧ j.up ≤ 20000) ∧ -100 ≤ j.lo ∧ j.hi ≤ 100 ∧ j.lo ≤ j.hi := by
  unfold jntE at h
  split at h
  · rename_i hb
    split at h
    · simp only [jntB, smaB, Bool.and_eq_true, withinB_iff] at hb
      omega
    · cases h
  · cases h
theorem getD_mem {xs : List Int} {k : Nat} (hk : k < xs.length) : xs.getD k default ∈ xs := by
  rw [List.getD_eq_getElem?_getD, List.getElem?_eq_getElem hk]; exact List.getElem_mem hk
theorem bendN_right {js : List Jnt} {f : Int} {xs : List Int} (hj : ∀ j : Nat, j < js.length → jntE (js.getD j default) = 0) (hx : ∀ n ∈ xs, -20000 ≤ n ∧ n ≤ 20000) : ∀ n : Nat, n ≤ xs.length → ∀ j : Nat, j < js.length → jntE ((bendN js f xs n).getD j default) = 0
  | 0, _, j, h => hj j h
  | n + 1, hn, j, h => by
    have ih := bendN_right (f := f) hj hx n (by omega)
    have hl := bendN_len js f xs n
    simp only [bendN]
    by_cases hp : (f + n).toNat = j
    · subst hp
      rw [List.getD_eq_getElem?_getD, List.getElem?_set_self (by omega)]
      have h1 := jnt_bd (ih _ h)
      have h2 := hx _ (getD_mem (show n < xs.length by omega))
      exact jntE_of ⟨h2, h1.2⟩
    · rw [List.getD_eq_getElem?_getD, List.getElem?_set_ne hp, ← List.getD_eq_getElem?_getD]
      exact ih j h
theorem braL_rgt {l : Lin} (h : Rgt l) {t : Swi} (ht : ∀ n ∈ t.acr, -20000 ≤ n ∧ n ≤ 20000) : Rgt (braL l t) :=
  ⟨h.nam, h.n0, h.n1, by show (bendN _ _ _ _).length = _; rw [bendN_len]; exact h.js, fun j hj => bendN_right h.ja ht _ (Nat.le_refl _) j (by rw [← bendN_len l.js t.fst t.acr t.acr.length]; exact hj), h.ba, Nat.zero_le _, fun j hj => absurd hj (Nat.not_lt_zero _)⟩
theorem braL_sho {l : Lin} (h : Sho l) (t : Swi) : Sho (braL l t) := ⟨h.1, by show (bendN _ _ _ _).length ≤ _; rw [bendN_len]; exact h.2.1, h.2.2.1, Nat.zero_le _, fun s hs => by cases hs⟩
theorem brF_at {l : Lin} {nm : ByteArray} {t : Swi} (h : brF l nm = some t) : ∃ i, i < l.ss.length ∧ l.ss.getD i default = t := by
  have hm := List.mem_of_find?_eq_some h
  obtain ⟨i, hi, rfl⟩ := List.mem_iff_getElem.1 hm
  exact ⟨i, hi, by rw [List.getD_eq_getElem?_getD, List.getElem?_eq_getElem hi]; rfl⟩
theorem plaP_app (x y : List Bea) : ∀ n : Nat, n ≤ y.length → plaP (x ++ y) (x.length + n) = plaP x x.length + plaP y n
  | 0, _ => by
    have : ∀ n : Nat, n ≤ x.length → plaP (x ++ y) n = plaP x n := by
      intro n
      induction n with
      | zero => intro _; rfl
      | succ n ih =>
        intro hn
        simp only [plaP]
        rw [ih (by omega), List.getD_eq_getElem?_getD, List.getElem?_append_left (by omega), ← List.getD_eq_getElem?_getD]
    simp only [plaP, Nat.add_zero, Int.add_zero]
    exact this _ (Nat.le_refl _)
  | n + 1, hn => by
    have ih := plaP_app x y n (by omega)
    rw [show x.length + (n + 1) = (x.length + n) + 1 by omega]
    simp only [plaP]
    rw [ih, List.getD_eq_getElem?_getD, List.getElem?_append_right (by omega), show x.length + n - x.length = n by omega, ← List.getD_eq_getElem?_getD]
    omega
theorem joi_js {a b : Lin} (hr : Rgt a) (hs : Rgt b) : (joiL a b).js.length = (joiL a b).bs.length + 1 := by
  have h1 := hr.js
  have h2 := hs.js
  show (a.js.set _ _ ++ b.js.drop 1).length = (a.bs ++ b.bs).length + 1
  simp only [List.length_append, List.length_set, List.length_drop]
  omega
theorem joiL_rgt {a b : Lin} (hr : Rgt a) (hs : Rgt b) (h : joiX a b = 0) : Rgt (joiL a b) := by
  have h1 := hr.js
  have h2 := hs.js
  have hn0 := hr.n0
  have hc : (a.js.getD (a.js.length - 1) default).acr = (b.js.getD 0 default).acr ∧ (a.js.getD (a.js.length - 1) default).up = (b.js.getD 0 default).up ∧ (joiJ a b).lo ≤ (joiJ a b).hi := by
    apply Classical.byContradiction; intro hc; unfold joiX at h; rw [if_neg hc] at h; cases h
  have hd : a.bs.length + b.bs.length ≤ 40 := by
    apply Classical.byContradiction; intro hd; unfold joiX at h; rw [if_pos hc, if_neg hd] at h; cases h
  refine ⟨hr.nam, ?_, ?_, joi_js hr hs, fun j hj => ?_, fun j hj => ?_, Nat.zero_le _, fun j hj => absurd hj (Nat.not_lt_zero _)⟩
  · show 1 ≤ (a.bs ++ b.bs).length
    rw [List.length_append]; omega
  · show (a.bs ++ b.bs).length ≤ 40
    rw [List.length_append]; omega
  · have hj' : j < (a.js.set (a.js.length - 1) (joiJ a b) ++ b.js.drop 1).length := hj
    show jntE ((a.js.set (a.js.length - 1) (joiJ a b) ++ b.js.drop 1).getD j default) = 0
    rw [List.length_append, List.length_set, List.length_drop] at hj'
    rw [List.getD_eq_getElem?_getD]
    by_cases hja : j < a.js.length
    · rw [List.getElem?_append_left (by simpa using hja)]
      by_cases hl : a.js.length - 1 = j
      · subst hl
        rw [List.getElem?_set_self hja]
        have g1 := hr.jnt _ hja
        have g2 := hs.jnt 0 (by omega)
        refine jntE_of ⟨g1.1, g1.2.1, ?_, ?_, hc.2.2⟩
        · show -100 ≤ max _ _; omega
        · show min _ _ ≤ 100; omega
      · rw [List.getElem?_set_ne hl, ← List.getD_eq_getElem?_getD]
        exact hr.ja j hja
    · rw [List.getElem?_append_right (by simp; omega), List.getElem?_drop, List.length_set, ← List.getD_eq_getElem?_getD]
      exact hs.ja _ (by omega)
  · have hj' : j < (a.bs ++ b.bs).length := hj
    show beaE ((a.bs ++ b.bs).getD j default) = 0
    rw [List.length_append] at hj'
    rw [List.getD_eq_getElem?_getD]
    by_cases hja : j < a.bs.length
    · rw [List.getElem?_append_left hja, ← List.getD_eq_getElem?_getD]
      exact hr.ba j hja
    · rw [List.getElem?_append_right (by omega), ← List.getD_eq_getElem?_getD]
      exact hs.ba _ (by omega)
theorem joiL_sho {a b : Lin} (ha : Sho a) (hb : Sho b) (hr : Rgt a) (hs : Rgt b) : Sho (joiL a b) := by
  have h1 := hr.n1
  have h2 := hs.n1
  have h3 := hr.js
  have h4 := hs.js
  have h5 := joi_js hr hs
  have h6 : (joiL a b).bs.length = a.bs.length + b.bs.length := List.length_append
  exact ⟨ha.1, by omega, by omega, Nat.zero_le _, fun s h => by cases h⟩
set_option maxRecDepth 100000 in
set_option maxHeartbeats 4000000 in
theorem lineBranches_many1 (a b : Lin) (nm : ByteArray) (hfa : fewL a = false) : FnOk Try.prog 7 [lnA a, lnA b, .v (.string nm)] (fun q => q = tbA true) := by
  refine fnOk_of (fn := Try.f7) 151 (by kernel_rfl) rfl (by kernel_rfl) (Nat.le_of_ble_eq_true rfl) ?_
  intro e_0 m_0 hA hm_0
  have s0_0 : evA e_0 (.tmp 0) = _ := hA 0 _ rfl
  have s1_0 : evA e_0 (.tmp 1) = _ := hA 1 _ rfl
  have s2_0 : evA e_0 (.tmp 2) = _ := hA 2 _ rfl
  have ml_0 : m_0.length = 0 := by rw [hm_0]; rfl
  clear hA hm_0
  refine aw_seq <| at_ <| al_stm (st_box s0_0 rfl ml_0) trivial rfl (fun m_1 hm_1 => ?_)
  have mo0_1 := m_push hm_1 ml_0
  have ml_1 := m_push_l hm_1 ml_0
  have ml_1 : _ = 1 := ml_1
  clear hm_1
  refine al_stm (st_box (up_m rfl s1_0) rfl ml_1) trivial rfl (fun m_2 hm_2 => ?_)
  have mo1_2 := m_push hm_2 ml_1
  have mo0_2 := m_push_o hm_2 mo0_1
  have ml_2 := m_push_l hm_2 ml_1
  have ml_2 : _ = 2 := ml_2
  clear hm_2 mo0_1
  refine ar (ro_assign ev_c) rfl <| ae3 (up_m rfl (u2 rfl s2_0)) (u2 rfl up_h) (up_m rfl up_h) ?_; clear s0_0 s1_0 s2_0; intro e_3 s2_3 s3_3 s4_3
  refine then_n <| aw_seq <| aw_seq <| at_ <| ar (ro_call evL_nil rfl (awake_ok) y68_hcf12) rfl <| ar (ro_not up_h) rfl <| ae4 (u2 rfl s2_3) (u2 rfl s3_3) (u2 rfl s4_3) up_h ?_; clear s2_3 s3_3 s4_3; intro e_4 s2_4 s3_4 s4_4 s22_4
  refine then_n <| aw_case s22_4 (fun hq_5 => ?_) (fun hq_5 => ?_)
  · cases hq_5
  replace hq_5 := bf' hq_5
  refine aw_skip <| then_n <| aw_seq <| aw_seq <| at_ <| ar (ro_eq (ro_ld_ptr y68_ty26 rfl mo0_2 s3_4 (nle rfl)) (by simp only [pS, Value.cells, Nat.reduceAdd] <;> rfl)) rfl ?_
  refine ar (ro_call (evL_cons up_h evL_nil) rfl ((fewL_ok a).mono (fun q h => show q = tbA false from h.trans (by rw [hfa]))) y68_hcf13) rfl ?_
  refine ar (ro_not up_h) rfl <| ar (ro_move up_h) rfl <| al_case up_h (fun hb_6 hq_6 => ?_) (fun hb_6 hq_6 => ?_)
  ·replace hq_6 := bt' hq_6
   refine al_skip' ⟨_, rfl, .inl hb_6⟩ rfl ?_
   refine al_skip' ⟨_, rfl, .inl (up_m rfl hb_6)⟩ rfl ?_
   refine al_skip' ⟨_, rfl, .inl (u2 rfl hb_6)⟩ rfl ?_
   refine ar (ro_pickT (up_m rfl (u2 rfl hb_6)) ev_c) rfl <| ar (ro_move up_h) rfl <| al_skip' ⟨_, rfl, .inl up_h⟩ rfl ?_
   refine al_skip' ⟨_, rfl, .inl (up_m rfl up_h)⟩ rfl ?_
   refine al_skip' ⟨_, rfl, .inl (u2 rfl up_h)⟩ rfl ?_
   refine ar (ro_pickT (up_m rfl (u2 rfl up_h)) ev_c) rfl <| ae4 (up_m rfl (u4 rfl (u8 rfl s2_4))) (up_m rfl (u4 rfl (u8 rfl s3_4))) (up_m rfl (u4 rfl (u8 rfl s4_4))) up_h ?_; clear hb_6 s22_4 s2_4 s3_4 s4_4; intro e_7 s2_7 s3_7 s4_7 s35_7
   refine then_n <| aw_true s35_7 <| aw_seq <| at_ <| ar (ro_assign ev_c) rfl <| ae1 up_h ?_; clear s2_7 s35_7 s3_7 s4_7; intro e_9 s6_9
   refine then_n <| aw_ret <| then_r <| ret1 (.inr rfl) (by kernel_rfl) (resV_tmp s6_9) (.ro _ rfl) ?_
   clear s6_9 mo1_2 mo0_2 ml_2
   first | rfl | (simp_all; done) | omega
  · cases hq_6
set_option maxRecDepth 100000 in
set_option maxHeartbeats 4000000 in
theorem lineBranches_many2 (a b : Lin) (nm : ByteArray) (hfa : fewL a = true) (hfb : fewL b = false) : FnOk Try.prog 7 [lnA a, lnA b, .v (.string nm)] (fun q => q = tbA true) := by
  refine fnOk_of (fn := Try.f7) 151 (by kernel_rfl) rfl (by kernel_rfl) (Nat.le_of_ble_eq_true rfl) ?_
  intro e_0 m_0 hA hm_0
  have s0_0 : evA e_0 (.tmp 0) = _ := hA 0 _ rfl
  have s1_0 : evA e_0 (.tmp 1) = _ := hA 1 _ rfl
  have s2_0 : evA e_0 (.tmp 2) = _ := hA 2 _ rfl
  have ml_0 : m_0.length = 0 := by rw [hm_0]; rfl
  clear hA hm_0
  refine aw_seq <| at_ <| al_stm (st_box s0_0 rfl ml_0) trivial rfl (fun m_1 hm_1 => ?_)
  have mo0_1 := m_push hm_1 ml_0
  have ml_1 := m_push_l hm_1 ml_0
  have ml_1 : _ = 1 := ml_1
  clear hm_1
  refine al_stm (st_box (up_m rfl s1_0) rfl ml_1) trivial rfl (fun m_2 hm_2 => ?_)
  have mo1_2 := m_push hm_2 ml_1
  have mo0_2 := m_push_o hm_2 mo0_1
  have ml_2 := m_push_l hm_2 ml_1
  have ml_2 : _ = 2 := ml_2
  clear hm_2 mo0_1
  refine ar (ro_assign ev_c) rfl <| ae3 (up_m rfl (u2 rfl s2_0)) (u2 rfl up_h) (up_m rfl up_h) ?_; clear s0_0 s1_0 s2_0; intro e_3 s2_3 s3_3 s4_3
  refine then_n <| aw_seq <| aw_seq <| at_ <| ar (ro_call evL_nil rfl (awake_ok) y68_hcf12) rfl <| ar (ro_not up_h) rfl <| ae4 (u2 rfl s2_3) (u2 rfl s3_3) (u2 rfl s4_3) up_h ?_; clear s2_3 s3_3 s4_3; intro e_4 s2_4 s3_4 s4_4 s22_4
  refine then_n <| aw_case s22_4 (fun hq_5 => ?_) (fun hq_5 => ?_)
  · cases hq_5
  replace hq_5 := bf' hq_5
  refine aw_skip <| then_n <| aw_seq <| aw_seq <| at_ <| ar (ro_eq (ro_ld_ptr y68_ty26 rfl mo0_2 s3_4 (nle rfl)) (by simp only [pS, Value.cells, Nat.reduceAdd] <;> rfl)) rfl ?_
  refine ar (ro_call (evL_cons up_h evL_nil) rfl ((fewL_ok a).mono (fun q h => show q = tbA true from h.trans (by rw [hfa]))) y68_hcf13) rfl ?_
  refine ar (ro_not up_h) rfl <| ar (ro_move up_h) rfl <| al_case up_h (fun hb_6 hq_6 => ?_) (fun hb_6 hq_6 => ?_)
  · cases hq_6
  replace hq_6 := bf' hq_6
  refine al_ro' (ro_eq (ro_ld_ptr y68_ty26 rfl mo1_2 (u4 rfl s4_4) (nle rfl)) (by simp only [pS, Value.cells, Nat.reduceAdd] <;> rfl)) ⟨_, rfl, hb_6⟩ rfl ?_
  refine al_ro' (ro_call (evL_cons up_h evL_nil) rfl ((fewL_ok b).mono (fun q h => show q = tbA false from h.trans (by rw [hfb]))) y68_hcf13) ⟨_, rfl, (up_m rfl hb_6)⟩ rfl ?_
  refine al_ro' (ro_not up_h) ⟨_, rfl, (u2 rfl hb_6)⟩ rfl ?_
  refine ar (ro_pickF (up_m rfl (u2 rfl hb_6)) up_h) rfl <| ar (ro_move up_h) rfl <| al_case up_h (fun hb_10 hq_10 => ?_) (fun hb_10 hq_10 => ?_)
  ·replace hq_10 := bt' hq_10
   refine al_skip' ⟨_, rfl, .inl hb_10⟩ rfl ?_
   refine al_skip' ⟨_, rfl, .inl (up_m rfl hb_10)⟩ rfl ?_
   refine al_skip' ⟨_, rfl, .inl (u2 rfl hb_10)⟩ rfl ?_
   refine ar (ro_pickT (up_m rfl (u2 rfl hb_10)) ev_c) rfl <| ae4 (up_m rfl (u4 rfl (u8 rfl s2_4))) (up_m rfl (u4 rfl (u8 rfl s3_4))) (up_m rfl (u4 rfl (u8 rfl s4_4))) up_h ?_; clear hb_10 hb_6 s22_4 s2_4 s3_4 s4_4; intro e_11 s2_11 s3_11 s4_11 s35_11
   refine then_n <| aw_true s35_11 <| aw_seq <| at_ <| ar (ro_assign ev_c) rfl <| ae1 up_h ?_; clear s2_11 s35_11 s3_11 s4_11; intro e_13 s6_13
   refine then_n <| aw_ret <| then_r <| ret1 (.inr rfl) (by kernel_rfl) (resV_tmp s6_13) (.ro _ rfl) ?_
   clear s6_13 mo1_2 mo0_2 ml_2
   first | rfl | (simp_all; done) | omega
  · cases hq_10
set_option maxRecDepth 100000 in
set_option maxHeartbeats 4000000 in
theorem lineBranches_many3 (a b : Lin) (nm : ByteArray) (hfa : fewL a = true) (hfb : fewL b = true) (hn : 20 < nm.size) : FnOk Try.prog 7 [lnA a, lnA b, .v (.string nm)] (fun q => q = tbA true) := by
  refine fnOk_of (fn := Try.f7) 151 (by kernel_rfl) rfl (by kernel_rfl) (Nat.le_of_ble_eq_true rfl) ?_
  intro e_0 m_0 hA hm_0
  have s0_0 : evA e_0 (.tmp 0) = _ := hA 0 _ rfl
  have s1_0 : evA e_0 (.tmp 1) = _ := hA 1 _ rfl
  have s2_0 : evA e_0 (.tmp 2) = _ := hA 2 _ rfl
  have ml_0 : m_0.length = 0 := by rw [hm_0]; rfl
  clear hA hm_0
  refine aw_seq <| at_ <| al_stm (st_box s0_0 rfl ml_0) trivial rfl (fun m_1 hm_1 => ?_)
  have mo0_1 := m_push hm_1 ml_0
  have ml_1 := m_push_l hm_1 ml_0
  have ml_1 : _ = 1 := ml_1
  clear hm_1
  refine al_stm (st_box (up_m rfl s1_0) rfl ml_1) trivial rfl (fun m_2 hm_2 => ?_)
  have mo1_2 := m_push hm_2 ml_1
  have mo0_2 := m_push_o hm_2 mo0_1
  have ml_2 := m_push_l hm_2 ml_1
  have ml_2 : _ = 2 := ml_2
  clear hm_2 mo0_1
  refine ar (ro_assign ev_c) rfl <| ae3 (up_m rfl (u2 rfl s2_0)) (u2 rfl up_h) (up_m rfl up_h) ?_; clear s0_0 s1_0 s2_0; intro e_3 s2_3 s3_3 s4_3
  refine then_n <| aw_seq <| aw_seq <| at_ <| ar (ro_call evL_nil rfl (awake_ok) y68_hcf12) rfl <| ar (ro_not up_h) rfl <| ae4 (u2 rfl s2_3) (u2 rfl s3_3) (u2 rfl s4_3) up_h ?_; clear s2_3 s3_3 s4_3; intro e_4 s2_4 s3_4 s4_4 s22_4
  refine then_n <| aw_case s22_4 (fun hq_5 => ?_) (fun hq_5 => ?_)
  · cases hq_5
  replace hq_5 := bf' hq_5
  refine aw_skip <| then_n <| aw_seq <| aw_seq <| at_ <| ar (ro_eq (ro_ld_ptr y68_ty26 rfl mo0_2 s3_4 (nle rfl)) (by simp only [pS, Value.cells, Nat.reduceAdd] <;> rfl)) rfl ?_
  refine ar (ro_call (evL_cons up_h evL_nil) rfl ((fewL_ok a).mono (fun q h => show q = tbA true from h.trans (by rw [hfa]))) y68_hcf13) rfl ?_
  refine ar (ro_not up_h) rfl <| ar (ro_move up_h) rfl <| al_case up_h (fun hb_6 hq_6 => ?_) (fun hb_6 hq_6 => ?_)
  · cases hq_6
  replace hq_6 := bf' hq_6
  refine al_ro' (ro_eq (ro_ld_ptr y68_ty26 rfl mo1_2 (u4 rfl s4_4) (nle rfl)) (by simp only [pS, Value.cells, Nat.reduceAdd] <;> rfl)) ⟨_, rfl, hb_6⟩ rfl ?_
  refine al_ro' (ro_call (evL_cons up_h evL_nil) rfl ((fewL_ok b).mono (fun q h => show q = tbA true from h.trans (by rw [hfb]))) y68_hcf13) ⟨_, rfl, (up_m rfl hb_6)⟩ rfl ?_
  refine al_ro' (ro_not up_h) ⟨_, rfl, (u2 rfl hb_6)⟩ rfl ?_
  refine ar (ro_pickF (up_m rfl (u2 rfl hb_6)) up_h) rfl <| ar (ro_move up_h) rfl <| al_case up_h (fun hb_10 hq_10 => ?_) (fun hb_10 hq_10 => ?_)
  · cases hq_10
  replace hq_10 := bf' hq_10
  refine al_ro' (ro_move (up_m rfl (u8 rfl s2_4))) ⟨_, rfl, hb_10⟩ rfl ?_
  refine al_ro' (ro_len_str up_h rfl y68_un9) ⟨_, rfl, (up_m rfl hb_10)⟩ rfl ?_
  refine al_ro' (ro_gtr up_h ev_c) ⟨_, rfl, (u2 rfl hb_10)⟩ rfl ?_
  refine ar (ro_pickF (up_m rfl (u2 rfl hb_10)) up_h) rfl <| ae4 (up_m rfl (u4 rfl (u8 rfl s2_4))) (up_m rfl (u4 rfl (u8 rfl s3_4))) (up_m rfl (u4 rfl (u8 rfl s4_4))) up_h ?_; clear hb_10 hb_6 s22_4 s2_4 s3_4 s4_4; intro e_14 s2_14 s3_14 s4_14 s35_14
  refine then_n <| aw_case s35_14 (fun hq_15 => ?_) (fun hq_15 => ?_)
  ·replace hq_15 := bt hq_15
   refine aw_seq <| at_ <| ar (ro_assign ev_c) rfl <| ae1 up_h ?_; clear s2_14 s35_14 s3_14 s4_14; intro e_16 s6_16
   refine then_n <| aw_ret <| then_r <| ret1 (.inr rfl) (by kernel_rfl) (resV_tmp s6_16) (.ro _ rfl) ?_
   clear s6_16 mo1_2 mo0_2 ml_2
   first | rfl | (simp_all; done) | omega
  · replace hq_15 := bf hq_15; exfalso; omega
set_option maxRecDepth 100000 in
set_option maxHeartbeats 4000000 in
theorem lineBranches_bad (a b : Lin) (nm : ByteArray) (hfa : fewL a = true) (hfb : fewL b = true) (hn : nm.size ≤ 20) (he : (linM a).2 ≠ 0) (x : AV) (d : Int) (hx : FnOk Try.prog 76 [lnA b] (fun q => q = .tuple [x, mA d])) : FnOk Try.prog 7 [lnA a, lnA b, .v (.string nm)] (fun q => q = tbA true) := by
  refine fnOk_of (fn := Try.f7) 151 (by kernel_rfl) rfl (by kernel_rfl) (Nat.le_of_ble_eq_true rfl) ?_
  intro e_0 m_0 hA hm_0
  have s0_0 : evA e_0 (.tmp 0) = _ := hA 0 _ rfl
  have s1_0 : evA e_0 (.tmp 1) = _ := hA 1 _ rfl
  have s2_0 : evA e_0 (.tmp 2) = _ := hA 2 _ rfl
  have ml_0 : m_0.length = 0 := by rw [hm_0]; rfl
  clear hA hm_0
  have ha := fewL_sho hfa; have hb := fewL_sho hfb
  refine aw_seq <| at_ <| al_stm (st_box s0_0 rfl ml_0) trivial rfl (fun m_1 hm_1 => ?_)
  have mo0_1 := m_push hm_1 ml_0
  have ml_1 := m_push_l hm_1 ml_0
  have ml_1 : _ = 1 := ml_1
  clear hm_1
  refine al_stm (st_box (up_m rfl s1_0) rfl ml_1) trivial rfl (fun m_2 hm_2 => ?_)
  have mo1_2 := m_push hm_2 ml_1
  have mo0_2 := m_push_o hm_2 mo0_1
  have ml_2 := m_push_l hm_2 ml_1
  have ml_2 : _ = 2 := ml_2
  clear hm_2 mo0_1
  refine ar (ro_assign ev_c) rfl <| ae3 (up_m rfl (u2 rfl s2_0)) (u2 rfl up_h) (up_m rfl up_h) ?_; clear s0_0 s1_0 s2_0; intro e_3 s2_3 s3_3 s4_3
  refine then_n <| aw_seq <| aw_seq <| at_ <| ar (ro_call evL_nil rfl (awake_ok) y68_hcf12) rfl <| ar (ro_not up_h) rfl <| ae4 (u2 rfl s2_3) (u2 rfl s3_3) (u2 rfl s4_3) up_h ?_; clear s2_3 s3_3 s4_3; intro e_4 s2_4 s3_4 s4_4 s22_4
  refine then_n <| aw_case s22_4 (fun hq_5 => ?_) (fun hq_5 => ?_)
  · cases hq_5
  replace hq_5 := bf' hq_5
  refine aw_skip <| then_n <| aw_seq <| aw_seq <| at_ <| ar (ro_eq (ro_ld_ptr y68_ty26 rfl mo0_2 s3_4 (nle rfl)) (by simp only [pS, Value.cells, Nat.reduceAdd] <;> rfl)) rfl ?_
  refine ar (ro_call (evL_cons up_h evL_nil) rfl ((fewL_ok a).mono (fun q h => show q = tbA true from h.trans (by rw [hfa]))) y68_hcf13) rfl ?_
  refine ar (ro_not up_h) rfl <| ar (ro_move up_h) rfl <| al_case up_h (fun hb_6 hq_6 => ?_) (fun hb_6 hq_6 => ?_)
  · cases hq_6
  replace hq_6 := bf' hq_6
  refine al_ro' (ro_eq (ro_ld_ptr y68_ty26 rfl mo1_2 (u4 rfl s4_4) (nle rfl)) (by simp only [pS, Value.cells, Nat.reduceAdd] <;> rfl)) ⟨_, rfl, hb_6⟩ rfl ?_
  refine al_ro' (ro_call (evL_cons up_h evL_nil) rfl ((fewL_ok b).mono (fun q h => show q = tbA true from h.trans (by rw [hfb]))) y68_hcf13) ⟨_, rfl, (up_m rfl hb_6)⟩ rfl ?_
  refine al_ro' (ro_not up_h) ⟨_, rfl, (u2 rfl hb_6)⟩ rfl ?_
  refine ar (ro_pickF (up_m rfl (u2 rfl hb_6)) up_h) rfl <| ar (ro_move up_h) rfl <| al_case up_h (fun hb_10 hq_10 => ?_) (fun hb_10 hq_10 => ?_)
  · cases hq_10
  replace hq_10 := bf' hq_10
  refine al_ro' (ro_move (up_m rfl (u8 rfl s2_4))) ⟨_, rfl, hb_10⟩ rfl ?_
  refine al_ro' (ro_len_str up_h rfl y68_un9) ⟨_, rfl, (up_m rfl hb_10)⟩ rfl ?_
  refine al_ro' (ro_gtr up_h ev_c) ⟨_, rfl, (u2 rfl hb_10)⟩ rfl ?_
  refine ar (ro_pickF (up_m rfl (u2 rfl hb_10)) up_h) rfl <| ae4 (up_m rfl (u4 rfl (u8 rfl s2_4))) (up_m rfl (u4 rfl (u8 rfl s3_4))) (up_m rfl (u4 rfl (u8 rfl s4_4))) up_h ?_; clear hb_10 hb_6 s22_4 s2_4 s3_4 s4_4; intro e_14 s2_14 s3_14 s4_14 s35_14
  refine then_n <| aw_case s35_14 (fun hq_15 => ?_) (fun hq_15 => ?_)
  · replace hq_15 := bt hq_15; exfalso; omega
  replace hq_15 := bf hq_15
  refine aw_skip <| then_n <| aw_seq <| at_ <| ar (ro_eq (ro_ld_ptr y68_ty26 rfl mo0_2 s3_14 (nle rfl)) (by simp only [pS, Value.cells, Nat.reduceAdd] <;> rfl)) rfl ?_
  refine ar (ro_call (evL_cons up_h evL_nil) rfl (yCopy_ok a ha) y68_hcf18) rfl <| ar (ro_move (u2 rfl s2_14)) rfl <| ar (ro_call (evL_cons (up_m rfl up_h) (evL_cons up_h evL_nil)) rfl (branch_bad a ha he nm) y68_hcf38) rfl <| ar (ro_move up_h) rfl <| ar (ro_extract up_h rfl) rfl <| ar (ro_extract (up_m rfl up_h) rfl) rfl <| al_stm (st_alloc y68_az26 rfl ml_2) trivial rfl (fun m_16 hm_16 => ?_)
  have mo2_16 := m_push hm_16 ml_2
  simp only [pS, Value.cells, Nat.reduceAdd] at mo2_16
  have mo1_16 := m_push_o hm_16 mo1_2
  have mo0_16 := m_push_o hm_16 mo0_2
  have ml_16 := m_push_l hm_16 ml_2
  have ml_16 : _ = 3 := ml_16
  clear hm_16 mo1_2 mo0_2
  refine al_stm (st_store up_h (u2 rfl up_h) rfl rfl mo2_16 y68_sz26 rfl (nle rfl)) trivial rfl (fun m_17 hm_17 => ?_)
  have mo2_17 := m_set hm_17 mo2_16
  simp only [pS, Value.cells, Nat.reduceAdd] at mo2_17
  have mo1_17 := m_set_o hm_17 mo1_16 (by decide)
  have mo0_17 := m_set_o hm_17 mo0_16 (by decide)
  have ml_17 := m_set_l hm_17 ml_16
  clear hm_17 mo2_16 mo1_16 mo0_16
  refine ar (ro_assign (up_n (up_m rfl up_h))) rfl <| ae5 (up_m rfl (up_n (u8 rfl s2_14))) (up_m rfl (up_n (u8 rfl s3_14))) (up_m rfl (up_n (u8 rfl s4_14))) (up_m rfl (up_n up_h)) up_h ?_; clear s2_14 s35_14 s3_14 s4_14; intro e_18 s2_18 s3_18 s4_18 s7_18 s8_18
  refine then_n <| aw_seq <| aw_drawK 10 1 ml_17 (by kernel_rfl) (by kernel_rfl) (by kernel_rfl) (by kernel_rfl) (fun m_19 hm_19 => ?_)
  have mo2_19 := m_room_o hm_19 mo2_17
  have mo1_19 := m_room_o hm_19 mo1_17
  have mo0_19 := m_room_o hm_19 mo0_17
  have mo3_19 : m_19[3]? = _ := m_room_g hm_19 ml_17 0 rfl rfl
  have ml_19 : _ = 4 := m_room_l (K := 1) hm_19 ml_17
  clear hm_19 mo2_17 mo1_17 mo0_17 ml_17
  refine dh_ld (0) (fun M_ hM_ => (ro_eq (ro_ld_ptr y68_ty26 rfl (agr hM_ mo0_19 (by simp)) s3_18 (nle rfl)) (by simp only [pS, Value.cells, Nat.reduceAdd] <;> rfl))) trivial trivial ?_
  refine dh_ro (fun M_ hM_ => (ro_call (evL_cons up_h evL_nil) rfl (yCopy_ok a ha) y68_hcf18)) trivial ?_
  refine dh_ld (1) (fun M_ hM_ => (ro_eq (ro_ld_ptr y68_ty26 rfl (agr hM_ mo1_19 (by simp)) (u2 rfl s4_18) (nle rfl)) (by simp only [pS, Value.cells, Nat.reduceAdd] <;> rfl))) trivial trivial ?_
  refine dh_ro (fun M_ hM_ => (ro_call (evL_cons up_h evL_nil) rfl (yCopy_ok b hb) y68_hcf18)) trivial ?_
  refine dh_ro (fun M_ hM_ => (ro_call (evL_cons (u2 rfl up_h) (evL_cons up_h evL_nil)) rfl (joined_a a b ha he x d hx) y68_hcf39)) trivial ?_
  refine dh_ro (fun M_ hM_ => (ro_move up_h)) trivial ?_
  refine dh_ro (fun M_ hM_ => (ro_extract up_h rfl)) trivial ?_
  refine dh_ro (fun M_ hM_ => (ro_extract (up_m rfl up_h) rfl)) trivial ?_
  refine dh_nw (3) (fun M_ hM_ => (nw_alloc y68_az26 rfl)) trivial mo3_19 rfl trivial ⟨.inl (by simp <;> omega), ⟨.inl (by simp <;> omega), trivial⟩⟩ (fun m_20 hm_20 => ?_)
  have mo3_20 := m_set hm_20 mo3_19
  simp only [pS, Value.cells, Nat.reduceAdd] at mo3_20
  have mo2_20 := m_set_o hm_20 mo2_19 (by decide)
  have mo1_20 := m_set_o hm_20 mo1_19 (by decide)
  have mo0_20 := m_set_o hm_20 mo0_19 (by decide)
  have ml_20 := m_set_l hm_20 ml_19
  clear hm_20 mo2_19 mo1_19 mo0_19 mo3_19
  refine dh_set (3) (fun M_ hM_ => (se_store up_h (u2 rfl up_h) rfl rfl (agr hM_ mo3_20 (by simp)) y68_sz26 rfl (nle rfl))) trivial ⟨.inr (wt_one 9 8 (by kernel_rfl)), trivial⟩ ⟨.inl (by simp <;> omega), ⟨.inl (by simp <;> omega), ⟨.inr (wt_one 9 8 (by kernel_rfl)), trivial⟩⟩⟩ (fun m_21 hm_21 => ?_)
  have mo3_21 := m_set hm_21 mo3_20
  simp only [pS, Value.cells, Nat.reduceAdd] at mo3_21
  have mo2_21 := m_set_o hm_21 mo2_20 (by decide)
  have mo1_21 := m_set_o hm_21 mo1_20 (by decide)
  have mo0_21 := m_set_o hm_21 mo0_20 (by decide)
  have ml_21 := m_set_l hm_21 ml_20
  clear hm_21 mo3_20 mo2_20 mo1_20 mo0_20
  refine dh_nil rfl ?_
  refine ar (ro_assign (up_n (up_m rfl up_h))) rfl <| ae7 (up_m rfl (up_n (up_m rfl (u8 rfl s2_18)))) (up_m rfl (up_n (up_m rfl (u8 rfl s3_18)))) (up_m rfl (up_n (up_m rfl (u8 rfl s4_18)))) (up_m rfl (up_n (up_m rfl (u8 rfl s7_18)))) (up_m rfl (up_n (up_m rfl (u8 rfl s8_18)))) (up_m rfl (up_n up_h)) up_h ?_; clear s2_18 s3_18 s4_18 s7_18 s8_18; intro e_22 s2_22 s3_22 s4_22 s7_22 s8_22 s9_22 s10_22
  refine then_n <| aw_seq <| at_ <| ar (ro_build evP_nil y68_bz26 y68_bu26 y68_bp26 rfl) rfl ?_
  refine al_stm (st_alloc y68_az26 rfl ml_21) trivial rfl (fun m_23 hm_23 => ?_)
  have mo4_23 := m_push hm_23 ml_21
  simp only [pS, Value.cells, Nat.reduceAdd] at mo4_23
  have mo3_23 := m_push_o hm_23 mo3_21
  have mo2_23 := m_push_o hm_23 mo2_21
  have mo1_23 := m_push_o hm_23 mo1_21
  have mo0_23 := m_push_o hm_23 mo0_21
  have ml_23 := m_push_l hm_23 ml_21
  have ml_23 : _ = 5 := ml_23
  clear hm_23 mo3_21 mo2_21 mo1_21 mo0_21
  refine al_stm (st_store up_h (up_m rfl up_h) rfl rfl mo4_23 y68_sz26 rfl (nle rfl)) trivial rfl (fun m_24 hm_24 => ?_)
  have mo4_24 := m_set hm_24 mo4_23
  simp only [pS, Value.cells, Nat.reduceAdd] at mo4_24
  have mo3_24 := m_set_o hm_24 mo3_23 (by decide)
  have mo2_24 := m_set_o hm_24 mo2_23 (by decide)
  have mo1_24 := m_set_o hm_24 mo1_23 (by decide)
  have mo0_24 := m_set_o hm_24 mo0_23 (by decide)
  have ml_24 := m_set_l hm_24 ml_23
  clear hm_24 mo4_23 mo3_23 mo2_23 mo1_23 mo0_23
  refine ae8 (up_n (u2 rfl s2_22)) (up_n (u2 rfl s3_22)) (up_n (u2 rfl s4_22)) (up_n (u2 rfl s7_22)) (up_n (u2 rfl s8_22)) (up_n (u2 rfl s9_22)) (up_n (u2 rfl s10_22)) (up_n up_h) ?_; clear s10_22 s2_22 s3_22 s4_22 s7_22 s8_22 s9_22; intro e_25 s2_25 s3_25 s4_25 s7_25 s8_25 s9_25 s10_25 s11_25
  refine then_n <| aw_seq <| aw_seq <| at_ <| ar (ro_eq (ro_ld_ptr y68_ty26 rfl mo0_24 s3_25 (nle rfl)) (by simp only [pS, Value.cells, Nat.reduceAdd] <;> rfl)) rfl ?_
  refine ar (ro_call (evL_cons up_h evL_nil) rfl (lineErr_ok a ha) y68_hcf14) rfl <| ar (ro_assign up_h) rfl <| ae9 (up_m rfl (u2 rfl s2_25)) (up_m rfl (u2 rfl s3_25)) (up_m rfl (u2 rfl s4_25)) (up_m rfl (u2 rfl s7_25)) (up_m rfl (u2 rfl s8_25)) (up_m rfl (u2 rfl s9_25)) (up_m rfl (u2 rfl s10_25)) (up_m rfl (u2 rfl s11_25)) up_h ?_; clear s10_25 s11_25 s2_25 s3_25 s4_25 s7_25 s8_25 s9_25; intro e_26 s2_26 s3_26 s4_26 s7_26 s8_26 s9_26 s10_26 s11_26 s12_26
  refine then_n <| aw_seq <| at_ <| ar (ro_move s12_26) rfl <| ar (ro_neq up_h ev_c) rfl <| ae10 (u2 rfl s2_26) (u2 rfl s3_26) (u2 rfl s4_26) (u2 rfl s7_26) (u2 rfl s8_26) (u2 rfl s9_26) (u2 rfl s10_26) (u2 rfl s11_26) (u2 rfl s12_26) up_h ?_; clear s10_26 s11_26 s12_26 s2_26 s3_26 s4_26 s7_26 s8_26 s9_26; intro e_27 s2_27 s3_27 s4_27 s7_27 s8_27 s9_27 s10_27 s11_27 s12_27 s55_27
  refine then_n <| aw_case s55_27 (fun hq_28 => ?_) (fun hq_28 => ?_)
  ·replace hq_28 := bnt hq_28
   refine aw_seq <| at_ <| ar (ro_move s8_27) rfl <| ar (ro_move (up_m rfl s12_27)) rfl <| ar (ro_eql (up_m rfl up_h) up_h) rfl ?_
   refine ar (ro_move up_h) rfl <| al_case up_h (fun hb_29 hq_29 => ?_) (fun hb_29 hq_29 => ?_)
   ·replace hq_29 := bt hq_29
    refine al_ro' (ro_move (u4 rfl s10_27)) ⟨_, rfl, hb_29⟩ rfl ?_
    refine al_ro' (ro_move (up_m rfl (u4 rfl s12_27))) ⟨_, rfl, (up_m rfl hb_29)⟩ rfl ?_
    refine al_ro' (ro_eql (up_m rfl up_h) up_h) ⟨_, rfl, (u2 rfl hb_29)⟩ rfl ?_
    refine ar (ro_pickT (up_m rfl (u2 rfl hb_29)) up_h) rfl <| ar (ro_move up_h) rfl <| al_case up_h (fun hb_30 hq_30 => ?_) (fun hb_30 hq_30 => ?_)
    ·replace hq_30 := bt hq_30
     refine al_ro' (ro_eq (ro_ld_ptr y68_ty26 rfl mo2_24 (up_m rfl (u8 rfl s7_27)) (nle rfl)) (by simp only [pS, Value.cells, Nat.reduceAdd] <;> rfl)) ⟨_, rfl, hb_30⟩ rfl ?_
     refine al_ro' (ro_eq (ro_ld_ptr y68_ty26 rfl mo4_24 (u2 rfl (u8 rfl s11_27)) (nle rfl)) (by simp only [pS, Value.cells, Nat.reduceAdd] <;> rfl)) ⟨_, rfl, (up_m rfl hb_30)⟩ rfl ?_
     refine al_ro' (ro_call (evL_cons (up_m rfl up_h) (evL_cons up_h evL_nil)) rfl (same_none) y68_hcf34) ⟨_, rfl, (u2 rfl hb_30)⟩ rfl ?_
     refine ar (ro_pickT (up_m rfl (u2 rfl hb_30)) up_h) rfl <| ar (ro_move up_h) rfl <| al_case up_h (fun hb_31 hq_31 => ?_) (fun hb_31 hq_31 => ?_)
     ·skip
      refine al_ro' (ro_eq (ro_ld_ptr y68_ty26 rfl mo3_24 (u2 rfl (u4 rfl (u8 rfl s9_27))) (nle rfl)) (by simp only [pS, Value.cells, Nat.reduceAdd] <;> rfl)) ⟨_, rfl, hb_31⟩ rfl ?_
      refine al_ro' (ro_eq (ro_ld_ptr y68_ty26 rfl mo4_24 (up_m rfl (u2 rfl (u4 rfl (u8 rfl s11_27)))) (nle rfl)) (by simp only [pS, Value.cells, Nat.reduceAdd] <;> rfl)) ⟨_, rfl, (up_m rfl hb_31)⟩ rfl ?_
      refine al_ro' (ro_call (evL_cons (up_m rfl up_h) (evL_cons up_h evL_nil)) rfl (same_none) y68_hcf34) ⟨_, rfl, (u2 rfl hb_31)⟩ rfl ?_
      refine ar (ro_pickT (up_m rfl (u2 rfl hb_31)) up_h) rfl <| ar (ro_assign up_h) rfl <| ae1 up_h ?_; clear hb_29 hb_30 hb_31 s10_27 s11_27 s12_27 s2_27 s3_27 s4_27 s55_27 s7_27 s8_27 s9_27; intro e_32 s6_32
      refine then_n <| aw_ret <| then_r <| ret1 (.inr rfl) (by kernel_rfl) (resV_tmp s6_32) (.ro _ rfl) ?_
      clear s6_32 mo4_24 mo3_24 mo2_24 mo1_24 mo0_24 ml_24
      first | rfl | (simp_all; done) | omega
     · cases hq_31
    · replace hq_30 := bf hq_30; exfalso; omega
   · replace hq_29 := bf hq_29; exfalso; omega
  · replace hq_28 := bnf hq_28; exfalso; omega
set_option maxRecDepth 100000 in
set_option maxHeartbeats 4000000 in
theorem lineBranches_none_bad (a b : Lin) (nm : ByteArray) (hfa : fewL a = true) (hfb : fewL b = true) (hn : nm.size ≤ 20) (hg : (linM a).2 = 0) (hB : brF a nm = none) (he : (linM b).2 ≠ 0) : FnOk Try.prog 7 [lnA a, lnA b, .v (.string nm)] (fun q => q = tbA true) := by
  refine fnOk_of (fn := Try.f7) 151 (by kernel_rfl) rfl (by kernel_rfl) (Nat.le_of_ble_eq_true rfl) ?_
  intro e_0 m_0 hA hm_0
  have s0_0 : evA e_0 (.tmp 0) = _ := hA 0 _ rfl
  have s1_0 : evA e_0 (.tmp 1) = _ := hA 1 _ rfl
  have s2_0 : evA e_0 (.tmp 2) = _ := hA 2 _ rfl
  have ml_0 : m_0.length = 0 := by rw [hm_0]; rfl
  clear hA hm_0
  have ha := fewL_sho hfa; have hb := fewL_sho hfb; have hr := rgt_of hg; have hpa := hr.pla (n := a.bs.length) (Nat.le_refl _)
  refine aw_seq <| at_ <| al_stm (st_box s0_0 rfl ml_0) trivial rfl (fun m_1 hm_1 => ?_)
  have mo0_1 := m_push hm_1 ml_0
  have ml_1 := m_push_l hm_1 ml_0
  have ml_1 : _ = 1 := ml_1
  clear hm_1
  refine al_stm (st_box (up_m rfl s1_0) rfl ml_1) trivial rfl (fun m_2 hm_2 => ?_)
  have mo1_2 := m_push hm_2 ml_1
  have mo0_2 := m_push_o hm_2 mo0_1
  have ml_2 := m_push_l hm_2 ml_1
  have ml_2 : _ = 2 := ml_2
  clear hm_2 mo0_1
  refine ar (ro_assign ev_c) rfl <| ae3 (up_m rfl (u2 rfl s2_0)) (u2 rfl up_h) (up_m rfl up_h) ?_; clear s0_0 s1_0 s2_0; intro e_3 s2_3 s3_3 s4_3
  refine then_n <| aw_seq <| aw_seq <| at_ <| ar (ro_call evL_nil rfl (awake_ok) y68_hcf12) rfl <| ar (ro_not up_h) rfl <| ae4 (u2 rfl s2_3) (u2 rfl s3_3) (u2 rfl s4_3) up_h ?_; clear s2_3 s3_3 s4_3; intro e_4 s2_4 s3_4 s4_4 s22_4
  refine then_n <| aw_case s22_4 (fun hq_5 => ?_) (fun hq_5 => ?_)
  · cases hq_5
  replace hq_5 := bf' hq_5
  refine aw_skip <| then_n <| aw_seq <| aw_seq <| at_ <| ar (ro_eq (ro_ld_ptr y68_ty26 rfl mo0_2 s3_4 (nle rfl)) (by simp only [pS, Value.cells, Nat.reduceAdd] <;> rfl)) rfl ?_
  refine ar (ro_call (evL_cons up_h evL_nil) rfl ((fewL_ok a).mono (fun q h => show q = tbA true from h.trans (by rw [hfa]))) y68_hcf13) rfl ?_
  refine ar (ro_not up_h) rfl <| ar (ro_move up_h) rfl <| al_case up_h (fun hb_6 hq_6 => ?_) (fun hb_6 hq_6 => ?_)
  · cases hq_6
  replace hq_6 := bf' hq_6
  refine al_ro' (ro_eq (ro_ld_ptr y68_ty26 rfl mo1_2 (u4 rfl s4_4) (nle rfl)) (by simp only [pS, Value.cells, Nat.reduceAdd] <;> rfl)) ⟨_, rfl, hb_6⟩ rfl ?_
  refine al_ro' (ro_call (evL_cons up_h evL_nil) rfl ((fewL_ok b).mono (fun q h => show q = tbA true from h.trans (by rw [hfb]))) y68_hcf13) ⟨_, rfl, (up_m rfl hb_6)⟩ rfl ?_
  refine al_ro' (ro_not up_h) ⟨_, rfl, (u2 rfl hb_6)⟩ rfl ?_
  refine ar (ro_pickF (up_m rfl (u2 rfl hb_6)) up_h) rfl <| ar (ro_move up_h) rfl <| al_case up_h (fun hb_10 hq_10 => ?_) (fun hb_10 hq_10 => ?_)
  · cases hq_10
  replace hq_10 := bf' hq_10
  refine al_ro' (ro_move (up_m rfl (u8 rfl s2_4))) ⟨_, rfl, hb_10⟩ rfl ?_
  refine al_ro' (ro_len_str up_h rfl y68_un9) ⟨_, rfl, (up_m rfl hb_10)⟩ rfl ?_
  refine al_ro' (ro_gtr up_h ev_c) ⟨_, rfl, (u2 rfl hb_10)⟩ rfl ?_
  refine ar (ro_pickF (up_m rfl (u2 rfl hb_10)) up_h) rfl <| ae4 (up_m rfl (u4 rfl (u8 rfl s2_4))) (up_m rfl (u4 rfl (u8 rfl s3_4))) (up_m rfl (u4 rfl (u8 rfl s4_4))) up_h ?_; clear hb_10 hb_6 s22_4 s2_4 s3_4 s4_4; intro e_14 s2_14 s3_14 s4_14 s35_14
  refine then_n <| aw_case s35_14 (fun hq_15 => ?_) (fun hq_15 => ?_)
  · replace hq_15 := bt hq_15; exfalso; omega
  replace hq_15 := bf hq_15
  refine aw_skip <| then_n <| aw_seq <| at_ <| ar (ro_eq (ro_ld_ptr y68_ty26 rfl mo0_2 s3_14 (nle rfl)) (by simp only [pS, Value.cells, Nat.reduceAdd] <;> rfl)) rfl ?_
  refine ar (ro_call (evL_cons up_h evL_nil) rfl (yCopy_ok a ha) y68_hcf18) rfl <| ar (ro_move (u2 rfl s2_14)) rfl <| ar (ro_call (evL_cons (up_m rfl up_h) (evL_cons up_h evL_nil)) rfl ((branch_good a ha hg nm (by omega)).mono (fun q h => show q = .tuple [lnA nonL, mA 6] from h.trans (by unfold braA; rw [hB]))) y68_hcf38) rfl ?_
  refine ar (ro_move up_h) rfl <| ar (ro_extract up_h rfl) rfl <| ar (ro_extract (up_m rfl up_h) rfl) rfl <| al_stm (st_alloc y68_az26 rfl ml_2) trivial rfl (fun m_16 hm_16 => ?_)
  have mo2_16 := m_push hm_16 ml_2
  simp only [pS, Value.cells, Nat.reduceAdd] at mo2_16
  have mo1_16 := m_push_o hm_16 mo1_2
  have mo0_16 := m_push_o hm_16 mo0_2
  have ml_16 := m_push_l hm_16 ml_2
  have ml_16 : _ = 3 := ml_16
  clear hm_16 mo1_2 mo0_2
  refine al_stm (st_store up_h (u2 rfl up_h) rfl rfl mo2_16 y68_sz26 rfl (nle rfl)) trivial rfl (fun m_17 hm_17 => ?_)
  have mo2_17 := m_set hm_17 mo2_16
  simp only [pS, Value.cells, Nat.reduceAdd] at mo2_17
  have mo1_17 := m_set_o hm_17 mo1_16 (by decide)
  have mo0_17 := m_set_o hm_17 mo0_16 (by decide)
  have ml_17 := m_set_l hm_17 ml_16
  clear hm_17 mo2_16 mo1_16 mo0_16
  refine ar (ro_assign (up_n (up_m rfl up_h))) rfl <| ae5 (up_m rfl (up_n (u8 rfl s2_14))) (up_m rfl (up_n (u8 rfl s3_14))) (up_m rfl (up_n (u8 rfl s4_14))) (up_m rfl (up_n up_h)) up_h ?_; clear s2_14 s35_14 s3_14 s4_14; intro e_18 s2_18 s3_18 s4_18 s7_18 s8_18
  refine then_n <| aw_seq <| aw_drawK 10 1 ml_17 (by kernel_rfl) (by kernel_rfl) (by kernel_rfl) (by kernel_rfl) (fun m_19 hm_19 => ?_)
  have mo2_19 := m_room_o hm_19 mo2_17
  have mo1_19 := m_room_o hm_19 mo1_17
  have mo0_19 := m_room_o hm_19 mo0_17
  have mo3_19 : m_19[3]? = _ := m_room_g hm_19 ml_17 0 rfl rfl
  have ml_19 : _ = 4 := m_room_l (K := 1) hm_19 ml_17
  clear hm_19 mo2_17 mo1_17 mo0_17 ml_17
  refine dh_ld (0) (fun M_ hM_ => (ro_eq (ro_ld_ptr y68_ty26 rfl (agr hM_ mo0_19 (by simp)) s3_18 (nle rfl)) (by simp only [pS, Value.cells, Nat.reduceAdd] <;> rfl))) trivial trivial ?_
  refine dh_ro (fun M_ hM_ => (ro_call (evL_cons up_h evL_nil) rfl (yCopy_ok a ha) y68_hcf18)) trivial ?_
  refine dh_ld (1) (fun M_ hM_ => (ro_eq (ro_ld_ptr y68_ty26 rfl (agr hM_ mo1_19 (by simp)) (u2 rfl s4_18) (nle rfl)) (by simp only [pS, Value.cells, Nat.reduceAdd] <;> rfl))) trivial trivial ?_
  refine dh_ro (fun M_ hM_ => (ro_call (evL_cons up_h evL_nil) rfl (yCopy_ok b hb) y68_hcf18)) trivial ?_
  refine dh_ro (fun M_ hM_ => (ro_call (evL_cons (u2 rfl up_h) (evL_cons up_h evL_nil)) rfl (joined_b a b ha hb hg he) y68_hcf39)) trivial ?_
  refine dh_ro (fun M_ hM_ => (ro_move up_h)) trivial ?_
  refine dh_ro (fun M_ hM_ => (ro_extract up_h rfl)) trivial ?_
  refine dh_ro (fun M_ hM_ => (ro_extract (up_m rfl up_h) rfl)) trivial ?_
  refine dh_nw (3) (fun M_ hM_ => (nw_alloc y68_az26 rfl)) trivial mo3_19 rfl trivial ⟨.inl (by simp <;> omega), ⟨.inl (by simp <;> omega), trivial⟩⟩ (fun m_20 hm_20 => ?_)
  have mo3_20 := m_set hm_20 mo3_19
  simp only [pS, Value.cells, Nat.reduceAdd] at mo3_20
  have mo2_20 := m_set_o hm_20 mo2_19 (by decide)
  have mo1_20 := m_set_o hm_20 mo1_19 (by decide)
  have mo0_20 := m_set_o hm_20 mo0_19 (by decide)
  have ml_20 := m_set_l hm_20 ml_19
  clear hm_20 mo2_19 mo1_19 mo0_19 mo3_19
  refine dh_set (3) (fun M_ hM_ => (se_store up_h (u2 rfl up_h) rfl rfl (agr hM_ mo3_20 (by simp)) y68_sz26 rfl (nle rfl))) trivial ⟨.inr (wt_one 9 8 (by kernel_rfl)), trivial⟩ ⟨.inl (by simp <;> omega), ⟨.inl (by simp <;> omega), ⟨.inr (wt_one 9 8 (by kernel_rfl)), trivial⟩⟩⟩ (fun m_21 hm_21 => ?_)
  have mo3_21 := m_set hm_21 mo3_20
  simp only [pS, Value.cells, Nat.reduceAdd] at mo3_21
  have mo2_21 := m_set_o hm_21 mo2_20 (by decide)
  have mo1_21 := m_set_o hm_21 mo1_20 (by decide)
  have mo0_21 := m_set_o hm_21 mo0_20 (by decide)
  have ml_21 := m_set_l hm_21 ml_20
  clear hm_21 mo3_20 mo2_20 mo1_20 mo0_20
  refine dh_nil rfl ?_
  refine ar (ro_assign (up_n (up_m rfl up_h))) rfl <| ae7 (up_m rfl (up_n (up_m rfl (u8 rfl s2_18)))) (up_m rfl (up_n (up_m rfl (u8 rfl s3_18)))) (up_m rfl (up_n (up_m rfl (u8 rfl s4_18)))) (up_m rfl (up_n (up_m rfl (u8 rfl s7_18)))) (up_m rfl (up_n (up_m rfl (u8 rfl s8_18)))) (up_m rfl (up_n up_h)) up_h ?_; clear s2_18 s3_18 s4_18 s7_18 s8_18; intro e_22 s2_22 s3_22 s4_22 s7_22 s8_22 s9_22 s10_22
  refine then_n <| aw_seq <| at_ <| ar (ro_build evP_nil y68_bz26 y68_bu26 y68_bp26 rfl) rfl ?_
  refine al_stm (st_alloc y68_az26 rfl ml_21) trivial rfl (fun m_23 hm_23 => ?_)
  have mo4_23 := m_push hm_23 ml_21
  simp only [pS, Value.cells, Nat.reduceAdd] at mo4_23
  have mo3_23 := m_push_o hm_23 mo3_21
  have mo2_23 := m_push_o hm_23 mo2_21
  have mo1_23 := m_push_o hm_23 mo1_21
  have mo0_23 := m_push_o hm_23 mo0_21
  have ml_23 := m_push_l hm_23 ml_21
  have ml_23 : _ = 5 := ml_23
  clear hm_23 mo3_21 mo2_21 mo1_21 mo0_21
  refine al_stm (st_store up_h (up_m rfl up_h) rfl rfl mo4_23 y68_sz26 rfl (nle rfl)) trivial rfl (fun m_24 hm_24 => ?_)
  have mo4_24 := m_set hm_24 mo4_23
  simp only [pS, Value.cells, Nat.reduceAdd] at mo4_24
  have mo3_24 := m_set_o hm_24 mo3_23 (by decide)
  have mo2_24 := m_set_o hm_24 mo2_23 (by decide)
  have mo1_24 := m_set_o hm_24 mo1_23 (by decide)
  have mo0_24 := m_set_o hm_24 mo0_23 (by decide)
  have ml_24 := m_set_l hm_24 ml_23
  clear hm_24 mo4_23 mo3_23 mo2_23 mo1_23 mo0_23
  refine ae8 (up_n (u2 rfl s2_22)) (up_n (u2 rfl s3_22)) (up_n (u2 rfl s4_22)) (up_n (u2 rfl s7_22)) (up_n (u2 rfl s8_22)) (up_n (u2 rfl s9_22)) (up_n (u2 rfl s10_22)) (up_n up_h) ?_; clear s10_22 s2_22 s3_22 s4_22 s7_22 s8_22 s9_22; intro e_25 s2_25 s3_25 s4_25 s7_25 s8_25 s9_25 s10_25 s11_25
  refine then_n <| aw_seq <| aw_seq <| at_ <| ar (ro_eq (ro_ld_ptr y68_ty26 rfl mo0_24 s3_25 (nle rfl)) (by simp only [pS, Value.cells, Nat.reduceAdd] <;> rfl)) rfl ?_
  refine ar (ro_call (evL_cons up_h evL_nil) rfl ((lineErr_ok a ha).mono (fun q h => show q = mA 0 from h.trans (by rw [hg]))) y68_hcf14) rfl ?_
  refine ar (ro_assign up_h) rfl <| ae9 (up_m rfl (u2 rfl s2_25)) (up_m rfl (u2 rfl s3_25)) (up_m rfl (u2 rfl s4_25)) (up_m rfl (u2 rfl s7_25)) (up_m rfl (u2 rfl s8_25)) (up_m rfl (u2 rfl s9_25)) (up_m rfl (u2 rfl s10_25)) (up_m rfl (u2 rfl s11_25)) up_h ?_; clear s10_25 s11_25 s2_25 s3_25 s4_25 s7_25 s8_25 s9_25; intro e_26 s2_26 s3_26 s4_26 s7_26 s8_26 s9_26 s10_26 s11_26 s12_26
  refine then_n <| aw_seq <| at_ <| ar (ro_move s12_26) rfl <| ar (ro_neq up_h ev_c) rfl <| ae10 (u2 rfl s2_26) (u2 rfl s3_26) (u2 rfl s4_26) (u2 rfl s7_26) (u2 rfl s8_26) (u2 rfl s9_26) (u2 rfl s10_26) (u2 rfl s11_26) (u2 rfl s12_26) up_h ?_; clear s10_26 s11_26 s12_26 s2_26 s3_26 s4_26 s7_26 s8_26 s9_26; intro e_27 s2_27 s3_27 s4_27 s7_27 s8_27 s9_27 s10_27 s11_27 s12_27 s55_27
  refine then_n <| aw_case s55_27 (fun hq_28 => ?_) (fun hq_28 => ?_)
  · cases hq_28
  replace hq_28 := bnf hq_28
  refine aw_skip <| then_n <| aw_seq <| aw_seq <| at_ <| ar (ro_eq (ro_ld_ptr y68_ty26 rfl mo0_24 s3_27 (nle rfl)) (by simp only [pS, Value.cells, Nat.reduceAdd] <;> rfl)) rfl ?_
  refine ar (ro_move (up_m rfl s2_27)) rfl <| ar (ro_call (evL_cons (up_m rfl up_h) (evL_cons up_h evL_nil)) rfl ((rBranch_ok a ha hr nm (by omega)).mono (fun q h => show q = .tuple [lnA nonL, tbA false] from h.trans (by unfold rBraA; rw [hB]))) y68_hcf40) rfl ?_
  refine ar (ro_move up_h) rfl <| ar (ro_extract up_h rfl) rfl <| ar (ro_extract (up_m rfl up_h) rfl) rfl <| al_stm (st_alloc y68_az26 rfl ml_24) trivial rfl (fun m_29 hm_29 => ?_)
  have mo5_29 := m_push hm_29 ml_24
  simp only [pS, Value.cells, Nat.reduceAdd] at mo5_29
  have mo4_29 := m_push_o hm_29 mo4_24
  have mo3_29 := m_push_o hm_29 mo3_24
  have mo2_29 := m_push_o hm_29 mo2_24
  have mo1_29 := m_push_o hm_29 mo1_24
  have mo0_29 := m_push_o hm_29 mo0_24
  have ml_29 := m_push_l hm_29 ml_24
  have ml_29 : _ = 6 := ml_29
  clear hm_29 mo4_24 mo3_24 mo2_24 mo1_24 mo0_24
  refine al_stm (st_store up_h (u2 rfl up_h) rfl rfl mo5_29 y68_sz26 rfl (nle rfl)) trivial rfl (fun m_30 hm_30 => ?_)
  have mo5_30 := m_set hm_30 mo5_29
  simp only [pS, Value.cells, Nat.reduceAdd] at mo5_30
  have mo4_30 := m_set_o hm_30 mo4_29 (by decide)
  have mo3_30 := m_set_o hm_30 mo3_29 (by decide)
  have mo2_30 := m_set_o hm_30 mo2_29 (by decide)
  have mo1_30 := m_set_o hm_30 mo1_29 (by decide)
  have mo0_30 := m_set_o hm_30 mo0_29 (by decide)
  have ml_30 := m_set_l hm_30 ml_29
  clear hm_30 mo5_29 mo4_29 mo3_29 mo2_29 mo1_29 mo0_29
  refine ar (ro_assign (up_n (up_m rfl up_h))) rfl <| ae9 (up_m rfl (up_n (up_m rfl (u2 rfl (u4 rfl s3_27))))) (up_m rfl (up_n (up_m rfl (u2 rfl (u4 rfl s4_27))))) (up_m rfl (up_n (up_m rfl (u2 rfl (u4 rfl s7_27))))) (up_m rfl (up_n (up_m rfl (u2 rfl (u4 rfl s8_27))))) (up_m rfl (up_n (up_m rfl (u2 rfl (u4 rfl s9_27))))) (up_m rfl (up_n (up_m rfl (u2 rfl (u4 rfl s10_27))))) (up_m rfl (up_n (up_m rfl (u2 rfl (u4 rfl s11_27))))) (up_m rfl (up_n up_h)) up_h ?_; clear s10_27 s11_27 s12_27 s2_27 s3_27 s4_27 s55_27 s7_27 s8_27 s9_27; intro e_31 s3_31 s4_31 s7_31 s8_31 s9_31 s10_31 s11_31 s13_31 s14_31
  refine then_n <| aw_seq <| at_ <| ar (ro_move s14_31) rfl <| ae9 (up_m rfl s3_31) (up_m rfl s4_31) (up_m rfl s7_31) (up_m rfl s8_31) (up_m rfl s9_31) (up_m rfl s10_31) (up_m rfl s11_31) (up_m rfl s13_31) up_h ?_; clear s10_31 s11_31 s13_31 s14_31 s3_31 s4_31 s7_31 s8_31 s9_31; intro e_32 s3_32 s4_32 s7_32 s8_32 s9_32 s10_32 s11_32 s13_32 s80_32
  refine then_n <| aw_case s80_32 (fun hq_33 => ?_) (fun hq_33 => ?_)
  · cases hq_33
  refine aw_seq <| at_ <| ar (ro_move s8_32) rfl <| ar (ro_neq up_h ev_c) rfl <| ar (ro_move up_h) rfl <| al_case up_h (fun hb_34 hq_34 => ?_) (fun hb_34 hq_34 => ?_)
  · cases hq_34
  replace hq_34 := bnf hq_34
  refine al_ro' (ro_eq (ro_ld_ptr y68_ty26 rfl mo2_30 (up_m rfl (u2 rfl s7_32)) (nle rfl)) (by simp only [pS, Value.cells, Nat.reduceAdd] <;> rfl)) ⟨_, rfl, hb_34⟩ rfl ?_
  refine al_ro' (ro_eq (ro_ld_ptr y68_ty26 rfl mo4_30 (u4 rfl s11_32) (nle rfl)) (by simp only [pS, Value.cells, Nat.reduceAdd] <;> rfl)) ⟨_, rfl, (up_m rfl hb_34)⟩ rfl ?_
  refine al_ro' (ro_call (evL_cons (up_m rfl up_h) (evL_cons up_h evL_nil)) rfl (same_none) y68_hcf34) ⟨_, rfl, (u2 rfl hb_34)⟩ rfl ?_
  refine al_ro' (ro_not up_h) ⟨_, rfl, (up_m rfl (u2 rfl hb_34))⟩ rfl ?_
  refine ar (ro_pickF (u4 rfl hb_34) up_h) rfl <| ae5 (u8 rfl s3_32) (u8 rfl s4_32) (u8 rfl s9_32) (u8 rfl s10_32) up_h ?_; clear hb_34 s10_32 s11_32 s13_32 s3_32 s4_32 s7_32 s80_32 s8_32 s9_32; intro e_38 s3_38 s4_38 s9_38 s10_38 s112_38
  refine then_n <| aw_case s112_38 (fun hq_39 => ?_) (fun hq_39 => ?_)
  · cases hq_39
  replace hq_39 := bf' hq_39
  refine aw_skip <| then_n <| aw_seq <| at_ <| ar (ro_eq (ro_ld_ptr y68_ty26 rfl mo1_30 s4_38 (nle rfl)) (by simp only [pS, Value.cells, Nat.reduceAdd] <;> rfl)) rfl ?_
  refine ar (ro_call (evL_cons up_h evL_nil) rfl (lineErr_ok b hb) y68_hcf14) rfl <| ar (ro_assign up_h) rfl <| ae5 (up_m rfl (u2 rfl s3_38)) (up_m rfl (u2 rfl s4_38)) (up_m rfl (u2 rfl s9_38)) (up_m rfl (u2 rfl s10_38)) up_h ?_; clear s10_38 s112_38 s3_38 s4_38 s9_38; intro e_41 s3_41 s4_41 s9_41 s10_41 s17_41
  refine then_n <| aw_seq <| at_ <| al_stm (st_alloc y68_az26 rfl ml_30) trivial rfl (fun m_42 hm_42 => ?_)
  have mo6_42 := m_push hm_42 ml_30
  simp only [pS, Value.cells, Nat.reduceAdd] at mo6_42
  have mo5_42 := m_push_o hm_42 mo5_30
  have mo4_42 := m_push_o hm_42 mo4_30
  have mo3_42 := m_push_o hm_42 mo3_30
  have mo2_42 := m_push_o hm_42 mo2_30
  have mo1_42 := m_push_o hm_42 mo1_30
  have mo0_42 := m_push_o hm_42 mo0_30
  have ml_42 := m_push_l hm_42 ml_30
  have ml_42 : _ = 7 := ml_42
  clear hm_42 mo5_30 mo4_30 mo3_30 mo2_30 mo1_30 mo0_30
  refine ae6 (up_m rfl s3_41) (up_m rfl s4_41) (up_m rfl s9_41) (up_m rfl s10_41) (up_m rfl s17_41) up_h ?_; clear s10_41 s17_41 s3_41 s4_41 s9_41; intro e_43 s3_43 s4_43 s9_43 s10_43 s17_43 s18_43
  refine then_n <| aw_seq <| aw_seq <| at_ <| ar (ro_move s17_43) rfl <| ar (ro_eql up_h ev_c) rfl ?_
  refine ae7 (u2 rfl s3_43) (u2 rfl s4_43) (u2 rfl s9_43) (u2 rfl s10_43) (u2 rfl s17_43) (u2 rfl s18_43) up_h ?_; clear s10_43 s17_43 s18_43 s3_43 s4_43 s9_43; intro e_44 s3_44 s4_44 s9_44 s10_44 s17_44 s18_44 s116_44
  refine then_n <| aw_case s116_44 (fun hq_45 => ?_) (fun hq_45 => ?_)
  · replace hq_45 := bt hq_45; exfalso; omega
  replace hq_45 := bf hq_45
  refine aw_skip <| then_n <| aw_seq <| aw_seq <| at_ <| ar (ro_move s10_44) rfl <| ar (ro_move (up_m rfl s17_44)) rfl <| ar (ro_neq (up_m rfl up_h) up_h) rfl <| ar (ro_move up_h) rfl <| al_case up_h (fun hb_46 hq_46 => ?_) (fun hb_46 hq_46 => ?_)
  · replace hq_46 := bnt hq_46; exfalso; omega
  replace hq_46 := bnf hq_46
  refine al_ro' (ro_eq (ro_ld_ptr y68_ty26 rfl mo3_42 (u4 rfl s9_44) (nle rfl)) (by simp only [pS, Value.cells, Nat.reduceAdd] <;> rfl)) ⟨_, rfl, hb_46⟩ rfl ?_
  refine al_ro' (ro_eq (ro_ld_ptr y68_ty26 rfl mo6_42 (up_m rfl (u4 rfl s18_44)) (nle rfl)) (by simp only [pS, Value.cells, Nat.reduceAdd] <;> rfl)) ⟨_, rfl, (up_m rfl hb_46)⟩ rfl ?_
  refine al_ro' (ro_call (evL_cons (up_m rfl up_h) (evL_cons up_h evL_nil)) rfl (same_none) y68_hcf34) ⟨_, rfl, (u2 rfl hb_46)⟩ rfl ?_
  refine al_ro' (ro_not up_h) ⟨_, rfl, (up_m rfl (u2 rfl hb_46))⟩ rfl ?_
  refine ar (ro_pickF (u4 rfl hb_46) up_h) rfl <| ae5 (up_m rfl (u8 rfl s3_44)) (up_m rfl (u8 rfl s4_44)) (up_m rfl (u8 rfl s9_44)) (up_m rfl (u8 rfl s17_44)) up_h ?_; clear hb_46 s10_44 s116_44 s17_44 s18_44 s3_44 s4_44 s9_44; intro e_50 s3_50 s4_50 s9_50 s17_50 s131_50
  refine then_n <| aw_case s131_50 (fun hq_51 => ?_) (fun hq_51 => ?_)
  · cases hq_51
  replace hq_51 := bf' hq_51
  refine aw_skip <| then_n <| aw_seq <| aw_seq <| at_ <| ar (ro_move s17_50) rfl <| ar (ro_neq up_h ev_c) rfl <| ae4 (u2 rfl s3_50) (u2 rfl s4_50) (u2 rfl s9_50) up_h ?_; clear s131_50 s17_50 s3_50 s4_50 s9_50; intro e_53 s3_53 s4_53 s9_53 s133_53
  refine then_n <| aw_case s133_53 (fun hq_54 => ?_) (fun hq_54 => ?_)
  ·replace hq_54 := bnt hq_54
   refine aw_seq <| at_ <| ar (ro_assign ev_c) rfl <| ae1 up_h ?_; clear s133_53 s3_53 s4_53 s9_53; intro e_55 s6_55
   refine then_n <| aw_ret <| then_r <| ret1 (.inr rfl) (by kernel_rfl) (resV_tmp s6_55) (.ro _ rfl) ?_
   clear s6_55 mo6_42 mo5_42 mo4_42 mo3_42 mo2_42 mo1_42 mo0_42 ml_42
   first | rfl | (simp_all; done) | omega
  · replace hq_54 := bnf hq_54; exfalso; omega
set_option maxRecDepth 100000 in
set_option maxHeartbeats 4000000 in
theorem lineBranches_none_in (a b : Lin) (nm : ByteArray) (hfa : fewL a = true) (hfb : fewL b = true) (hn : nm.size ≤ 20) (hg : (linM a).2 = 0) (hB : brF a nm = none) (hh : (linM b).2 = 0) (J : Lin) (d : Int) (hS : joiA a b = .tuple [lnA J, mA d]) (hJ : Sho J) (hJr : d = 0 → Rgt J ∧ plaP J.bs J.bs.length = plaP a.bs a.bs.length + plaP b.bs b.bs.length) : FnOk Try.prog 7 [lnA a, lnA b, .v (.string nm)] (fun q => q = tbA true) := by
  refine fnOk_of (fn := Try.f7) 151 (by kernel_rfl) rfl (by kernel_rfl) (Nat.le_of_ble_eq_true rfl) ?_
  intro e_0 m_0 hA hm_0
  have s0_0 : evA e_0 (.tmp 0) = _ := hA 0 _ rfl
  have s1_0 : evA e_0 (.tmp 1) = _ := hA 1 _ rfl
  have s2_0 : evA e_0 (.tmp 2) = _ := hA 2 _ rfl
  have ml_0 : m_0.length = 0 := by rw [hm_0]; rfl
  clear hA hm_0
  have ha := fewL_sho hfa; have hb := fewL_sho hfb; have hr := rgt_of hg; have hpa := hr.pla (n := a.bs.length) (Nat.le_refl _); have hs := rgt_of hh; have hpb := hs.pla (n := b.bs.length) (Nat.le_refl _)
  refine aw_seq <| at_ <| al_stm (st_box s0_0 rfl ml_0) trivial rfl (fun m_1 hm_1 => ?_)
  have mo0_1 := m_push hm_1 ml_0
  have ml_1 := m_push_l hm_1 ml_0
  have ml_1 : _ = 1 := ml_1
  clear hm_1
  refine al_stm (st_box (up_m rfl s1_0) rfl ml_1) trivial rfl (fun m_2 hm_2 => ?_)
  have mo1_2 := m_push hm_2 ml_1
  have mo0_2 := m_push_o hm_2 mo0_1
  have ml_2 := m_push_l hm_2 ml_1
  have ml_2 : _ = 2 := ml_2
  clear hm_2 mo0_1
  refine ar (ro_assign ev_c) rfl <| ae3 (up_m rfl (u2 rfl s2_0)) (u2 rfl up_h) (up_m rfl up_h) ?_; clear s0_0 s1_0 s2_0; intro e_3 s2_3 s3_3 s4_3
  refine then_n <| aw_seq <| aw_seq <| at_ <| ar (ro_call evL_nil rfl (awake_ok) y68_hcf12) rfl <| ar (ro_not up_h) rfl <| ae4 (u2 rfl s2_3) (u2 rfl s3_3) (u2 rfl s4_3) up_h ?_; clear s2_3 s3_3 s4_3; intro e_4 s2_4 s3_4 s4_4 s22_4
  refine then_n <| aw_case s22_4 (fun hq_5 => ?_) (fun hq_5 => ?_)
  · cases hq_5
  replace hq_5 := bf' hq_5
  refine aw_skip <| then_n <| aw_seq <| aw_seq <| at_ <| ar (ro_eq (ro_ld_ptr y68_ty26 rfl mo0_2 s3_4 (nle rfl)) (by simp only [pS, Value.cells, Nat.reduceAdd] <;> rfl)) rfl ?_
  refine ar (ro_call (evL_cons up_h evL_nil) rfl ((fewL_ok a).mono (fun q h => show q = tbA true from h.trans (by rw [hfa]))) y68_hcf13) rfl ?_
  refine ar (ro_not up_h) rfl <| ar (ro_move up_h) rfl <| al_case up_h (fun hb_6 hq_6 => ?_) (fun hb_6 hq_6 => ?_)
  · cases hq_6
  replace hq_6 := bf' hq_6
  refine al_ro' (ro_eq (ro_ld_ptr y68_ty26 rfl mo1_2 (u4 rfl s4_4) (nle rfl)) (by simp only [pS, Value.cells, Nat.reduceAdd] <;> rfl)) ⟨_, rfl, hb_6⟩ rfl ?_
  refine al_ro' (ro_call (evL_cons up_h evL_nil) rfl ((fewL_ok b).mono (fun q h => show q = tbA true from h.trans (by rw [hfb]))) y68_hcf13) ⟨_, rfl, (up_m rfl hb_6)⟩ rfl ?_
  refine al_ro' (ro_not up_h) ⟨_, rfl, (u2 rfl hb_6)⟩ rfl ?_
  refine ar (ro_pickF (up_m rfl (u2 rfl hb_6)) up_h) rfl <| ar (ro_move up_h) rfl <| al_case up_h (fun hb_10 hq_10 => ?_) (fun hb_10 hq_10 => ?_)
  · cases hq_10
  replace hq_10 := bf' hq_10
  refine al_ro' (ro_move (up_m rfl (u8 rfl s2_4))) ⟨_, rfl, hb_10⟩ rfl ?_
  refine al_ro' (ro_len_str up_h rfl y68_un9) ⟨_, rfl, (up_m rfl hb_10)⟩ rfl ?_
  refine al_ro' (ro_gtr up_h ev_c) ⟨_, rfl, (u2 rfl hb_10)⟩ rfl ?_
  refine ar (ro_pickF (up_m rfl (u2 rfl hb_10)) up_h) rfl <| ae4 (up_m rfl (u4 rfl (u8 rfl s2_4))) (up_m rfl (u4 rfl (u8 rfl s3_4))) (up_m rfl (u4 rfl (u8 rfl s4_4))) up_h ?_; clear hb_10 hb_6 s22_4 s2_4 s3_4 s4_4; intro e_14 s2_14 s3_14 s4_14 s35_14
  refine then_n <| aw_case s35_14 (fun hq_15 => ?_) (fun hq_15 => ?_)
  · replace hq_15 := bt hq_15; exfalso; omega
  replace hq_15 := bf hq_15
  refine aw_skip <| then_n <| aw_seq <| at_ <| ar (ro_eq (ro_ld_ptr y68_ty26 rfl mo0_2 s3_14 (nle rfl)) (by simp only [pS, Value.cells, Nat.reduceAdd] <;> rfl)) rfl ?_
  refine ar (ro_call (evL_cons up_h evL_nil) rfl (yCopy_ok a ha) y68_hcf18) rfl <| ar (ro_move (u2 rfl s2_14)) rfl <| ar (ro_call (evL_cons (up_m rfl up_h) (evL_cons up_h evL_nil)) rfl ((branch_good a ha hg nm (by omega)).mono (fun q h => show q = .tuple [lnA nonL, mA 6] from h.trans (by unfold braA; rw [hB]))) y68_hcf38) rfl ?_
  refine ar (ro_move up_h) rfl <| ar (ro_extract up_h rfl) rfl <| ar (ro_extract (up_m rfl up_h) rfl) rfl <| al_stm (st_alloc y68_az26 rfl ml_2) trivial rfl (fun m_16 hm_16 => ?_)
  have mo2_16 := m_push hm_16 ml_2
  simp only [pS, Value.cells, Nat.reduceAdd] at mo2_16
  have mo1_16 := m_push_o hm_16 mo1_2
  have mo0_16 := m_push_o hm_16 mo0_2
  have ml_16 := m_push_l hm_16 ml_2
  have ml_16 : _ = 3 := ml_16
  clear hm_16 mo1_2 mo0_2
  refine al_stm (st_store up_h (u2 rfl up_h) rfl rfl mo2_16 y68_sz26 rfl (nle rfl)) trivial rfl (fun m_17 hm_17 => ?_)
  have mo2_17 := m_set hm_17 mo2_16
  simp only [pS, Value.cells, Nat.reduceAdd] at mo2_17
  have mo1_17 := m_set_o hm_17 mo1_16 (by decide)
  have mo0_17 := m_set_o hm_17 mo0_16 (by decide)
  have ml_17 := m_set_l hm_17 ml_16
  clear hm_17 mo2_16 mo1_16 mo0_16
  refine ar (ro_assign (up_n (up_m rfl up_h))) rfl <| ae5 (up_m rfl (up_n (u8 rfl s2_14))) (up_m rfl (up_n (u8 rfl s3_14))) (up_m rfl (up_n (u8 rfl s4_14))) (up_m rfl (up_n up_h)) up_h ?_; clear s2_14 s35_14 s3_14 s4_14; intro e_18 s2_18 s3_18 s4_18 s7_18 s8_18
  refine then_n <| aw_seq <| aw_drawK 10 1 ml_17 (by kernel_rfl) (by kernel_rfl) (by kernel_rfl) (by kernel_rfl) (fun m_19 hm_19 => ?_)
  have mo2_19 := m_room_o hm_19 mo2_17
  have mo1_19 := m_room_o hm_19 mo1_17
  have mo0_19 := m_room_o hm_19 mo0_17
  have mo3_19 : m_19[3]? = _ := m_room_g hm_19 ml_17 0 rfl rfl
  have ml_19 : _ = 4 := m_room_l (K := 1) hm_19 ml_17
  clear hm_19 mo2_17 mo1_17 mo0_17 ml_17
  refine dh_ld (0) (fun M_ hM_ => (ro_eq (ro_ld_ptr y68_ty26 rfl (agr hM_ mo0_19 (by simp)) s3_18 (nle rfl)) (by simp only [pS, Value.cells, Nat.reduceAdd] <;> rfl))) trivial trivial ?_
  refine dh_ro (fun M_ hM_ => (ro_call (evL_cons up_h evL_nil) rfl (yCopy_ok a ha) y68_hcf18)) trivial ?_
  refine dh_ld (1) (fun M_ hM_ => (ro_eq (ro_ld_ptr y68_ty26 rfl (agr hM_ mo1_19 (by simp)) (u2 rfl s4_18) (nle rfl)) (by simp only [pS, Value.cells, Nat.reduceAdd] <;> rfl))) trivial trivial ?_
  refine dh_ro (fun M_ hM_ => (ro_call (evL_cons up_h evL_nil) rfl (yCopy_ok b hb) y68_hcf18)) trivial ?_
  refine dh_ro (fun M_ hM_ => (ro_call (evL_cons (u2 rfl up_h) (evL_cons up_h evL_nil)) rfl ((joined_in a b ha hb hg hh).mono (fun q h => h.trans hS)) y68_hcf39)) trivial ?_
  refine dh_ro (fun M_ hM_ => (ro_move up_h)) trivial ?_
  refine dh_ro (fun M_ hM_ => (ro_extract up_h rfl)) trivial ?_
  refine dh_ro (fun M_ hM_ => (ro_extract (up_m rfl up_h) rfl)) trivial ?_
  refine dh_nw (3) (fun M_ hM_ => (nw_alloc y68_az26 rfl)) trivial mo3_19 rfl trivial ⟨.inl (by simp <;> omega), ⟨.inl (by simp <;> omega), trivial⟩⟩ (fun m_20 hm_20 => ?_)
  have mo3_20 := m_set hm_20 mo3_19
  simp only [pS, Value.cells, Nat.reduceAdd] at mo3_20
  have mo2_20 := m_set_o hm_20 mo2_19 (by decide)
  have mo1_20 := m_set_o hm_20 mo1_19 (by decide)
  have mo0_20 := m_set_o hm_20 mo0_19 (by decide)
  have ml_20 := m_set_l hm_20 ml_19
  clear hm_20 mo2_19 mo1_19 mo0_19 mo3_19
  refine dh_set (3) (fun M_ hM_ => (se_store up_h (u2 rfl up_h) rfl rfl (agr hM_ mo3_20 (by simp)) y68_sz26 rfl (nle rfl))) trivial ⟨.inr (wt_one 9 8 (by kernel_rfl)), trivial⟩ ⟨.inl (by simp <;> omega), ⟨.inl (by simp <;> omega), ⟨.inr (wt_one 9 8 (by kernel_rfl)), trivial⟩⟩⟩ (fun m_21 hm_21 => ?_)
  have mo3_21 := m_set hm_21 mo3_20
  simp only [pS, Value.cells, Nat.reduceAdd] at mo3_21
  have mo2_21 := m_set_o hm_21 mo2_20 (by decide)
  have mo1_21 := m_set_o hm_21 mo1_20 (by decide)
  have mo0_21 := m_set_o hm_21 mo0_20 (by decide)
  have ml_21 := m_set_l hm_21 ml_20
  clear hm_21 mo3_20 mo2_20 mo1_20 mo0_20
  refine dh_nil rfl ?_
  refine ar (ro_assign (up_n (up_m rfl up_h))) rfl <| ae7 (up_m rfl (up_n (up_m rfl (u8 rfl s2_18)))) (up_m rfl (up_n (up_m rfl (u8 rfl s3_18)))) (up_m rfl (up_n (up_m rfl (u8 rfl s4_18)))) (up_m rfl (up_n (up_m rfl (u8 rfl s7_18)))) (up_m rfl (up_n (up_m rfl (u8 rfl s8_18)))) (up_m rfl (up_n up_h)) up_h ?_; clear s2_18 s3_18 s4_18 s7_18 s8_18; intro e_22 s2_22 s3_22 s4_22 s7_22 s8_22 s9_22 s10_22
  refine then_n <| aw_seq <| at_ <| ar (ro_build evP_nil y68_bz26 y68_bu26 y68_bp26 rfl) rfl ?_
  refine al_stm (st_alloc y68_az26 rfl ml_21) trivial rfl (fun m_23 hm_23 => ?_)
  have mo4_23 := m_push hm_23 ml_21
  simp only [pS, Value.cells, Nat.reduceAdd] at mo4_23
  have mo3_23 := m_push_o hm_23 mo3_21
  have mo2_23 := m_push_o hm_23 mo2_21
  have mo1_23 := m_push_o hm_23 mo1_21
  have mo0_23 := m_push_o hm_23 mo0_21
  have ml_23 := m_push_l hm_23 ml_21
  have ml_23 : _ = 5 := ml_23
  clear hm_23 mo3_21 mo2_21 mo1_21 mo0_21
  refine al_stm (st_store up_h (up_m rfl up_h) rfl rfl mo4_23 y68_sz26 rfl (nle rfl)) trivial rfl (fun m_24 hm_24 => ?_)
  have mo4_24 := m_set hm_24 mo4_23
  simp only [pS, Value.cells, Nat.reduceAdd] at mo4_24
  have mo3_24 := m_set_o hm_24 mo3_23 (by decide)
  have mo2_24 := m_set_o hm_24 mo2_23 (by decide)
  have mo1_24 := m_set_o hm_24 mo1_23 (by decide)
  have mo0_24 := m_set_o hm_24 mo0_23 (by decide)
  have ml_24 := m_set_l hm_24 ml_23
  clear hm_24 mo4_23 mo3_23 mo2_23 mo1_23 mo0_23
  refine ae8 (up_n (u2 rfl s2_22)) (up_n (u2 rfl s3_22)) (up_n (u2 rfl s4_22)) (up_n (u2 rfl s7_22)) (up_n (u2 rfl s8_22)) (up_n (u2 rfl s9_22)) (up_n (u2 rfl s10_22)) (up_n up_h) ?_; clear s10_22 s2_22 s3_22 s4_22 s7_22 s8_22 s9_22; intro e_25 s2_25 s3_25 s4_25 s7_25 s8_25 s9_25 s10_25 s11_25
  refine then_n <| aw_seq <| aw_seq <| at_ <| ar (ro_eq (ro_ld_ptr y68_ty26 rfl mo0_24 s3_25 (nle rfl)) (by simp only [pS, Value.cells, Nat.reduceAdd] <;> rfl)) rfl ?_
  refine ar (ro_call (evL_cons up_h evL_nil) rfl ((lineErr_ok a ha).mono (fun q h => show q = mA 0 from h.trans (by rw [hg]))) y68_hcf14) rfl ?_
  refine ar (ro_assign up_h) rfl <| ae9 (up_m rfl (u2 rfl s2_25)) (up_m rfl (u2 rfl s3_25)) (up_m rfl (u2 rfl s4_25)) (up_m rfl (u2 rfl s7_25)) (up_m rfl (u2 rfl s8_25)) (up_m rfl (u2 rfl s9_25)) (up_m rfl (u2 rfl s10_25)) (up_m rfl (u2 rfl s11_25)) up_h ?_; clear s10_25 s11_25 s2_25 s3_25 s4_25 s7_25 s8_25 s9_25; intro e_26 s2_26 s3_26 s4_26 s7_26 s8_26 s9_26 s10_26 s11_26 s12_26
  refine then_n <| aw_seq <| at_ <| ar (ro_move s12_26) rfl <| ar (ro_neq up_h ev_c) rfl <| ae10 (u2 rfl s2_26) (u2 rfl s3_26) (u2 rfl s4_26) (u2 rfl s7_26) (u2 rfl s8_26) (u2 rfl s9_26) (u2 rfl s10_26) (u2 rfl s11_26) (u2 rfl s12_26) up_h ?_; clear s10_26 s11_26 s12_26 s2_26 s3_26 s4_26 s7_26 s8_26 s9_26; intro e_27 s2_27 s3_27 s4_27 s7_27 s8_27 s9_27 s10_27 s11_27 s12_27 s55_27
  refine then_n <| aw_case s55_27 (fun hq_28 => ?_) (fun hq_28 => ?_)
  · cases hq_28
  replace hq_28 := bnf hq_28
  refine aw_skip <| then_n <| aw_seq <| aw_seq <| at_ <| ar (ro_eq (ro_ld_ptr y68_ty26 rfl mo0_24 s3_27 (nle rfl)) (by simp only [pS, Value.cells, Nat.reduceAdd] <;> rfl)) rfl ?_
  refine ar (ro_move (up_m rfl s2_27)) rfl <| ar (ro_call (evL_cons (up_m rfl up_h) (evL_cons up_h evL_nil)) rfl ((rBranch_ok a ha hr nm (by omega)).mono (fun q h => show q = .tuple [lnA nonL, tbA false] from h.trans (by unfold rBraA; rw [hB]))) y68_hcf40) rfl ?_
  refine ar (ro_move up_h) rfl <| ar (ro_extract up_h rfl) rfl <| ar (ro_extract (up_m rfl up_h) rfl) rfl <| al_stm (st_alloc y68_az26 rfl ml_24) trivial rfl (fun m_29 hm_29 => ?_)
  have mo5_29 := m_push hm_29 ml_24
  simp only [pS, Value.cells, Nat.reduceAdd] at mo5_29
  have mo4_29 := m_push_o hm_29 mo4_24
  have mo3_29 := m_push_o hm_29 mo3_24
  have mo2_29 := m_push_o hm_29 mo2_24
  have mo1_29 := m_push_o hm_29 mo1_24
  have mo0_29 := m_push_o hm_29 mo0_24
  have ml_29 := m_push_l hm_29 ml_24
  have ml_29 : _ = 6 := ml_29
  clear hm_29 mo4_24 mo3_24 mo2_24 mo1_24 mo0_24
  refine al_stm (st_store up_h (u2 rfl up_h) rfl rfl mo5_29 y68_sz26 rfl (nle rfl)) trivial rfl (fun m_30 hm_30 => ?_)
  have mo5_30 := m_set hm_30 mo5_29
  simp only [pS, Value.cells, Nat.reduceAdd] at mo5_30
  have mo4_30 := m_set_o hm_30 mo4_29 (by decide)
  have mo3_30 := m_set_o hm_30 mo3_29 (by decide)
  have mo2_30 := m_set_o hm_30 mo2_29 (by decide)
  have mo1_30 := m_set_o hm_30 mo1_29 (by decide)
  have mo0_30 := m_set_o hm_30 mo0_29 (by decide)
  have ml_30 := m_set_l hm_30 ml_29
  clear hm_30 mo5_29 mo4_29 mo3_29 mo2_29 mo1_29 mo0_29
  refine ar (ro_assign (up_n (up_m rfl up_h))) rfl <| ae9 (up_m rfl (up_n (up_m rfl (u2 rfl (u4 rfl s3_27))))) (up_m rfl (up_n (up_m rfl (u2 rfl (u4 rfl s4_27))))) (up_m rfl (up_n (up_m rfl (u2 rfl (u4 rfl s7_27))))) (up_m rfl (up_n (up_m rfl (u2 rfl (u4 rfl s8_27))))) (up_m rfl (up_n (up_m rfl (u2 rfl (u4 rfl s9_27))))) (up_m rfl (up_n (up_m rfl (u2 rfl (u4 rfl s10_27))))) (up_m rfl (up_n (up_m rfl (u2 rfl (u4 rfl s11_27))))) (up_m rfl (up_n up_h)) up_h ?_; clear s10_27 s11_27 s12_27 s2_27 s3_27 s4_27 s55_27 s7_27 s8_27 s9_27; intro e_31 s3_31 s4_31 s7_31 s8_31 s9_31 s10_31 s11_31 s13_31 s14_31
  refine then_n <| aw_seq <| at_ <| ar (ro_move s14_31) rfl <| ae9 (up_m rfl s3_31) (up_m rfl s4_31) (up_m rfl s7_31) (up_m rfl s8_31) (up_m rfl s9_31) (up_m rfl s10_31) (up_m rfl s11_31) (up_m rfl s13_31) up_h ?_; clear s10_31 s11_31 s13_31 s14_31 s3_31 s4_31 s7_31 s8_31 s9_31; intro e_32 s3_32 s4_32 s7_32 s8_32 s9_32 s10_32 s11_32 s13_32 s80_32
  refine then_n <| aw_case s80_32 (fun hq_33 => ?_) (fun hq_33 => ?_)
  · cases hq_33
  refine aw_seq <| at_ <| ar (ro_move s8_32) rfl <| ar (ro_neq up_h ev_c) rfl <| ar (ro_move up_h) rfl <| al_case up_h (fun hb_34 hq_34 => ?_) (fun hb_34 hq_34 => ?_)
  · cases hq_34
  replace hq_34 := bnf hq_34
  refine al_ro' (ro_eq (ro_ld_ptr y68_ty26 rfl mo2_30 (up_m rfl (u2 rfl s7_32)) (nle rfl)) (by simp only [pS, Value.cells, Nat.reduceAdd] <;> rfl)) ⟨_, rfl, hb_34⟩ rfl ?_
  refine al_ro' (ro_eq (ro_ld_ptr y68_ty26 rfl mo4_30 (u4 rfl s11_32) (nle rfl)) (by simp only [pS, Value.cells, Nat.reduceAdd] <;> rfl)) ⟨_, rfl, (up_m rfl hb_34)⟩ rfl ?_
  refine al_ro' (ro_call (evL_cons (up_m rfl up_h) (evL_cons up_h evL_nil)) rfl (same_none) y68_hcf34) ⟨_, rfl, (u2 rfl hb_34)⟩ rfl ?_
  refine al_ro' (ro_not up_h) ⟨_, rfl, (up_m rfl (u2 rfl hb_34))⟩ rfl ?_
  refine ar (ro_pickF (u4 rfl hb_34) up_h) rfl <| ae5 (u8 rfl s3_32) (u8 rfl s4_32) (u8 rfl s9_32) (u8 rfl s10_32) up_h ?_; clear hb_34 s10_32 s11_32 s13_32 s3_32 s4_32 s7_32 s80_32 s8_32 s9_32; intro e_38 s3_38 s4_38 s9_38 s10_38 s112_38
  refine then_n <| aw_case s112_38 (fun hq_39 => ?_) (fun hq_39 => ?_)
  · cases hq_39
  replace hq_39 := bf' hq_39
  refine aw_skip <| then_n <| aw_seq <| at_ <| ar (ro_eq (ro_ld_ptr y68_ty26 rfl mo1_30 s4_38 (nle rfl)) (by simp only [pS, Value.cells, Nat.reduceAdd] <;> rfl)) rfl ?_
  refine ar (ro_call (evL_cons up_h evL_nil) rfl ((lineErr_ok b hb).mono (fun q h => show q = mA 0 from h.trans (by rw [hh]))) y68_hcf14) rfl ?_
  refine ar (ro_assign up_h) rfl <| ae5 (up_m rfl (u2 rfl s3_38)) (up_m rfl (u2 rfl s4_38)) (up_m rfl (u2 rfl s9_38)) (up_m rfl (u2 rfl s10_38)) up_h ?_; clear s10_38 s112_38 s3_38 s4_38 s9_38; intro e_41 s3_41 s4_41 s9_41 s10_41 s17_41
  refine then_n <| aw_seq <| at_ <| al_stm (st_alloc y68_az26 rfl ml_30) trivial rfl (fun m_42 hm_42 => ?_)
  have mo6_42 := m_push hm_42 ml_30
  simp only [pS, Value.cells, Nat.reduceAdd] at mo6_42
  have mo5_42 := m_push_o hm_42 mo5_30
  have mo4_42 := m_push_o hm_42 mo4_30
  have mo3_42 := m_push_o hm_42 mo3_30
  have mo2_42 := m_push_o hm_42 mo2_30
  have mo1_42 := m_push_o hm_42 mo1_30
  have mo0_42 := m_push_o hm_42 mo0_30
  have ml_42 := m_push_l hm_42 ml_30
  have ml_42 : _ = 7 := ml_42
  clear hm_42 mo5_30 mo4_30 mo3_30 mo2_30 mo1_30 mo0_30
  refine ae6 (up_m rfl s3_41) (up_m rfl s4_41) (up_m rfl s9_41) (up_m rfl s10_41) (up_m rfl s17_41) up_h ?_; clear s10_41 s17_41 s3_41 s4_41 s9_41; intro e_43 s3_43 s4_43 s9_43 s10_43 s17_43 s18_43
  refine then_n <| aw_seq <| aw_seq <| at_ <| ar (ro_move s17_43) rfl <| ar (ro_eql up_h ev_c) rfl ?_
  refine ae7 (u2 rfl s3_43) (u2 rfl s4_43) (u2 rfl s9_43) (u2 rfl s10_43) (u2 rfl s17_43) (u2 rfl s18_43) up_h ?_; clear s10_43 s17_43 s18_43 s3_43 s4_43 s9_43; intro e_44 s3_44 s4_44 s9_44 s10_44 s17_44 s18_44 s116_44
  refine then_n <| aw_case s116_44 (fun hq_45 => ?_) (fun hq_45 => ?_)
  ·replace hq_45 := bt hq_45
   refine at_ <| ar (ro_eq (ro_ld_ptr y68_ty26 rfl mo0_42 s3_44 (nle rfl)) (by simp only [pS, Value.cells, Nat.reduceAdd] <;> rfl)) rfl ?_
   refine ar (ro_eq (ro_ld_ptr y68_ty26 rfl mo1_42 (up_m rfl s4_44) (nle rfl)) (by simp only [pS, Value.cells, Nat.reduceAdd] <;> rfl)) rfl ?_
   refine ar (ro_call (evL_cons (up_m rfl up_h) (evL_cons up_h evL_nil)) rfl ((rJoined_ok a b ha hb hr hs).mono (fun q h => h.trans hS)) y68_hcf43) rfl ?_
   refine ar (ro_move up_h) rfl <| ar (ro_extract up_h rfl) rfl <| ar (ro_extract (up_m rfl up_h) rfl) rfl <| al_stm (st_store (u2 rfl (u4 rfl s18_44)) (up_m rfl up_h) rfl rfl mo6_42 y68_sz26 rfl (nle rfl)) trivial rfl (fun m_46 hm_46 => ?_)
   have mo6_46 := m_set hm_46 mo6_42
   simp only [pS, Value.cells, Nat.reduceAdd] at mo6_46
   have mo5_46 := m_set_o hm_46 mo5_42 (by decide)
   have mo4_46 := m_set_o hm_46 mo4_42 (by decide)
   have mo3_46 := m_set_o hm_46 mo3_42 (by decide)
   have mo2_46 := m_set_o hm_46 mo2_42 (by decide)
   have mo1_46 := m_set_o hm_46 mo1_42 (by decide)
   have mo0_46 := m_set_o hm_46 mo0_42 (by decide)
   have ml_46 := m_set_l hm_46 ml_42
   clear hm_46 mo6_42 mo5_42 mo4_42 mo3_42 mo2_42 mo1_42 mo0_42
   refine ar (ro_assign (up_n up_h)) rfl <| ae6 (up_m rfl (up_n (u2 rfl (u4 rfl s3_44)))) (up_m rfl (up_n (u2 rfl (u4 rfl s4_44)))) (up_m rfl (up_n (u2 rfl (u4 rfl s9_44)))) (up_m rfl (up_n (u2 rfl (u4 rfl s10_44)))) up_h (up_m rfl (up_n (u2 rfl (u4 rfl s18_44)))) ?_; clear s10_44 s116_44 s17_44 s18_44 s3_44 s4_44 s9_44; intro e_47 s3_47 s4_47 s9_47 s10_47 s17_47 s18_47
   refine then_n <| aw_seq <| aw_seq <| at_ <| ar (ro_move s10_47) rfl <| ar (ro_move (up_m rfl s17_47)) rfl <| ar (ro_neq (up_m rfl up_h) up_h) rfl <| ar (ro_move up_h) rfl <| al_case up_h (fun hb_48 hq_48 => ?_) (fun hb_48 hq_48 => ?_)
   · replace hq_48 := bnt hq_48; exfalso; omega
   replace hq_48 := bnf hq_48
   refine al_ro' (ro_eq (ro_ld_ptr y68_ty26 rfl mo3_46 (u4 rfl s9_47) (nle rfl)) (by simp only [pS, Value.cells, Nat.reduceAdd] <;> rfl)) ⟨_, rfl, hb_48⟩ rfl ?_
   refine al_ro' (ro_eq (ro_ld_ptr y68_ty26 rfl mo6_46 (up_m rfl (u4 rfl s18_47)) (nle rfl)) (by simp only [pS, Value.cells, Nat.reduceAdd] <;> rfl)) ⟨_, rfl, (up_m rfl hb_48)⟩ rfl ?_
   refine al_ro' (ro_call (evL_cons (up_m rfl up_h) (evL_cons up_h evL_nil)) rfl (same_refl J hJ) y68_hcf34) ⟨_, rfl, (u2 rfl hb_48)⟩ rfl ?_
   refine al_ro' (ro_not up_h) ⟨_, rfl, (up_m rfl (u2 rfl hb_48))⟩ rfl ?_
   refine ar (ro_pickF (u4 rfl hb_48) up_h) rfl <| ae5 (up_m rfl (u8 rfl s3_47)) (up_m rfl (u8 rfl s4_47)) (up_m rfl (u8 rfl s9_47)) (up_m rfl (u8 rfl s17_47)) up_h ?_; clear hb_48 s10_47 s17_47 s18_47 s3_47 s4_47 s9_47; intro e_52 s3_52 s4_52 s9_52 s17_52 s131_52
   refine then_n <| aw_case s131_52 (fun hq_53 => ?_) (fun hq_53 => ?_)
   · cases hq_53
   replace hq_53 := bf' hq_53
   refine aw_skip <| then_n <| aw_seq <| aw_seq <| at_ <| ar (ro_move s17_52) rfl <| ar (ro_neq up_h ev_c) rfl <| ae4 (u2 rfl s3_52) (u2 rfl s4_52) (u2 rfl s9_52) up_h ?_; clear s131_52 s17_52 s3_52 s4_52 s9_52; intro e_55 s3_55 s4_55 s9_55 s133_55
   refine then_n <| aw_case s133_55 (fun hq_56 => ?_) (fun hq_56 => ?_)
   ·replace hq_56 := bnt hq_56
    refine aw_seq <| at_ <| ar (ro_assign ev_c) rfl <| ae1 up_h ?_; clear s133_55 s3_55 s4_55 s9_55; intro e_57 s6_57
    refine then_n <| aw_ret <| then_r <| ret1 (.inr rfl) (by kernel_rfl) (resV_tmp s6_57) (.ro _ rfl) ?_
    clear s6_57 mo6_46 mo5_46 mo4_46 mo3_46 mo2_46 mo1_46 mo0_46 ml_46
    first | rfl | (simp_all; done) | omega
   replace hq_56 := bnf hq_56
   refine aw_skip <| then_n <| aw_seq <| at_ <| ar (ro_eq (ro_ld_ptr y68_ty26 rfl mo3_46 s9_55 (nle rfl)) (by simp only [pS, Value.cells, Nat.reduceAdd] <;> rfl)) rfl ?_
   refine ar (ro_call (evL_cons up_h evL_nil) rfl (yCopy_ok J hJ) y68_hcf18) rfl <| ar (ro_call (evL_cons up_h evL_nil) rfl (lengthOf_good J hJ (rgt_to (hJr (by assumption)).1)) y68_hcf41) rfl ?_
   refine ar (ro_move up_h) rfl <| ar (ro_extract up_h rfl) rfl <| ar (ro_extract (up_m rfl up_h) rfl) rfl <| ar (ro_assign (up_m rfl up_h)) rfl <| ar (ro_assign (up_m rfl up_h)) rfl <| ae4 (u8 rfl s3_55) (u8 rfl s4_55) (up_m rfl up_h) up_h ?_; clear s133_55 s3_55 s4_55 s9_55; intro e_58 s3_58 s4_58 s19_58 s20_58
   refine then_n <| aw_seq <| aw_draw 12 (by kernel_rfl) (by kernel_rfl) (by kernel_rfl) (by kernel_rfl) ?_
   refine dr (ro_move s20_58) rfl <| dr (ro_eql up_h ev_c) rfl ?_
   refine dr (ro_move up_h) rfl <| ds_case up_h (fun hb_59 hq_59 => ?_) (fun hb_59 hq_59 => ?_)
   ·replace hq_59 := bt hq_59
    refine ds_ro' (ro_move (up_m rfl (u2 rfl s19_58))) ⟨_, rfl, hb_59⟩ rfl ?_
    refine ds_ro' (ro_eq (ro_ld_ptr y68_ty26 rfl mo0_46 (u4 rfl s3_58) (nle rfl)) (by simp only [pS, Value.cells, Nat.reduceAdd] <;> rfl)) ⟨_, rfl, (up_m rfl hb_59)⟩ rfl ?_
    refine ds_ro' (ro_call (evL_cons up_h evL_nil) rfl (rLengthOf_ok a (by have := hr.n1; omega) hr.len) y68_hcf42) ⟨_, rfl, (u2 rfl hb_59)⟩ rfl ?_
    refine ds_ro' (ro_eq (ro_ld_ptr y68_ty26 rfl mo1_46 (u2 rfl (u4 rfl s4_58)) (nle rfl)) (by simp only [pS, Value.cells, Nat.reduceAdd] <;> rfl)) ⟨_, rfl, (up_m rfl (u2 rfl hb_59))⟩ rfl ?_
    refine ds_ro' (ro_call (evL_cons up_h evL_nil) rfl (rLengthOf_ok b (by have := hs.n1; omega) hs.len) y68_hcf42) ⟨_, rfl, (u4 rfl hb_59)⟩ rfl ?_
    (refine ds_ro' (ro_add' (u2 rfl up_h) up_h ?_) ⟨_, rfl, (up_m rfl (u4 rfl hb_59))⟩ rfl ?_; · (unfold In64; omega))
    refine ds_ro' (ro_eql (up_m rfl (u4 rfl up_h)) up_h) ⟨_, rfl, (u2 rfl (u4 rfl hb_59))⟩ rfl ?_
    refine dr (ro_pickT (up_m rfl (u2 rfl (u4 rfl hb_59))) up_h) rfl <| dr (ro_assign up_h) rfl <| ds_nil <| ae1 up_h ?_; clear hb_59 s19_58 s20_58 s3_58 s4_58; intro e_60 s6_60
    refine then_n <| aw_ret <| ret1 (.inr rfl) (by kernel_rfl) (resV_tmp s6_60) (.ro _ rfl) ?_
    clear s6_60 mo6_46 mo5_46 mo4_46 mo3_46 mo2_46 mo1_46 mo0_46 ml_46
    first | rfl | (simp_all; done) | omega
   · cases hq_59
  · cases hq_45
set_option maxRecDepth 100000 in
set_option maxHeartbeats 4000000 in
theorem lineBranches_some_bad (a b : Lin) (nm : ByteArray) (hfa : fewL a = true) (hfb : fewL b = true) (hn : nm.size ≤ 20) (hg : (linM a).2 = 0) (t : Swi) (hB : brF a nm = some t) (he : (linM b).2 ≠ 0) : FnOk Try.prog 7 [lnA a, lnA b, .v (.string nm)] (fun q => q = tbA true) := by
  refine fnOk_of (fn := Try.f7) 151 (by kernel_rfl) rfl (by kernel_rfl) (Nat.le_of_ble_eq_true rfl) ?_
  intro e_0 m_0 hA hm_0
  have s0_0 : evA e_0 (.tmp 0) = _ := hA 0 _ rfl
  have s1_0 : evA e_0 (.tmp 1) = _ := hA 1 _ rfl
  have s2_0 : evA e_0 (.tmp 2) = _ := hA 2 _ rfl
  have ml_0 : m_0.length = 0 := by rw [hm_0]; rfl
  clear hA hm_0
  have ha := fewL_sho hfa; have hb := fewL_sho hfb; have hr := rgt_of hg; have hpa := hr.pla (n := a.bs.length) (Nat.le_refl _); obtain ⟨bi, hbi, hbt⟩ := brF_at hB; have hbr := braL_rgt hr (t := t) (by rw [← hbt]; exact (hr.swi hbi).2.2.2); have hbg := rgt_to hbr; have hbp : plaP (braL a t).bs (braL a t).bs.length = plaP a.bs a.bs.length := rfl
  refine aw_seq <| at_ <| al_stm (st_box s0_0 rfl ml_0) trivial rfl (fun m_1 hm_1 => ?_)
  have mo0_1 := m_push hm_1 ml_0
  have ml_1 := m_push_l hm_1 ml_0
  have ml_1 : _ = 1 := ml_1
  clear hm_1
  refine al_stm (st_box (up_m rfl s1_0) rfl ml_1) trivial rfl (fun m_2 hm_2 => ?_)
  have mo1_2 := m_push hm_2 ml_1
  have mo0_2 := m_push_o hm_2 mo0_1
  have ml_2 := m_push_l hm_2 ml_1
  have ml_2 : _ = 2 := ml_2
  clear hm_2 mo0_1
  refine ar (ro_assign ev_c) rfl <| ae3 (up_m rfl (u2 rfl s2_0)) (u2 rfl up_h) (up_m rfl up_h) ?_; clear s0_0 s1_0 s2_0; intro e_3 s2_3 s3_3 s4_3
  refine then_n <| aw_seq <| aw_seq <| at_ <| ar (ro_call evL_nil rfl (awake_ok) y68_hcf12) rfl <| ar (ro_not up_h) rfl <| ae4 (u2 rfl s2_3) (u2 rfl s3_3) (u2 rfl s4_3) up_h ?_; clear s2_3 s3_3 s4_3; intro e_4 s2_4 s3_4 s4_4 s22_4
  refine then_n <| aw_case s22_4 (fun hq_5 => ?_) (fun hq_5 => ?_)
  · cases hq_5
  replace hq_5 := bf' hq_5
  refine aw_skip <| then_n <| aw_seq <| aw_seq <| at_ <| ar (ro_eq (ro_ld_ptr y68_ty26 rfl mo0_2 s3_4 (nle rfl)) (by simp only [pS, Value.cells, Nat.reduceAdd] <;> rfl)) rfl ?_
  refine ar (ro_call (evL_cons up_h evL_nil) rfl ((fewL_ok a).mono (fun q h => show q = tbA true from h.trans (by rw [hfa]))) y68_hcf13) rfl ?_
  refine ar (ro_not up_h) rfl <| ar (ro_move up_h) rfl <| al_case up_h (fun hb_6 hq_6 => ?_) (fun hb_6 hq_6 => ?_)
  · cases hq_6
  replace hq_6 := bf' hq_6
  refine al_ro' (ro_eq (ro_ld_ptr y68_ty26 rfl mo1_2 (u4 rfl s4_4) (nle rfl)) (by simp only [pS, Value.cells, Nat.reduceAdd] <;> rfl)) ⟨_, rfl, hb_6⟩ rfl ?_
  refine al_ro' (ro_call (evL_cons up_h evL_nil) rfl ((fewL_ok b).mono (fun q h => show q = tbA true from h.trans (by rw [hfb]))) y68_hcf13) ⟨_, rfl, (up_m rfl hb_6)⟩ rfl ?_
  refine al_ro' (ro_not up_h) ⟨_, rfl, (u2 rfl hb_6)⟩ rfl ?_
  refine ar (ro_pickF (up_m rfl (u2 rfl hb_6)) up_h) rfl <| ar (ro_move up_h) rfl <| al_case up_h (fun hb_10 hq_10 => ?_) (fun hb_10 hq_10 => ?_)
  · cases hq_10
  replace hq_10 := bf' hq_10
  refine al_ro' (ro_move (up_m rfl (u8 rfl s2_4))) ⟨_, rfl, hb_10⟩ rfl ?_
  refine al_ro' (ro_len_str up_h rfl y68_un9) ⟨_, rfl, (up_m rfl hb_10)⟩ rfl ?_
  refine al_ro' (ro_gtr up_h ev_c) ⟨_, rfl, (u2 rfl hb_10)⟩ rfl ?_
  refine ar (ro_pickF (up_m rfl (u2 rfl hb_10)) up_h) rfl <| ae4 (up_m rfl (u4 rfl (u8 rfl s2_4))) (up_m rfl (u4 rfl (u8 rfl s3_4))) (up_m rfl (u4 rfl (u8 rfl s4_4))) up_h ?_; clear hb_10 hb_6 s22_4 s2_4 s3_4 s4_4; intro e_14 s2_14 s3_14 s4_14 s35_14
  refine then_n <| aw_case s35_14 (fun hq_15 => ?_) (fun hq_15 => ?_)
  · replace hq_15 := bt hq_15; exfalso; omega
  replace hq_15 := bf hq_15
  refine aw_skip <| then_n <| aw_seq <| at_ <| ar (ro_eq (ro_ld_ptr y68_ty26 rfl mo0_2 s3_14 (nle rfl)) (by simp only [pS, Value.cells, Nat.reduceAdd] <;> rfl)) rfl ?_
  refine ar (ro_call (evL_cons up_h evL_nil) rfl (yCopy_ok a ha) y68_hcf18) rfl <| ar (ro_move (u2 rfl s2_14)) rfl <| ar (ro_call (evL_cons (up_m rfl up_h) (evL_cons up_h evL_nil)) rfl ((branch_good a ha hg nm (by omega)).mono (fun q h => show q = .tuple [lnA (braL a t), mA 0] from h.trans (by unfold braA; rw [hB]))) y68_hcf38) rfl ?_
  refine ar (ro_move up_h) rfl <| ar (ro_extract up_h rfl) rfl <| ar (ro_extract (up_m rfl up_h) rfl) rfl <| al_stm (st_alloc y68_az26 rfl ml_2) trivial rfl (fun m_16 hm_16 => ?_)
  have mo2_16 := m_push hm_16 ml_2
  simp only [pS, Value.cells, Nat.reduceAdd] at mo2_16
  have mo1_16 := m_push_o hm_16 mo1_2
  have mo0_16 := m_push_o hm_16 mo0_2
  have ml_16 := m_push_l hm_16 ml_2
  have ml_16 : _ = 3 := ml_16
  clear hm_16 mo1_2 mo0_2
  refine al_stm (st_store up_h (u2 rfl up_h) rfl rfl mo2_16 y68_sz26 rfl (nle rfl)) trivial rfl (fun m_17 hm_17 => ?_)
  have mo2_17 := m_set hm_17 mo2_16
  simp only [pS, Value.cells, Nat.reduceAdd] at mo2_17
  have mo1_17 := m_set_o hm_17 mo1_16 (by decide)
  have mo0_17 := m_set_o hm_17 mo0_16 (by decide)
  have ml_17 := m_set_l hm_17 ml_16
  clear hm_17 mo2_16 mo1_16 mo0_16
  refine ar (ro_assign (up_n (up_m rfl up_h))) rfl <| ae5 (up_m rfl (up_n (u8 rfl s2_14))) (up_m rfl (up_n (u8 rfl s3_14))) (up_m rfl (up_n (u8 rfl s4_14))) (up_m rfl (up_n up_h)) up_h ?_; clear s2_14 s35_14 s3_14 s4_14; intro e_18 s2_18 s3_18 s4_18 s7_18 s8_18
  refine then_n <| aw_seq <| aw_drawK 10 1 ml_17 (by kernel_rfl) (by kernel_rfl) (by kernel_rfl) (by kernel_rfl) (fun m_19 hm_19 => ?_)
  have mo2_19 := m_room_o hm_19 mo2_17
  have mo1_19 := m_room_o hm_19 mo1_17
  have mo0_19 := m_room_o hm_19 mo0_17
  have mo3_19 : m_19[3]? = _ := m_room_g hm_19 ml_17 0 rfl rfl
  have ml_19 : _ = 4 := m_room_l (K := 1) hm_19 ml_17
  clear hm_19 mo2_17 mo1_17 mo0_17 ml_17
  refine dh_ld (0) (fun M_ hM_ => (ro_eq (ro_ld_ptr y68_ty26 rfl (agr hM_ mo0_19 (by simp)) s3_18 (nle rfl)) (by simp only [pS, Value.cells, Nat.reduceAdd] <;> rfl))) trivial trivial ?_
  refine dh_ro (fun M_ hM_ => (ro_call (evL_cons up_h evL_nil) rfl (yCopy_ok a ha) y68_hcf18)) trivial ?_
  refine dh_ld (1) (fun M_ hM_ => (ro_eq (ro_ld_ptr y68_ty26 rfl (agr hM_ mo1_19 (by simp)) (u2 rfl s4_18) (nle rfl)) (by simp only [pS, Value.cells, Nat.reduceAdd] <;> rfl))) trivial trivial ?_
  refine dh_ro (fun M_ hM_ => (ro_call (evL_cons up_h evL_nil) rfl (yCopy_ok b hb) y68_hcf18)) trivial ?_
  refine dh_ro (fun M_ hM_ => (ro_call (evL_cons (u2 rfl up_h) (evL_cons up_h evL_nil)) rfl (joined_b a b ha hb hg he) y68_hcf39)) trivial ?_
  refine dh_ro (fun M_ hM_ => (ro_move up_h)) trivial ?_
  refine dh_ro (fun M_ hM_ => (ro_extract up_h rfl)) trivial ?_
  refine dh_ro (fun M_ hM_ => (ro_extract (up_m rfl up_h) rfl)) trivial ?_
  refine dh_nw (3) (fun M_ hM_ => (nw_alloc y68_az26 rfl)) trivial mo3_19 rfl trivial ⟨.inl (by simp <;> omega), ⟨.inl (by simp <;> omega), trivial⟩⟩ (fun m_20 hm_20 => ?_)
  have mo3_20 := m_set hm_20 mo3_19
  simp only [pS, Value.cells, Nat.reduceAdd] at mo3_20
  have mo2_20 := m_set_o hm_20 mo2_19 (by decide)
  have mo1_20 := m_set_o hm_20 mo1_19 (by decide)
  have mo0_20 := m_set_o hm_20 mo0_19 (by decide)
  have ml_20 := m_set_l hm_20 ml_19
  clear hm_20 mo2_19 mo1_19 mo0_19 mo3_19
  refine dh_set (3) (fun M_ hM_ => (se_store up_h (u2 rfl up_h) rfl rfl (agr hM_ mo3_20 (by simp)) y68_sz26 rfl (nle rfl))) trivial ⟨.inr (wt_one 9 8 (by kernel_rfl)), trivial⟩ ⟨.inl (by simp <;> omega), ⟨.inl (by simp <;> omega), ⟨.inr (wt_one 9 8 (by kernel_rfl)), trivial⟩⟩⟩ (fun m_21 hm_21 => ?_)
  have mo3_21 := m_set hm_21 mo3_20
  simp only [pS, Value.cells, Nat.reduceAdd] at mo3_21
  have mo2_21 := m_set_o hm_21 mo2_20 (by decide)
  have mo1_21 := m_set_o hm_21 mo1_20 (by decide)
  have mo0_21 := m_set_o hm_21 mo0_20 (by decide)
  have ml_21 := m_set_l hm_21 ml_20
  clear hm_21 mo3_20 mo2_20 mo1_20 mo0_20
  refine dh_nil rfl ?_
  refine ar (ro_assign (up_n (up_m rfl up_h))) rfl <| ae7 (up_m rfl (up_n (up_m rfl (u8 rfl s2_18)))) (up_m rfl (up_n (up_m rfl (u8 rfl s3_18)))) (up_m rfl (up_n (up_m rfl (u8 rfl s4_18)))) (up_m rfl (up_n (up_m rfl (u8 rfl s7_18)))) (up_m rfl (up_n (up_m rfl (u8 rfl s8_18)))) (up_m rfl (up_n up_h)) up_h ?_; clear s2_18 s3_18 s4_18 s7_18 s8_18; intro e_22 s2_22 s3_22 s4_22 s7_22 s8_22 s9_22 s10_22
  refine then_n <| aw_seq <| at_ <| ar (ro_build evP_nil y68_bz26 y68_bu26 y68_bp26 rfl) rfl ?_
  refine al_stm (st_alloc y68_az26 rfl ml_21) trivial rfl (fun m_23 hm_23 => ?_)
  have mo4_23 := m_push hm_23 ml_21
  simp only [pS, Value.cells, Nat.reduceAdd] at mo4_23
  have mo3_23 := m_push_o hm_23 mo3_21
  have mo2_23 := m_push_o hm_23 mo2_21
  have mo1_23 := m_push_o hm_23 mo1_21
  have mo0_23 := m_push_o hm_23 mo0_21
  have ml_23 := m_push_l hm_23 ml_21
  have ml_23 : _ = 5 := ml_23
  clear hm_23 mo3_21 mo2_21 mo1_21 mo0_21
  refine al_stm (st_store up_h (up_m rfl up_h) rfl rfl mo4_23 y68_sz26 rfl (nle rfl)) trivial rfl (fun m_24 hm_24 => ?_)
  have mo4_24 := m_set hm_24 mo4_23
  simp only [pS, Value.cells, Nat.reduceAdd] at mo4_24
  have mo3_24 := m_set_o hm_24 mo3_23 (by decide)
  have mo2_24 := m_set_o hm_24 mo2_23 (by decide)
  have mo1_24 := m_set_o hm_24 mo1_23 (by decide)
  have mo0_24 := m_set_o hm_24 mo0_23 (by decide)
  have ml_24 := m_set_l hm_24 ml_23
  clear hm_24 mo4_23 mo3_23 mo2_23 mo1_23 mo0_23
  refine ae8 (up_n (u2 rfl s2_22)) (up_n (u2 rfl s3_22)) (up_n (u2 rfl s4_22)) (up_n (u2 rfl s7_22)) (up_n (u2 rfl s8_22)) (up_n (u2 rfl s9_22)) (up_n (u2 rfl s10_22)) (up_n up_h) ?_; clear s10_22 s2_22 s3_22 s4_22 s7_22 s8_22 s9_22; intro e_25 s2_25 s3_25 s4_25 s7_25 s8_25 s9_25 s10_25 s11_25
  refine then_n <| aw_seq <| aw_seq <| at_ <| ar (ro_eq (ro_ld_ptr y68_ty26 rfl mo0_24 s3_25 (nle rfl)) (by simp only [pS, Value.cells, Nat.reduceAdd] <;> rfl)) rfl ?_
  refine ar (ro_call (evL_cons up_h evL_nil) rfl ((lineErr_ok a ha).mono (fun q h => show q = mA 0 from h.trans (by rw [hg]))) y68_hcf14) rfl ?_
  refine ar (ro_assign up_h) rfl <| ae9 (up_m rfl (u2 rfl s2_25)) (up_m rfl (u2 rfl s3_25)) (up_m rfl (u2 rfl s4_25)) (up_m rfl (u2 rfl s7_25)) (up_m rfl (u2 rfl s8_25)) (up_m rfl (u2 rfl s9_25)) (up_m rfl (u2 rfl s10_25)) (up_m rfl (u2 rfl s11_25)) up_h ?_; clear s10_25 s11_25 s2_25 s3_25 s4_25 s7_25 s8_25 s9_25; intro e_26 s2_26 s3_26 s4_26 s7_26 s8_26 s9_26 s10_26 s11_26 s12_26
  refine then_n <| aw_seq <| at_ <| ar (ro_move s12_26) rfl <| ar (ro_neq up_h ev_c) rfl <| ae10 (u2 rfl s2_26) (u2 rfl s3_26) (u2 rfl s4_26) (u2 rfl s7_26) (u2 rfl s8_26) (u2 rfl s9_26) (u2 rfl s10_26) (u2 rfl s11_26) (u2 rfl s12_26) up_h ?_; clear s10_26 s11_26 s12_26 s2_26 s3_26 s4_26 s7_26 s8_26 s9_26; intro e_27 s2_27 s3_27 s4_27 s7_27 s8_27 s9_27 s10_27 s11_27 s12_27 s55_27
  refine then_n <| aw_case s55_27 (fun hq_28 => ?_) (fun hq_28 => ?_)
  · cases hq_28
  replace hq_28 := bnf hq_28
  refine aw_skip <| then_n <| aw_seq <| aw_seq <| at_ <| ar (ro_eq (ro_ld_ptr y68_ty26 rfl mo0_24 s3_27 (nle rfl)) (by simp only [pS, Value.cells, Nat.reduceAdd] <;> rfl)) rfl ?_
  refine ar (ro_move (up_m rfl s2_27)) rfl <| ar (ro_call (evL_cons (up_m rfl up_h) (evL_cons up_h evL_nil)) rfl ((rBranch_ok a ha hr nm (by omega)).mono (fun q h => show q = .tuple [lnA (braL a t), tbA true] from h.trans (by unfold rBraA; rw [hB]))) y68_hcf40) rfl ?_
  refine ar (ro_move up_h) rfl <| ar (ro_extract up_h rfl) rfl <| ar (ro_extract (up_m rfl up_h) rfl) rfl <| al_stm (st_alloc y68_az26 rfl ml_24) trivial rfl (fun m_29 hm_29 => ?_)
  have mo5_29 := m_push hm_29 ml_24
  simp only [pS, Value.cells, Nat.reduceAdd] at mo5_29
  have mo4_29 := m_push_o hm_29 mo4_24
  have mo3_29 := m_push_o hm_29 mo3_24
  have mo2_29 := m_push_o hm_29 mo2_24
  have mo1_29 := m_push_o hm_29 mo1_24
  have mo0_29 := m_push_o hm_29 mo0_24
  have ml_29 := m_push_l hm_29 ml_24
  have ml_29 : _ = 6 := ml_29
  clear hm_29 mo4_24 mo3_24 mo2_24 mo1_24 mo0_24
  refine al_stm (st_store up_h (u2 rfl up_h) rfl rfl mo5_29 y68_sz26 rfl (nle rfl)) trivial rfl (fun m_30 hm_30 => ?_)
  have mo5_30 := m_set hm_30 mo5_29
  simp only [pS, Value.cells, Nat.reduceAdd] at mo5_30
  have mo4_30 := m_set_o hm_30 mo4_29 (by decide)
  have mo3_30 := m_set_o hm_30 mo3_29 (by decide)
  have mo2_30 := m_set_o hm_30 mo2_29 (by decide)
  have mo1_30 := m_set_o hm_30 mo1_29 (by decide)
  have mo0_30 := m_set_o hm_30 mo0_29 (by decide)
  have ml_30 := m_set_l hm_30 ml_29
  clear hm_30 mo5_29 mo4_29 mo3_29 mo2_29 mo1_29 mo0_29
  refine ar (ro_assign (up_n (up_m rfl up_h))) rfl <| ae9 (up_m rfl (up_n (up_m rfl (u2 rfl (u4 rfl s3_27))))) (up_m rfl (up_n (up_m rfl (u2 rfl (u4 rfl s4_27))))) (up_m rfl (up_n (up_m rfl (u2 rfl (u4 rfl s7_27))))) (up_m rfl (up_n (up_m rfl (u2 rfl (u4 rfl s8_27))))) (up_m rfl (up_n (up_m rfl (u2 rfl (u4 rfl s9_27))))) (up_m rfl (up_n (up_m rfl (u2 rfl (u4 rfl s10_27))))) (up_m rfl (up_n (up_m rfl (u2 rfl (u4 rfl s11_27))))) (up_m rfl (up_n up_h)) up_h ?_; clear s10_27 s11_27 s12_27 s2_27 s3_27 s4_27 s55_27 s7_27 s8_27 s9_27; intro e_31 s3_31 s4_31 s7_31 s8_31 s9_31 s10_31 s11_31 s13_31 s14_31
  refine then_n <| aw_seq <| at_ <| ar (ro_move s14_31) rfl <| ae9 (up_m rfl s3_31) (up_m rfl s4_31) (up_m rfl s7_31) (up_m rfl s8_31) (up_m rfl s9_31) (up_m rfl s10_31) (up_m rfl s11_31) (up_m rfl s13_31) up_h ?_; clear s10_31 s11_31 s13_31 s14_31 s3_31 s4_31 s7_31 s8_31 s9_31; intro e_32 s3_32 s4_32 s7_32 s8_32 s9_32 s10_32 s11_32 s13_32 s80_32
  refine then_n <| aw_case s80_32 (fun hq_33 => ?_) (fun hq_33 => ?_)
  ·skip
   refine aw_seq <| at_ <| ar (ro_eq (ro_ld_ptr y68_ty26 rfl mo2_30 s7_32 (nle rfl)) (by simp only [pS, Value.cells, Nat.reduceAdd] <;> rfl)) rfl ?_
   refine ar (ro_call (evL_cons up_h evL_nil) rfl (yCopy_ok (braL a t) (braL_sho ha t)) y68_hcf18) rfl <| ar (ro_call (evL_cons up_h evL_nil) rfl (lengthOf_good (braL a t) (braL_sho ha t) hbg) y68_hcf41) rfl <| ar (ro_move up_h) rfl <| ar (ro_extract up_h rfl) rfl <| ar (ro_extract (up_m rfl up_h) rfl) rfl <| ar (ro_assign (up_m rfl up_h)) rfl <| ar (ro_assign (up_m rfl up_h)) rfl <| ae9 (u8 rfl s3_32) (u8 rfl s4_32) (u8 rfl s7_32) (u8 rfl s8_32) (u8 rfl s9_32) (u8 rfl s10_32) (u8 rfl s13_32) (up_m rfl up_h) up_h ?_; clear s10_32 s11_32 s13_32 s3_32 s4_32 s7_32 s80_32 s8_32 s9_32; intro e_34 s3_34 s4_34 s7_34 s8_34 s9_34 s10_34 s13_34 s15_34 s16_34
   refine then_n <| aw_seq <| at_ <| ar (ro_move s8_34) rfl <| ar (ro_neq up_h ev_c) rfl <| ar (ro_move up_h) rfl <| al_case up_h (fun hb_35 hq_35 => ?_) (fun hb_35 hq_35 => ?_)
   · cases hq_35
   replace hq_35 := bnf hq_35
   refine al_ro' (ro_eq (ro_ld_ptr y68_ty26 rfl mo2_30 (up_m rfl (u2 rfl s7_34)) (nle rfl)) (by simp only [pS, Value.cells, Nat.reduceAdd] <;> rfl)) ⟨_, rfl, hb_35⟩ rfl ?_
   refine al_ro' (ro_eq (ro_ld_ptr y68_ty26 rfl mo5_30 (u4 rfl s13_34) (nle rfl)) (by simp only [pS, Value.cells, Nat.reduceAdd] <;> rfl)) ⟨_, rfl, (up_m rfl hb_35)⟩ rfl ?_
   refine al_ro' (ro_call (evL_cons (up_m rfl up_h) (evL_cons up_h evL_nil)) rfl (same_refl (braL a t) (braL_sho ha t)) y68_hcf34) ⟨_, rfl, (u2 rfl hb_35)⟩ rfl ?_
   refine al_ro' (ro_not up_h) ⟨_, rfl, (up_m rfl (u2 rfl hb_35))⟩ rfl ?_
   refine ar (ro_pickF (u4 rfl hb_35) up_h) rfl <| ar (ro_move up_h) rfl <| al_case up_h (fun hb_39 hq_39 => ?_) (fun hb_39 hq_39 => ?_)
   · cases hq_39
   replace hq_39 := bf' hq_39
   refine al_ro' (ro_move (up_m rfl (u8 rfl s16_34))) ⟨_, rfl, hb_39⟩ rfl ?_
   refine al_ro' (ro_neq up_h ev_c) ⟨_, rfl, (up_m rfl hb_39)⟩ rfl ?_
   refine ar (ro_pickF (u2 rfl hb_39) up_h) rfl <| ar (ro_move up_h) rfl <| al_case up_h (fun hb_43 hq_43 => ?_) (fun hb_43 hq_43 => ?_)
   · cases hq_43
   replace hq_43 := bnf hq_43
   refine al_ro' (ro_move (up_m rfl (u4 rfl (u8 rfl s15_34)))) ⟨_, rfl, hb_43⟩ rfl ?_
   refine al_ro' (ro_eq (ro_ld_ptr y68_ty26 rfl mo0_30 (u2 rfl (u4 rfl (u8 rfl s3_34))) (nle rfl)) (by simp only [pS, Value.cells, Nat.reduceAdd] <;> rfl)) ⟨_, rfl, (up_m rfl hb_43)⟩ rfl ?_
   refine al_ro' (ro_call (evL_cons up_h evL_nil) rfl (rLengthOf_ok a (by have := hr.n1; omega) hr.len) y68_hcf42) ⟨_, rfl, (u2 rfl hb_43)⟩ rfl ?_
   refine al_ro' (ro_neq (u2 rfl up_h) up_h) ⟨_, rfl, (up_m rfl (u2 rfl hb_43))⟩ rfl ?_
   refine ar (ro_pickF (u4 rfl hb_43) up_h) rfl <| ae5 (u2 rfl (u16 rfl s3_34)) (u2 rfl (u16 rfl s4_34)) (u2 rfl (u16 rfl s9_34)) (u2 rfl (u16 rfl s10_34)) up_h ?_; clear hb_35 hb_39 hb_43 s10_34 s13_34 s15_34 s16_34 s3_34 s4_34 s7_34 s8_34 s9_34; intro e_47 s3_47 s4_47 s9_47 s10_47 s104_47
   refine then_n <| aw_case s104_47 (fun hq_48 => ?_) (fun hq_48 => ?_)
   · replace hq_48 := bnt hq_48; exfalso; omega
   replace hq_48 := bnf hq_48
   refine aw_skip <| then_n <| aw_seq <| at_ <| ar (ro_eq (ro_ld_ptr y68_ty26 rfl mo1_30 s4_47 (nle rfl)) (by simp only [pS, Value.cells, Nat.reduceAdd] <;> rfl)) rfl ?_
   refine ar (ro_call (evL_cons up_h evL_nil) rfl (lineErr_ok b hb) y68_hcf14) rfl <| ar (ro_assign up_h) rfl <| ae5 (up_m rfl (u2 rfl s3_47)) (up_m rfl (u2 rfl s4_47)) (up_m rfl (u2 rfl s9_47)) (up_m rfl (u2 rfl s10_47)) up_h ?_; clear s104_47 s10_47 s3_47 s4_47 s9_47; intro e_50 s3_50 s4_50 s9_50 s10_50 s17_50
   refine then_n <| aw_seq <| at_ <| al_stm (st_alloc y68_az26 rfl ml_30) trivial rfl (fun m_51 hm_51 => ?_)
   have mo6_51 := m_push hm_51 ml_30
   simp only [pS, Value.cells, Nat.reduceAdd] at mo6_51
   have mo5_51 := m_push_o hm_51 mo5_30
   have mo4_51 := m_push_o hm_51 mo4_30
   have mo3_51 := m_push_o hm_51 mo3_30
   have mo2_51 := m_push_o hm_51 mo2_30
   have mo1_51 := m_push_o hm_51 mo1_30
   have mo0_51 := m_push_o hm_51 mo0_30
   have ml_51 := m_push_l hm_51 ml_30
   have ml_51 : _ = 7 := ml_51
   clear hm_51 mo5_30 mo4_30 mo3_30 mo2_30 mo1_30 mo0_30
   refine ae6 (up_m rfl s3_50) (up_m rfl s4_50) (up_m rfl s9_50) (up_m rfl s10_50) (up_m rfl s17_50) up_h ?_; clear s10_50 s17_50 s3_50 s4_50 s9_50; intro e_52 s3_52 s4_52 s9_52 s10_52 s17_52 s18_52
   refine then_n <| aw_seq <| aw_seq <| at_ <| ar (ro_move s17_52) rfl <| ar (ro_eql up_h ev_c) rfl ?_
   refine ae7 (u2 rfl s3_52) (u2 rfl s4_52) (u2 rfl s9_52) (u2 rfl s10_52) (u2 rfl s17_52) (u2 rfl s18_52) up_h ?_; clear s10_52 s17_52 s18_52 s3_52 s4_52 s9_52; intro e_53 s3_53 s4_53 s9_53 s10_53 s17_53 s18_53 s116_53
   refine then_n <| aw_case s116_53 (fun hq_54 => ?_) (fun hq_54 => ?_)
   · replace hq_54 := bt hq_54; exfalso; omega
   replace hq_54 := bf hq_54
   refine aw_skip <| then_n <| aw_seq <| aw_seq <| at_ <| ar (ro_move s10_53) rfl <| ar (ro_move (up_m rfl s17_53)) rfl <| ar (ro_neq (up_m rfl up_h) up_h) rfl <| ar (ro_move up_h) rfl <| al_case up_h (fun hb_55 hq_55 => ?_) (fun hb_55 hq_55 => ?_)
   · replace hq_55 := bnt hq_55; exfalso; omega
   replace hq_55 := bnf hq_55
   refine al_ro' (ro_eq (ro_ld_ptr y68_ty26 rfl mo3_51 (u4 rfl s9_53) (nle rfl)) (by simp only [pS, Value.cells, Nat.reduceAdd] <;> rfl)) ⟨_, rfl, hb_55⟩ rfl ?_
   refine al_ro' (ro_eq (ro_ld_ptr y68_ty26 rfl mo6_51 (up_m rfl (u4 rfl s18_53)) (nle rfl)) (by simp only [pS, Value.cells, Nat.reduceAdd] <;> rfl)) ⟨_, rfl, (up_m rfl hb_55)⟩ rfl ?_
   refine al_ro' (ro_call (evL_cons (up_m rfl up_h) (evL_cons up_h evL_nil)) rfl (same_none) y68_hcf34) ⟨_, rfl, (u2 rfl hb_55)⟩ rfl ?_
   refine al_ro' (ro_not up_h) ⟨_, rfl, (up_m rfl (u2 rfl hb_55))⟩ rfl ?_
   refine ar (ro_pickF (u4 rfl hb_55) up_h) rfl <| ae5 (up_m rfl (u8 rfl s3_53)) (up_m rfl (u8 rfl s4_53)) (up_m rfl (u8 rfl s9_53)) (up_m rfl (u8 rfl s17_53)) up_h ?_; clear hb_55 s10_53 s116_53 s17_53 s18_53 s3_53 s4_53 s9_53; intro e_59 s3_59 s4_59 s9_59 s17_59 s131_59
   refine then_n <| aw_case s131_59 (fun hq_60 => ?_) (fun hq_60 => ?_)
   · cases hq_60
   replace hq_60 := bf' hq_60
   refine aw_skip <| then_n <| aw_seq <| aw_seq <| at_ <| ar (ro_move s17_59) rfl <| ar (ro_neq up_h ev_c) rfl <| ae4 (u2 rfl s3_59) (u2 rfl s4_59) (u2 rfl s9_59) up_h ?_; clear s131_59 s17_59 s3_59 s4_59 s9_59; intro e_62 s3_62 s4_62 s9_62 s133_62
   refine then_n <| aw_case s133_62 (fun hq_63 => ?_) (fun hq_63 => ?_)
   ·replace hq_63 := bnt hq_63
    refine aw_seq <| at_ <| ar (ro_assign ev_c) rfl <| ae1 up_h ?_; clear s133_62 s3_62 s4_62 s9_62; intro e_64 s6_64
    refine then_n <| aw_ret <| then_r <| ret1 (.inr rfl) (by kernel_rfl) (resV_tmp s6_64) (.ro _ rfl) ?_
    clear s6_64 mo6_51 mo5_51 mo4_51 mo3_51 mo2_51 mo1_51 mo0_51 ml_51
    first | rfl | (simp_all; done) | omega
   · replace hq_63 := bnf hq_63; exfalso; omega
  · cases hq_33
set_option maxRecDepth 100000 in
set_option maxHeartbeats 4000000 in
theorem lineBranches_some_in (a b : Lin) (nm : ByteArray) (hfa : fewL a = true) (hfb : fewL b = true) (hn : nm.size ≤ 20) (hg : (linM a).2 = 0) (t : Swi) (hB : brF a nm = some t) (hh : (linM b).2 = 0) (J : Lin) (d : Int) (hS : joiA a b = .tuple [lnA J, mA d]) (hJ : Sho J) (hJr : d = 0 → Rgt J ∧ plaP J.bs J.bs.length = plaP a.bs a.bs.length + plaP b.bs b.bs.length) : FnOk Try.prog 7 [lnA a, lnA b, .v (.string nm)] (fun q => q = tbA true) := by
  refine fnOk_of (fn := Try.f7) 151 (by kernel_rfl) rfl (by kernel_rfl) (Nat.le_of_ble_eq_true rfl) ?_
  intro e_0 m_0 hA hm_0
  have s0_0 : evA e_0 (.tmp 0) = _ := hA 0 _ rfl
  have s1_0 : evA e_0 (.tmp 1) = _ := hA 1 _ rfl
  have s2_0 : evA e_0 (.tmp 2) = _ := hA 2 _ rfl
  have ml_0 : m_0.length = 0 := by rw [hm_0]; rfl
  clear hA hm_0
  have ha := fewL_sho hfa; have hb := fewL_sho hfb; have hr := rgt_of hg; have hpa := hr.pla (n := a.bs.length) (Nat.le_refl _); obtain ⟨bi, hbi, hbt⟩ := brF_at hB; have hbr := braL_rgt hr (t := t) (by rw [← hbt]; exact (hr.swi hbi).2.2.2); have hbg := rgt_to hbr; have hbp : plaP (braL a t).bs (braL a t).bs.length = plaP a.bs a.bs.length := rfl; have hs := rgt_of hh; have hpb := hs.pla (n := b.bs.length) (Nat.le_refl _)
  refine aw_seq <| at_ <| al_stm (st_box s0_0 rfl ml_0) trivial rfl (fun m_1 hm_1 => ?_)
  have mo0_1 := m_push hm_1 ml_0
  have ml_1 := m_push_l hm_1 ml_0
  have ml_1 : _ = 1 := ml_1
  clear hm_1
  refine al_stm (st_box (up_m rfl s1_0) rfl ml_1) trivial rfl (fun m_2 hm_2 => ?_)
  have mo1_2 := m_push hm_2 ml_1
  have mo0_2 := m_push_o hm_2 mo0_1
  have ml_2 := m_push_l hm_2 ml_1
  have ml_2 : _ = 2 := ml_2
  clear hm_2 mo0_1
  refine ar (ro_assign ev_c) rfl <| ae3 (up_m rfl (u2 rfl s2_0)) (u2 rfl up_h) (up_m rfl up_h) ?_; clear s0_0 s1_0 s2_0; intro e_3 s2_3 s3_3 s4_3
  refine then_n <| aw_seq <| aw_seq <| at_ <| ar (ro_call evL_nil rfl (awake_ok) y68_hcf12) rfl <| ar (ro_not up_h) rfl <| ae4 (u2 rfl s2_3) (u2 rfl s3_3) (u2 rfl s4_3) up_h ?_; clear s2_3 s3_3 s4_3; intro e_4 s2_4 s3_4 s4_4 s22_4
  refine then_n <| aw_case s22_4 (fun hq_5 => ?_) (fun hq_5 => ?_)
  · cases hq_5
  replace hq_5 := bf' hq_5
  refine aw_skip <| then_n <| aw_seq <| aw_seq <| at_ <| ar (ro_eq (ro_ld_ptr y68_ty26 rfl mo0_2 s3_4 (nle rfl)) (by simp only [pS, Value.cells, Nat.reduceAdd] <;> rfl)) rfl ?_
  refine ar (ro_call (evL_cons up_h evL_nil) rfl ((fewL_ok a).mono (fun q h => show q = tbA true from h.trans (by rw [hfa]))) y68_hcf13) rfl ?_
  refine ar (ro_not up_h) rfl <| ar (ro_move up_h) rfl <| al_case up_h (fun hb_6 hq_6 => ?_) (fun hb_6 hq_6 => ?_)
  · cases hq_6
  replace hq_6 := bf' hq_6
  refine al_ro' (ro_eq (ro_ld_ptr y68_ty26 rfl mo1_2 (u4 rfl s4_4) (nle rfl)) (by simp only [pS, Value.cells, Nat.reduceAdd] <;> rfl)) ⟨_, rfl, hb_6⟩ rfl ?_
  refine al_ro' (ro_call (evL_cons up_h evL_nil) rfl ((fewL_ok b).mono (fun q h => show q = tbA true from h.trans (by rw [hfb]))) y68_hcf13) ⟨_, rfl, (up_m rfl hb_6)⟩ rfl ?_
  refine al_ro' (ro_not up_h) ⟨_, rfl, (u2 rfl hb_6)⟩ rfl ?_
  refine ar (ro_pickF (up_m rfl (u2 rfl hb_6)) up_h) rfl <| ar (ro_move up_h) rfl <| al_case up_h (fun hb_10 hq_10 => ?_) (fun hb_10 hq_10 => ?_)
  · cases hq_10
  replace hq_10 := bf' hq_10
  refine al_ro' (ro_move (up_m rfl (u8 rfl s2_4))) ⟨_, rfl, hb_10⟩ rfl ?_
  refine al_ro' (ro_len_str up_h rfl y68_un9) ⟨_, rfl, (up_m rfl hb_10)⟩ rfl ?_
  refine al_ro' (ro_gtr up_h ev_c) ⟨_, rfl, (u2 rfl hb_10)⟩ rfl ?_
  refine ar (ro_pickF (up_m rfl (u2 rfl hb_10)) up_h) rfl <| ae4 (up_m rfl (u4 rfl (u8 rfl s2_4))) (up_m rfl (u4 rfl (u8 rfl s3_4))) (up_m rfl (u4 rfl (u8 rfl s4_4))) up_h ?_; clear hb_10 hb_6 s22_4 s2_4 s3_4 s4_4; intro e_14 s2_14 s3_14 s4_14 s35_14
  refine then_n <| aw_case s35_14 (fun hq_15 => ?_) (fun hq_15 => ?_)
  · replace hq_15 := bt hq_15; exfalso; omega
  replace hq_15 := bf hq_15
  refine aw_skip <| then_n <| aw_seq <| at_ <| ar (ro_eq (ro_ld_ptr y68_ty26 rfl mo0_2 s3_14 (nle rfl)) (by simp only [pS, Value.cells, Nat.reduceAdd] <;> rfl)) rfl ?_
  refine ar (ro_call (evL_cons up_h evL_nil) rfl (yCopy_ok a ha) y68_hcf18) rfl <| ar (ro_move (u2 rfl s2_14)) rfl <| ar (ro_call (evL_cons (up_m rfl up_h) (evL_cons up_h evL_nil)) rfl ((branch_good a ha hg nm (by omega)).mono (fun q h => show q = .tuple [lnA (braL a t), mA 0] from h.trans (by unfold braA; rw [hB]))) y68_hcf38) rfl ?_
  refine ar (ro_move up_h) rfl <| ar (ro_extract up_h rfl) rfl <| ar (ro_extract (up_m rfl up_h) rfl) rfl <| al_stm (st_alloc y68_az26 rfl ml_2) trivial rfl (fun m_16 hm_16 => ?_)
  have mo2_16 := m_push hm_16 ml_2
  simp only [pS, Value.cells, Nat.reduceAdd] at mo2_16
  have mo1_16 := m_push_o hm_16 mo1_2
  have mo0_16 := m_push_o hm_16 mo0_2
  have ml_16 := m_push_l hm_16 ml_2
  have ml_16 : _ = 3 := ml_16
  clear hm_16 mo1_2 mo0_2
  refine al_stm (st_store up_h (u2 rfl up_h) rfl rfl mo2_16 y68_sz26 rfl (nle rfl)) trivial rfl (fun m_17 hm_17 => ?_)
  have mo2_17 := m_set hm_17 mo2_16
  simp only [pS, Value.cells, Nat.reduceAdd] at mo2_17
  have mo1_17 := m_set_o hm_17 mo1_16 (by decide)
  have mo0_17 := m_set_o hm_17 mo0_16 (by decide)
  have ml_17 := m_set_l hm_17 ml_16
  clear hm_17 mo2_16 mo1_16 mo0_16
  refine ar (ro_assign (up_n (up_m rfl up_h))) rfl <| ae5 (up_m rfl (up_n (u8 rfl s2_14))) (up_m rfl (up_n (u8 rfl s3_14))) (up_m rfl (up_n (u8 rfl s4_14))) (up_m rfl (up_n up_h)) up_h ?_; clear s2_14 s35_14 s3_14 s4_14; intro e_18 s2_18 s3_18 s4_18 s7_18 s8_18
  refine then_n <| aw_seq <| aw_drawK 10 1 ml_17 (by kernel_rfl) (by kernel_rfl) (by kernel_rfl) (by kernel_rfl) (fun m_19 hm_19 => ?_)
  have mo2_19 := m_room_o hm_19 mo2_17
  have mo1_19 := m_room_o hm_19 mo1_17
  have mo0_19 := m_room_o hm_19 mo0_17
  have mo3_19 : m_19[3]? = _ := m_room_g hm_19 ml_17 0 rfl rfl
  have ml_19 : _ = 4 := m_room_l (K := 1) hm_19 ml_17
  clear hm_19 mo2_17 mo1_17 mo0_17 ml_17
  refine dh_ld (0) (fun M_ hM_ => (ro_eq (ro_ld_ptr y68_ty26 rfl (agr hM_ mo0_19 (by simp)) s3_18 (nle rfl)) (by simp only [pS, Value.cells, Nat.reduceAdd] <;> rfl))) trivial trivial ?_
  refine dh_ro (fun M_ hM_ => (ro_call (evL_cons up_h evL_nil) rfl (yCopy_ok a ha) y68_hcf18)) trivial ?_
  refine dh_ld (1) (fun M_ hM_ => (ro_eq (ro_ld_ptr y68_ty26 rfl (agr hM_ mo1_19 (by simp)) (u2 rfl s4_18) (nle rfl)) (by simp only [pS, Value.cells, Nat.reduceAdd] <;> rfl))) trivial trivial ?_
  refine dh_ro (fun M_ hM_ => (ro_call (evL_cons up_h evL_nil) rfl (yCopy_ok b hb) y68_hcf18)) trivial ?_
  refine dh_ro (fun M_ hM_ => (ro_call (evL_cons (u2 rfl up_h) (evL_cons up_h evL_nil)) rfl ((joined_in a b ha hb hg hh).mono (fun q h => h.trans hS)) y68_hcf39)) trivial ?_
  refine dh_ro (fun M_ hM_ => (ro_move up_h)) trivial ?_
  refine dh_ro (fun M_ hM_ => (ro_extract up_h rfl)) trivial ?_
  refine dh_ro (fun M_ hM_ => (ro_extract (up_m rfl up_h) rfl)) trivial ?_
  refine dh_nw (3) (fun M_ hM_ => (nw_alloc y68_az26 rfl)) trivial mo3_19 rfl trivial ⟨.inl (by simp <;> omega), ⟨.inl (by simp <;> omega), trivial⟩⟩ (fun m_20 hm_20 => ?_)
  have mo3_20 := m_set hm_20 mo3_19
  simp only [pS, Value.cells, Nat.reduceAdd] at mo3_20
  have mo2_20 := m_set_o hm_20 mo2_19 (by decide)
  have mo1_20 := m_set_o hm_20 mo1_19 (by decide)
  have mo0_20 := m_set_o hm_20 mo0_19 (by decide)
  have ml_20 := m_set_l hm_20 ml_19
  clear hm_20 mo2_19 mo1_19 mo0_19 mo3_19
  refine dh_set (3) (fun M_ hM_ => (se_store up_h (u2 rfl up_h) rfl rfl (agr hM_ mo3_20 (by simp)) y68_sz26 rfl (nle rfl))) trivial ⟨.inr (wt_one 9 8 (by kernel_rfl)), trivial⟩ ⟨.inl (by simp <;> omega), ⟨.inl (by simp <;> omega), ⟨.inr (wt_one 9 8 (by kernel_rfl)), trivial⟩⟩⟩ (fun m_21 hm_21 => ?_)
  have mo3_21 := m_set hm_21 mo3_20
  simp only [pS, Value.cells, Nat.reduceAdd] at mo3_21
  have mo2_21 := m_set_o hm_21 mo2_20 (by decide)
  have mo1_21 := m_set_o hm_21 mo1_20 (by decide)
  have mo0_21 := m_set_o hm_21 mo0_20 (by decide)
  have ml_21 := m_set_l hm_21 ml_20
  clear hm_21 mo3_20 mo2_20 mo1_20 mo0_20
  refine dh_nil rfl ?_
  refine ar (ro_assign (up_n (up_m rfl up_h))) rfl <| ae7 (up_m rfl (up_n (up_m rfl (u8 rfl s2_18)))) (up_m rfl (up_n (up_m rfl (u8 rfl s3_18)))) (up_m rfl (up_n (up_m rfl (u8 rfl s4_18)))) (up_m rfl (up_n (up_m rfl (u8 rfl s7_18)))) (up_m rfl (up_n (up_m rfl (u8 rfl s8_18)))) (up_m rfl (up_n up_h)) up_h ?_; clear s2_18 s3_18 s4_18 s7_18 s8_18; intro e_22 s2_22 s3_22 s4_22 s7_22 s8_22 s9_22 s10_22
  refine then_n <| aw_seq <| at_ <| ar (ro_build evP_nil y68_bz26 y68_bu26 y68_bp26 rfl) rfl ?_
  refine al_stm (st_alloc y68_az26 rfl ml_21) trivial rfl (fun m_23 hm_23 => ?_)
  have mo4_23 := m_push hm_23 ml_21
  simp only [pS, Value.cells, Nat.reduceAdd] at mo4_23
  have mo3_23 := m_push_o hm_23 mo3_21
  have mo2_23 := m_push_o hm_23 mo2_21
  have mo1_23 := m_push_o hm_23 mo1_21
  have mo0_23 := m_push_o hm_23 mo0_21
  have ml_23 := m_push_l hm_23 ml_21
  have ml_23 : _ = 5 := ml_23
  clear hm_23 mo3_21 mo2_21 mo1_21 mo0_21
  refine al_stm (st_store up_h (up_m rfl up_h) rfl rfl mo4_23 y68_sz26 rfl (nle rfl)) trivial rfl (fun m_24 hm_24 => ?_)
  have mo4_24 := m_set hm_24 mo4_23
  simp only [pS, Value.cells, Nat.reduceAdd] at mo4_24
  have mo3_24 := m_set_o hm_24 mo3_23 (by decide)
  have mo2_24 := m_set_o hm_24 mo2_23 (by decide)
  have mo1_24 := m_set_o hm_24 mo1_23 (by decide)
  have mo0_24 := m_set_o hm_24 mo0_23 (by decide)
  have ml_24 := m_set_l hm_24 ml_23
  clear hm_24 mo4_23 mo3_23 mo2_23 mo1_23 mo0_23
  refine ae8 (up_n (u2 rfl s2_22)) (up_n (u2 rfl s3_22)) (up_n (u2 rfl s4_22)) (up_n (u2 rfl s7_22)) (up_n (u2 rfl s8_22)) (up_n (u2 rfl s9_22)) (up_n (u2 rfl s10_22)) (up_n up_h) ?_; clear s10_22 s2_22 s3_22 s4_22 s7_22 s8_22 s9_22; intro e_25 s2_25 s3_25 s4_25 s7_25 s8_25 s9_25 s10_25 s11_25
  refine then_n <| aw_seq <| aw_seq <| at_ <| ar (ro_eq (ro_ld_ptr y68_ty26 rfl mo0_24 s3_25 (nle rfl)) (by simp only [pS, Value.cells, Nat.reduceAdd] <;> rfl)) rfl ?_
  refine ar (ro_call (evL_cons up_h evL_nil) rfl ((lineErr_ok a ha).mono (fun q h => show q = mA 0 from h.trans (by rw [hg]))) y68_hcf14) rfl ?_
  refine ar (ro_assign up_h) rfl <| ae9 (up_m rfl (u2 rfl s2_25)) (up_m rfl (u2 rfl s3_25)) (up_m rfl (u2 rfl s4_25)) (up_m rfl (u2 rfl s7_25)) (up_m rfl (u2 rfl s8_25)) (up_m rfl (u2 rfl s9_25)) (up_m rfl (u2 rfl s10_25)) (up_m rfl (u2 rfl s11_25)) up_h ?_; clear s10_25 s11_25 s2_25 s3_25 s4_25 s7_25 s8_25 s9_25; intro e_26 s2_26 s3_26 s4_26 s7_26 s8_26 s9_26 s10_26 s11_26 s12_26
  refine then_n <| aw_seq <| at_ <| ar (ro_move s12_26) rfl <| ar (ro_neq up_h ev_c) rfl <| ae10 (u2 rfl s2_26) (u2 rfl s3_26) (u2 rfl s4_26) (u2 rfl s7_26) (u2 rfl s8_26) (u2 rfl s9_26) (u2 rfl s10_26) (u2 rfl s11_26) (u2 rfl s12_26) up_h ?_; clear s10_26 s11_26 s12_26 s2_26 s3_26 s4_26 s7_26 s8_26 s9_26; intro e_27 s2_27 s3_27 s4_27 s7_27 s8_27 s9_27 s10_27 s11_27 s12_27 s55_27
  refine then_n <| aw_case s55_27 (fun hq_28 => ?_) (fun hq_28 => ?_)
  · cases hq_28
  replace hq_28 := bnf hq_28
  refine aw_skip <| then_n <| aw_seq <| aw_seq <| at_ <| ar (ro_eq (ro_ld_ptr y68_ty26 rfl mo0_24 s3_27 (nle rfl)) (by simp only [pS, Value.cells, Nat.reduceAdd] <;> rfl)) rfl ?_
  refine ar (ro_move (up_m rfl s2_27)) rfl <| ar (ro_call (evL_cons (up_m rfl up_h) (evL_cons up_h evL_nil)) rfl ((rBranch_ok a ha hr nm (by omega)).mono (fun q h => show q = .tuple [lnA (braL a t), tbA true] from h.trans (by unfold rBraA; rw [hB]))) y68_hcf40) rfl ?_
  refine ar (ro_move up_h) rfl <| ar (ro_extract up_h rfl) rfl <| ar (ro_extract (up_m rfl up_h) rfl) rfl <| al_stm (st_alloc y68_az26 rfl ml_24) trivial rfl (fun m_29 hm_29 => ?_)
  have mo5_29 := m_push hm_29 ml_24
  simp only [pS, Value.cells, Nat.reduceAdd] at mo5_29
  have mo4_29 := m_push_o hm_29 mo4_24
  have mo3_29 := m_push_o hm_29 mo3_24
  have mo2_29 := m_push_o hm_29 mo2_24
  have mo1_29 := m_push_o hm_29 mo1_24
  have mo0_29 := m_push_o hm_29 mo0_24
  have ml_29 := m_push_l hm_29 ml_24
  have ml_29 : _ = 6 := ml_29
  clear hm_29 mo4_24 mo3_24 mo2_24 mo1_24 mo0_24
  refine al_stm (st_store up_h (u2 rfl up_h) rfl rfl mo5_29 y68_sz26 rfl (nle rfl)) trivial rfl (fun m_30 hm_30 => ?_)
  have mo5_30 := m_set hm_30 mo5_29
  simp only [pS, Value.cells, Nat.reduceAdd] at mo5_30
  have mo4_30 := m_set_o hm_30 mo4_29 (by decide)
  have mo3_30 := m_set_o hm_30 mo3_29 (by decide)
  have mo2_30 := m_set_o hm_30 mo2_29 (by decide)
  have mo1_30 := m_set_o hm_30 mo1_29 (by decide)
  have mo0_30 := m_set_o hm_30 mo0_29 (by decide)
  have ml_30 := m_set_l hm_30 ml_29
  clear hm_30 mo5_29 mo4_29 mo3_29 mo2_29 mo1_29 mo0_29
  refine ar (ro_assign (up_n (up_m rfl up_h))) rfl <| ae9 (up_m rfl (up_n (up_m rfl (u2 rfl (u4 rfl s3_27))))) (up_m rfl (up_n (up_m rfl (u2 rfl (u4 rfl s4_27))))) (up_m rfl (up_n (up_m rfl (u2 rfl (u4 rfl s7_27))))) (up_m rfl (up_n (up_m rfl (u2 rfl (u4 rfl s8_27))))) (up_m rfl (up_n (up_m rfl (u2 rfl (u4 rfl s9_27))))) (up_m rfl (up_n (up_m rfl (u2 rfl (u4 rfl s10_27))))) (up_m rfl (up_n (up_m rfl (u2 rfl (u4 rfl s11_27))))) (up_m rfl (up_n up_h)) up_h ?_; clear s10_27 s11_27 s12_27 s2_27 s3_27 s4_27 s55_27 s7_27 s8_27 s9_27; intro e_31 s3_31 s4_31 s7_31 s8_31 s9_31 s10_31 s11_31 s13_31 s14_31
  refine then_n <| aw_seq <| at_ <| ar (ro_move s14_31) rfl <| ae9 (up_m rfl s3_31) (up_m rfl s4_31) (up_m rfl s7_31) (up_m rfl s8_31) (up_m rfl s9_31) (up_m rfl s10_31) (up_m rfl s11_31) (up_m rfl s13_31) up_h ?_; clear s10_31 s11_31 s13_31 s14_31 s3_31 s4_31 s7_31 s8_31 s9_31; intro e_32 s3_32 s4_32 s7_32 s8_32 s9_32 s10_32 s11_32 s13_32 s80_32
  refine then_n <| aw_case s80_32 (fun hq_33 => ?_) (fun hq_33 => ?_)
  ·skip
   refine aw_seq <| at_ <| ar (ro_eq (ro_ld_ptr y68_ty26 rfl mo2_30 s7_32 (nle rfl)) (by simp only [pS, Value.cells, Nat.reduceAdd] <;> rfl)) rfl ?_
   refine ar (ro_call (evL_cons up_h evL_nil) rfl (yCopy_ok (braL a t) (braL_sho ha t)) y68_hcf18) rfl <| ar (ro_call (evL_cons up_h evL_nil) rfl (lengthOf_good (braL a t) (braL_sho ha t) hbg) y68_hcf41) rfl <| ar (ro_move up_h) rfl <| ar (ro_extract up_h rfl) rfl <| ar (ro_extract (up_m rfl up_h) rfl) rfl <| ar (ro_assign (up_m rfl up_h)) rfl <| ar (ro_assign (up_m rfl up_h)) rfl <| ae9 (u8 rfl s3_32) (u8 rfl s4_32) (u8 rfl s7_32) (u8 rfl s8_32) (u8 rfl s9_32) (u8 rfl s10_32) (u8 rfl s13_32) (up_m rfl up_h) up_h ?_; clear s10_32 s11_32 s13_32 s3_32 s4_32 s7_32 s80_32 s8_32 s9_32; intro e_34 s3_34 s4_34 s7_34 s8_34 s9_34 s10_34 s13_34 s15_34 s16_34
   refine then_n <| aw_seq <| at_ <| ar (ro_move s8_34) rfl <| ar (ro_neq up_h ev_c) rfl <| ar (ro_move up_h) rfl <| al_case up_h (fun hb_35 hq_35 => ?_) (fun hb_35 hq_35 => ?_)
   · cases hq_35
   replace hq_35 := bnf hq_35
   refine al_ro' (ro_eq (ro_ld_ptr y68_ty26 rfl mo2_30 (up_m rfl (u2 rfl s7_34)) (nle rfl)) (by simp only [pS, Value.cells, Nat.reduceAdd] <;> rfl)) ⟨_, rfl, hb_35⟩ rfl ?_
   refine al_ro' (ro_eq (ro_ld_ptr y68_ty26 rfl mo5_30 (u4 rfl s13_34) (nle rfl)) (by simp only [pS, Value.cells, Nat.reduceAdd] <;> rfl)) ⟨_, rfl, (up_m rfl hb_35)⟩ rfl ?_
   refine al_ro' (ro_call (evL_cons (up_m rfl up_h) (evL_cons up_h evL_nil)) rfl (same_refl (braL a t) (braL_sho ha t)) y68_hcf34) ⟨_, rfl, (u2 rfl hb_35)⟩ rfl ?_
   refine al_ro' (ro_not up_h) ⟨_, rfl, (up_m rfl (u2 rfl hb_35))⟩ rfl ?_
   refine ar (ro_pickF (u4 rfl hb_35) up_h) rfl <| ar (ro_move up_h) rfl <| al_case up_h (fun hb_39 hq_39 => ?_) (fun hb_39 hq_39 => ?_)
   · cases hq_39
   replace hq_39 := bf' hq_39
   refine al_ro' (ro_move (up_m rfl (u8 rfl s16_34))) ⟨_, rfl, hb_39⟩ rfl ?_
   refine al_ro' (ro_neq up_h ev_c) ⟨_, rfl, (up_m rfl hb_39)⟩ rfl ?_
   refine ar (ro_pickF (u2 rfl hb_39) up_h) rfl <| ar (ro_move up_h) rfl <| al_case up_h (fun hb_43 hq_43 => ?_) (fun hb_43 hq_43 => ?_)
   · cases hq_43
   replace hq_43 := bnf hq_43
   refine al_ro' (ro_move (up_m rfl (u4 rfl (u8 rfl s15_34)))) ⟨_, rfl, hb_43⟩ rfl ?_
   refine al_ro' (ro_eq (ro_ld_ptr y68_ty26 rfl mo0_30 (u2 rfl (u4 rfl (u8 rfl s3_34))) (nle rfl)) (by simp only [pS, Value.cells, Nat.reduceAdd] <;> rfl)) ⟨_, rfl, (up_m rfl hb_43)⟩ rfl ?_
   refine al_ro' (ro_call (evL_cons up_h evL_nil) rfl (rLengthOf_ok a (by have := hr.n1; omega) hr.len) y68_hcf42) ⟨_, rfl, (u2 rfl hb_43)⟩ rfl ?_
   refine al_ro' (ro_neq (u2 rfl up_h) up_h) ⟨_, rfl, (up_m rfl (u2 rfl hb_43))⟩ rfl ?_
   refine ar (ro_pickF (u4 rfl hb_43) up_h) rfl <| ae5 (u2 rfl (u16 rfl s3_34)) (u2 rfl (u16 rfl s4_34)) (u2 rfl (u16 rfl s9_34)) (u2 rfl (u16 rfl s10_34)) up_h ?_; clear hb_35 hb_39 hb_43 s10_34 s13_34 s15_34 s16_34 s3_34 s4_34 s7_34 s8_34 s9_34; intro e_47 s3_47 s4_47 s9_47 s10_47 s104_47
   refine then_n <| aw_case s104_47 (fun hq_48 => ?_) (fun hq_48 => ?_)
   · replace hq_48 := bnt hq_48; exfalso; omega
   replace hq_48 := bnf hq_48
   refine aw_skip <| then_n <| aw_seq <| at_ <| ar (ro_eq (ro_ld_ptr y68_ty26 rfl mo1_30 s4_47 (nle rfl)) (by simp only [pS, Value.cells, Nat.reduceAdd] <;> rfl)) rfl ?_
   refine ar (ro_call (evL_cons up_h evL_nil) rfl ((lineErr_ok b hb).mono (fun q h => show q = mA 0 from h.trans (by rw [hh]))) y68_hcf14) rfl ?_
   refine ar (ro_assign up_h) rfl <| ae5 (up_m rfl (u2 rfl s3_47)) (up_m rfl (u2 rfl s4_47)) (up_m rfl (u2 rfl s9_47)) (up_m rfl (u2 rfl s10_47)) up_h ?_; clear s104_47 s10_47 s3_47 s4_47 s9_47; intro e_50 s3_50 s4_50 s9_50 s10_50 s17_50
   refine then_n <| aw_seq <| at_ <| al_stm (st_alloc y68_az26 rfl ml_30) trivial rfl (fun m_51 hm_51 => ?_)
   have mo6_51 := m_push hm_51 ml_30
   simp only [pS, Value.cells, Nat.reduceAdd] at mo6_51
   have mo5_51 := m_push_o hm_51 mo5_30
   have mo4_51 := m_push_o hm_51 mo4_30
   have mo3_51 := m_push_o hm_51 mo3_30
   have mo2_51 := m_push_o hm_51 mo2_30
   have mo1_51 := m_push_o hm_51 mo1_30
   have mo0_51 := m_push_o hm_51 mo0_30
   have ml_51 := m_push_l hm_51 ml_30
   have ml_51 : _ = 7 := ml_51
   clear hm_51 mo5_30 mo4_30 mo3_30 mo2_30 mo1_30 mo0_30
   refine ae6 (up_m rfl s3_50) (up_m rfl s4_50) (up_m rfl s9_50) (up_m rfl s10_50) (up_m rfl s17_50) up_h ?_; clear s10_50 s17_50 s3_50 s4_50 s9_50; intro e_52 s3_52 s4_52 s9_52 s10_52 s17_52 s18_52
   refine then_n <| aw_seq <| aw_seq <| at_ <| ar (ro_move s17_52) rfl <| ar (ro_eql up_h ev_c) rfl ?_
   refine ae7 (u2 rfl s3_52) (u2 rfl s4_52) (u2 rfl s9_52) (u2 rfl s10_52) (u2 rfl s17_52) (u2 rfl s18_52) up_h ?_; clear s10_52 s17_52 s18_52 s3_52 s4_52 s9_52; intro e_53 s3_53 s4_53 s9_53 s10_53 s17_53 s18_53 s116_53
   refine then_n <| aw_case s116_53 (fun hq_54 => ?_) (fun hq_54 => ?_)
   ·replace hq_54 := bt hq_54
    refine at_ <| ar (ro_eq (ro_ld_ptr y68_ty26 rfl mo0_51 s3_53 (nle rfl)) (by simp only [pS, Value.cells, Nat.reduceAdd] <;> rfl)) rfl ?_
    refine ar (ro_eq (ro_ld_ptr y68_ty26 rfl mo1_51 (up_m rfl s4_53) (nle rfl)) (by simp only [pS, Value.cells, Nat.reduceAdd] <;> rfl)) rfl ?_
    refine ar (ro_call (evL_cons (up_m rfl up_h) (evL_cons up_h evL_nil)) rfl ((rJoined_ok a b ha hb hr hs).mono (fun q h => h.trans hS)) y68_hcf43) rfl ?_
    refine ar (ro_move up_h) rfl <| ar (ro_extract up_h rfl) rfl <| ar (ro_extract (up_m rfl up_h) rfl) rfl <| al_stm (st_store (u2 rfl (u4 rfl s18_53)) (up_m rfl up_h) rfl rfl mo6_51 y68_sz26 rfl (nle rfl)) trivial rfl (fun m_55 hm_55 => ?_)
    have mo6_55 := m_set hm_55 mo6_51
    simp only [pS, Value.cells, Nat.reduceAdd] at mo6_55
    have mo5_55 := m_set_o hm_55 mo5_51 (by decide)
    have mo4_55 := m_set_o hm_55 mo4_51 (by decide)
    have mo3_55 := m_set_o hm_55 mo3_51 (by decide)
    have mo2_55 := m_set_o hm_55 mo2_51 (by decide)
    have mo1_55 := m_set_o hm_55 mo1_51 (by decide)
    have mo0_55 := m_set_o hm_55 mo0_51 (by decide)
    have ml_55 := m_set_l hm_55 ml_51
    clear hm_55 mo6_51 mo5_51 mo4_51 mo3_51 mo2_51 mo1_51 mo0_51
    refine ar (ro_assign (up_n up_h)) rfl <| ae6 (up_m rfl (up_n (u2 rfl (u4 rfl s3_53)))) (up_m rfl (up_n (u2 rfl (u4 rfl s4_53)))) (up_m rfl (up_n (u2 rfl (u4 rfl s9_53)))) (up_m rfl (up_n (u2 rfl (u4 rfl s10_53)))) up_h (up_m rfl (up_n (u2 rfl (u4 rfl s18_53)))) ?_; clear s10_53 s116_53 s17_53 s18_53 s3_53 s4_53 s9_53; intro e_56 s3_56 s4_56 s9_56 s10_56 s17_56 s18_56
    refine then_n <| aw_seq <| aw_seq <| at_ <| ar (ro_move s10_56) rfl <| ar (ro_move (up_m rfl s17_56)) rfl <| ar (ro_neq (up_m rfl up_h) up_h) rfl <| ar (ro_move up_h) rfl <| al_case up_h (fun hb_57 hq_57 => ?_) (fun hb_57 hq_57 => ?_)
    · replace hq_57 := bnt hq_57; exfalso; omega
    replace hq_57 := bnf hq_57
    refine al_ro' (ro_eq (ro_ld_ptr y68_ty26 rfl mo3_55 (u4 rfl s9_56) (nle rfl)) (by simp only [pS, Value.cells, Nat.reduceAdd] <;> rfl)) ⟨_, rfl, hb_57⟩ rfl ?_
    refine al_ro' (ro_eq (ro_ld_ptr y68_ty26 rfl mo6_55 (up_m rfl (u4 rfl s18_56)) (nle rfl)) (by simp only [pS, Value.cells, Nat.reduceAdd] <;> rfl)) ⟨_, rfl, (up_m rfl hb_57)⟩ rfl ?_
    refine al_ro' (ro_call (evL_cons (up_m rfl up_h) (evL_cons up_h evL_nil)) rfl (same_refl J hJ) y68_hcf34) ⟨_, rfl, (u2 rfl hb_57)⟩ rfl ?_
    refine al_ro' (ro_not up_h) ⟨_, rfl, (up_m rfl (u2 rfl hb_57))⟩ rfl ?_
    refine ar (ro_pickF (u4 rfl hb_57) up_h) rfl <| ae5 (up_m rfl (u8 rfl s3_56)) (up_m rfl (u8 rfl s4_56)) (up_m rfl (u8 rfl s9_56)) (up_m rfl (u8 rfl s17_56)) up_h ?_; clear hb_57 s10_56 s17_56 s18_56 s3_56 s4_56 s9_56; intro e_61 s3_61 s4_61 s9_61 s17_61 s131_61
    refine then_n <| aw_case s131_61 (fun hq_62 => ?_) (fun hq_62 => ?_)
    · cases hq_62
    replace hq_62 := bf' hq_62
    refine aw_skip <| then_n <| aw_seq <| aw_seq <| at_ <| ar (ro_move s17_61) rfl <| ar (ro_neq up_h ev_c) rfl <| ae4 (u2 rfl s3_61) (u2 rfl s4_61) (u2 rfl s9_61) up_h ?_; clear s131_61 s17_61 s3_61 s4_61 s9_61; intro e_64 s3_64 s4_64 s9_64 s133_64
    refine then_n <| aw_case s133_64 (fun hq_65 => ?_) (fun hq_65 => ?_)
    ·replace hq_65 := bnt hq_65
     refine aw_seq <| at_ <| ar (ro_assign ev_c) rfl <| ae1 up_h ?_; clear s133_64 s3_64 s4_64 s9_64; intro e_66 s6_66
     refine then_n <| aw_ret <| then_r <| ret1 (.inr rfl) (by kernel_rfl) (resV_tmp s6_66) (.ro _ rfl) ?_
     clear s6_66 mo6_55 mo5_55 mo4_55 mo3_55 mo2_55 mo1_55 mo0_55 ml_55
     first | rfl | (simp_all; done) | omega
    replace hq_65 := bnf hq_65
    refine aw_skip <| then_n <| aw_seq <| at_ <| ar (ro_eq (ro_ld_ptr y68_ty26 rfl mo3_55 s9_64 (nle rfl)) (by simp only [pS, Value.cells, Nat.reduceAdd] <;> rfl)) rfl ?_
    refine ar (ro_call (evL_cons up_h evL_nil) rfl (yCopy_ok J hJ) y68_hcf18) rfl <| ar (ro_call (evL_cons up_h evL_nil) rfl (lengthOf_good J hJ (rgt_to (hJr (by assumption)).1)) y68_hcf41) rfl ?_
    refine ar (ro_move up_h) rfl <| ar (ro_extract up_h rfl) rfl <| ar (ro_extract (up_m rfl up_h) rfl) rfl <| ar (ro_assign (up_m rfl up_h)) rfl <| ar (ro_assign (up_m rfl up_h)) rfl <| ae4 (u8 rfl s3_64) (u8 rfl s4_64) (up_m rfl up_h) up_h ?_; clear s133_64 s3_64 s4_64 s9_64; intro e_67 s3_67 s4_67 s19_67 s20_67
    refine then_n <| aw_seq <| aw_draw 12 (by kernel_rfl) (by kernel_rfl) (by kernel_rfl) (by kernel_rfl) ?_
    refine dr (ro_move s20_67) rfl <| dr (ro_eql up_h ev_c) rfl ?_
    refine dr (ro_move up_h) rfl <| ds_case up_h (fun hb_68 hq_68 => ?_) (fun hb_68 hq_68 => ?_)
    ·replace hq_68 := bt hq_68
     refine ds_ro' (ro_move (up_m rfl (u2 rfl s19_67))) ⟨_, rfl, hb_68⟩ rfl ?_
     refine ds_ro' (ro_eq (ro_ld_ptr y68_ty26 rfl mo0_55 (u4 rfl s3_67) (nle rfl)) (by simp only [pS, Value.cells, Nat.reduceAdd] <;> rfl)) ⟨_, rfl, (up_m rfl hb_68)⟩ rfl ?_
     refine ds_ro' (ro_call (evL_cons up_h evL_nil) rfl (rLengthOf_ok a (by have := hr.n1; omega) hr.len) y68_hcf42) ⟨_, rfl, (u2 rfl hb_68)⟩ rfl ?_
     refine ds_ro' (ro_eq (ro_ld_ptr y68_ty26 rfl mo1_55 (u2 rfl (u4 rfl s4_67)) (nle rfl)) (by simp only [pS, Value.cells, Nat.reduceAdd] <;> rfl)) ⟨_, rfl, (up_m rfl (u2 rfl hb_68))⟩ rfl ?_
     refine ds_ro' (ro_call (evL_cons up_h evL_nil) rfl (rLengthOf_ok b (by have := hs.n1; omega) hs.len) y68_hcf42) ⟨_, rfl, (u4 rfl hb_68)⟩ rfl ?_
     (refine ds_ro' (ro_add' (u2 rfl up_h) up_h ?_) ⟨_, rfl, (up_m rfl (u4 rfl hb_68))⟩ rfl ?_; · (unfold In64; omega))
     refine ds_ro' (ro_eql (up_m rfl (u4 rfl up_h)) up_h) ⟨_, rfl, (u2 rfl (u4 rfl hb_68))⟩ rfl ?_
     refine dr (ro_pickT (up_m rfl (u2 rfl (u4 rfl hb_68))) up_h) rfl <| dr (ro_assign up_h) rfl <| ds_nil <| ae1 up_h ?_; clear hb_68 s19_67 s20_67 s3_67 s4_67; intro e_69 s6_69
     refine then_n <| aw_ret <| ret1 (.inr rfl) (by kernel_rfl) (resV_tmp s6_69) (.ro _ rfl) ?_
     clear s6_69 mo6_55 mo5_55 mo4_55 mo3_55 mo2_55 mo1_55 mo0_55 ml_55
     first | rfl | (simp_all; done) | omega
    · cases hq_68
   · cases hq_54
  · cases hq_33
theorem lineBranches_ok (a b : Lin) (nm : ByteArray) : FnOk Try.prog 7 [lnA a, lnA b, .v (.string nm)] (fun q => q = tbA true) := by
  cases hfa : fewL a with
  | false => exact lineBranches_many1 a b nm hfa
  | true =>
  cases hfb : fewL b with
  | false => exact lineBranches_many2 a b nm hfa hfb
  | true =>
  by_cases hn : nm.size ≤ 20
  · have ha := fewL_sho hfa
    have hb := fewL_sho hfb
    by_cases hg : (linM a).2 = 0
    · have hr := rgt_of hg
      by_cases hh : (linM b).2 = 0
      · have hs := rgt_of hh
        obtain ⟨J, d, hS, hJ, hJr⟩ : ∃ (J : Lin) (d : Int), joiA a b = .tuple [lnA J, mA d] ∧ Sho J ∧ (d = 0 → Rgt J ∧ plaP J.bs J.bs.length = plaP a.bs a.bs.length + plaP b.bs b.bs.length) := by
          by_cases hx : joiX a b = 0
          · refine ⟨joiL a b, 0, joiA_0 hx, joiL_sho ha hb hr hs, fun _ => ⟨joiL_rgt hr hs hx, ?_⟩⟩
            have := plaP_app a.bs b.bs b.bs.length (Nat.le_refl _)
            rw [← this]
            show plaP (a.bs ++ b.bs) (a.bs ++ b.bs).length = _
            rw [List.length_append]
          · exact ⟨nonL, _, joiA_n hx, nonL_sho, fun h => absurd h hx⟩
        cases hB : brF a nm with
        | none => exact lineBranches_none_in a b nm hfa hfb hn hg hB hh J d hS hJ hJr
        | some t => exact lineBranches_some_in a b nm hfa hfb hn hg t hB hh J d hS hJ hJr
      · cases hB : brF a nm with
        | none => exact lineBranches_none_bad a b nm hfa hfb hn hg hB hh
        | some t => exact lineBranches_some_bad a b nm hfa hfb hn hg t hB hh
    · by_cases hh : (linM b).2 = 0
      · exact lineBranches_bad a b nm hfa hfb hn hg _ _ (yOpen_good b hb hh)
      · exact lineBranches_bad a b nm hfa hfb hn hg _ _ (yOpen_bad b hb hh)
  · exact lineBranches_many3 a b nm hfa hfb (by omega)
end Go.Proofs.Ytonjcljnpcmenaa
