/- Contracts of chapter 5: runs, the fastest squares. No conditions on a program. -/
import Derived.Test.YtgiiedpambimoaaK7
namespace Go.Proofs.Ytgiiedpambimoaa
open Go Go.RowKit Go.Proofs
set_option linter.unusedSimpArgs false
set_option linter.unusedVariables false
theorem k8_az107 : (Try.prog.info? 107).bind (·.zero) = some (.agg #[.string ByteArray.empty, .slice none 0 0, .int .i64 0, .int .i64 0, .int .i64 0]) := by kernel_rfl
theorem k8_fl68_0 : FldIs Try.prog 68 0 0 false 1 := by unfold FldIs; kernel_rfl
theorem k8_fl68_1 : FldIs Try.prog 68 1 1 false 1 := by unfold FldIs; kernel_rfl
theorem k8_hcf55 : ∀ args w, (callFunc 55 args).run Try.prog w = .ok (.enter 55 args) w := fun _ _ => by kernel_rfl
theorem k8_hcf56 : ∀ args w, (callFunc 56 args).run Try.prog w = .ok (.enter 56 args) w := fun _ _ => by kernel_rfl
theorem k8_hcf57 : ∀ args w, (callFunc 57 args).run Try.prog w = .ok (.enter 57 args) w := fun _ _ => by kernel_rfl
theorem k8_hcf70 : ∀ args w, (callFunc 70 args).run Try.prog w = .ok (.enter 70 args) w := fun _ _ => by kernel_rfl
theorem k8_hcf71 : ∀ args w, (callFunc 71 args).run Try.prog w = .ok (.enter 71 args) w := fun _ _ => by kernel_rfl
theorem k8_hcf72 : ∀ args w, (callFunc 72 args).run Try.prog w = .ok (.enter 72 args) w := fun _ _ => by kernel_rfl
theorem k8_hcf73 : ∀ args w, (callFunc 73 args).run Try.prog w = .ok (.enter 73 args) w := fun _ _ => by kernel_rfl
theorem k8_hcf78 : ∀ args w, (callFunc 78 args).run Try.prog w = .ok (.enter 78 args) w := fun _ _ => by kernel_rfl
theorem k8_hcf90 : ∀ args w, (callFunc 90 args).run Try.prog w = .ok (.enter 90 args) w := fun _ _ => by kernel_rfl
theorem k8_sl126 : SlIs Try.prog 126 33 1 8 (.int .i64 0) := ⟨by kernel_rfl, by kernel_rfl, by kernel_rfl⟩
theorem k8_sl22 : SlIs Try.prog 22 3 1 8 (.int .i64 0) := ⟨by kernel_rfl, by kernel_rfl, by kernel_rfl⟩
theorem k8_sz107 : (Try.prog.info? 107).map (·.size) = some 5 := by kernel_rfl
theorem k8_ty107 : TyIs Try.prog 107 true 5 := ⟨by kernel_rfl, by kernel_rfl⟩
theorem k8_ty3 : TyIs Try.prog 3 false 1 := ⟨by kernel_rfl, by kernel_rfl⟩
theorem k8_ty51 : TyIs Try.prog 51 true 2 := ⟨by kernel_rfl, by kernel_rfl⟩
theorem k8_ty53 : TyIs Try.prog 53 true 3 := ⟨by kernel_rfl, by kernel_rfl⟩
theorem k8_ty68 : TyIs Try.prog 68 true 2 := ⟨by kernel_rfl, by kernel_rfl⟩

theorem bwL_len (ps : List Piece) (b sq : Int) (n : Nat) : (bwL ps b sq n).length = n + 1 := by simp [bwL]
theorem bwL_at (ps : List Piece) (b sq : Int) {n j : Nat} (h : j ≤ n) : (bwL ps b sq n).getD j default = bwD ps b sq n (n - j) := by simp [bwL, List.getD_eq_getElem?_getD, show j < n + 1 by omega]
theorem bwL_bound {ps : List Piece} (h : Ok ps) {b sq : Int} (hs : -1 ≤ sq ∧ sq ≤ 20000000000) (n j : Nat) : -1 ≤ (bwL ps b sq n).getD j default ∧ (bwL ps b sq n).getD j default ≤ 20000000000 := by
  by_cases hj : j ≤ n
  · rw [bwL_at ps b sq hj]; exact bwD_bound h hs _
  · have : (bwL ps b sq n).getD j default = 0 := by
      rw [List.getD_eq_getElem?_getD, List.getElem?_eq_none (by rw [bwL_len]; omega)]; rfl
    rw [this]; omega
/-- A run, so many posts on. -/
def goL (f : Nat → Int → Int) (sq : Int) : Nat → Option (List Int)
  | 0 => some [sq]
  | k + 1 => match goL f sq k with
    | none => none
    | some l => if f k (l.getD k default) < 0 then none else some (l ++ [f k (l.getD k default)])
theorem goL_none {f : Nat → Int → Int} {sq : Int} {k : Nat} (h : goL f sq k = none) : ∀ m, goL f sq (k + m) = none
  | 0 => h
  | m + 1 => by
    have := goL_none h m
    show goL f sq (k + m + 1) = none
    simp only [goL, this]
theorem goL_stop {f : Nat → Int → Int} {sq : Int} {k n : Nat} {l : List Int} (h : goL f sq k = some l) (hk : k < n) (hf : f k (l.getD k default) < 0) : goL f sq n = none := by
  have h1 : goL f sq (k + 1) = none := by simp only [goL, h]; rw [if_pos hf]
  have := goL_none h1 (n - (k + 1))
  rwa [show k + 1 + (n - (k + 1)) = n by omega] at this
theorem goL_step {f : Nat → Int → Int} {sq : Int} {k : Nat} {l : List Int} (h : goL f sq k = some l) (hf : ¬ f k (l.getD k default) < 0) : goL f sq (k + 1) = some (l ++ [f k (l.getD k default)]) := by
  simp only [goL, h]; rw [if_neg hf]
theorem goL_len {f : Nat → Int → Int} {sq : Int} : ∀ {k : Nat} {l : List Int}, goL f sq k = some l → l.length = k + 1
  | 0, l, h => by cases h; rfl
  | k + 1, l, h => by
    simp only [goL] at h
    split at h
    · cases h
    · rename_i q hq
      split at h
      · cases h
      · cases h; simp [goL_len hq]
theorem getD_snoc {l : List Int} {v : Int} {n : Nat} (h : l.length = n) : (l ++ [v]).getD n default = v := by
  subst h; simp [List.getD_eq_getElem?_getD]
/-- What a run to a stop comes to at the next post. -/
def runF (ps : List Piece) (b d stop : Int) (post : Nat) (k : Nat) (x : Int) : Int := min ((bwL ps b 0 (stop + 1).toNat).getD (post + k + 1) default) (x - losW d (ps.getD (post + k) default))
def runW (ps : List Piece) (b d stop post sq : Int) : List Int × Int :=
  if (bwL ps b 0 (stop + 1).toNat).getD post.toNat default = -1 ∨ (bwL ps b 0 (stop + 1).toNat).getD post.toNat default < sq then ([], 24) else
  match goL (runF ps b d stop post.toNat) sq (stop - post).toNat with
  | none => ([], 12)
  | some l => (l, 0)
set_option maxRecDepth 100000 in
set_option maxHeartbeats 4000000 in
theorem run_ok (nm : ByteArray) (ps : List Piece) (hok : trackR ps) (b d v : Int) (hb : sysR b d v) (post sq stop : Int) (h0 : 0 ≤ post) (h1 : post ≤ stop) (h2 : stop < ps.length) (hsq : 0 ≤ sq ∧ sq ≤ 20000000000) :
    FnOk Try.prog 73 [riA nm ps b d v, .agg [iA post, iA sq], iA stop] (fun q => q = .tuple [.row 1 ((runW ps b d stop post sq).1.map iE), iA (runW ps b d stop post sq).2]) := by
  obtain ⟨q1, q2, q3⟩ := hok
  obtain ⟨r1, r2, r3, r4⟩ := hb
  have hcl := bwL_len ps b 0 (stop + 1).toNat
  refine fnOk_of (fn := Try.f73) 62 (by kernel_rfl) rfl (by kernel_rfl) (Nat.le_of_ble_eq_true rfl) ?_
  intro e_0 m_0 hA hm_0
  have s0_0 : evA e_0 (.tmp 0) = _ := hA 0 _ rfl
  have s1_0 : evA e_0 (.tmp 1) = _ := hA 1 _ rfl
  have s2_0 : evA e_0 (.tmp 2) = _ := hA 2 _ rfl
  have ml_0 : m_0.length = 0 := by rw [hm_0]; rfl
  clear hA hm_0
  refine aw_seq ?_
  refine aw_text (by kernel_rfl) ?_
  refine al_stm (st_box s0_0 rfl ml_0) trivial rfl (fun m_1 hm_1 => ?_)
  have mo0_1 := m_push hm_1 ml_0
  (try simp only [packA_t, packA_f, iE, bE, setAt, cellsA, Value.cells, map_vc, map_vn, Nat.reduceAdd, qS, one_iE, app_m] at mo0_1)
  have ml_1 := m_push_l hm_1 ml_0
  have ml_1 : _ = 1 := ml_1
  clear hm_1
  refine al_stm (st_box (up_m rfl s1_0) rfl ml_1) trivial rfl (fun m_2 hm_2 => ?_)
  have mo1_2 := m_push hm_2 ml_1
  (try simp only [packA_t, packA_f, iE, bE, setAt, cellsA, Value.cells, map_vc, map_vn, Nat.reduceAdd, qS, one_iE, app_m] at mo1_2)
  have mo0_2 := m_push_o hm_2 mo0_1
  have ml_2 := m_push_l hm_2 ml_1
  have ml_2 : _ = 2 := ml_2
  clear hm_2 mo0_1
  refine al_ro' (ro_assign ev_c) trivial rfl ?_
  refine al_ro' (ro_assign ev_c) trivial rfl ?_
  refine al_end (fun e_3 he_3 => ?_)
  have s2_3 := ef 2 he_3 (u4 rfl s2_0)
  have s3_3 := ef 3 he_3 (up_m rfl (u2 rfl up_h))
  have s4_3 := ef 4 he_3 (u2 rfl up_h)
  clear he_3 s0_0 s1_0 s2_0
  refine then_n ?_
  refine aw_seq ?_
  refine aw_text (by kernel_rfl) ?_
  refine al_ro' (ro_eq (ro_ld_ptr k8_ty107 rfl mo0_2 s3_3 (by first | exact Nat.le_of_ble_eq_true rfl | omega | (simp only [lnS] <;> omega) | (simp <;> omega))) (by first | (simp only [packA_t, packA_f, iE, bE, setAt, cellsA, Value.cells, map_vc, map_vn, Nat.reduceAdd, qS, one_iE, app_m] <;> rfl) | rfl)) trivial rfl ?_
  refine al_ro' (ro_move (up_m rfl s2_3)) trivial rfl ?_
  refine al_ro' (ro_call (evL_cons (up_m rfl up_h) (evL_cons up_h evL_nil)) rfl (curve_ok nm ps ⟨q1, q2, q3⟩ b d v ⟨r1, r2, r3, r4⟩ stop (by omega) h2) k8_hcf71) trivial rfl ?_
  refine al_ro' (ro_assign up_h) trivial rfl ?_
  refine al_end (fun e_4 he_4 => ?_)
  have s2_4 := ef 2 he_4 (u4 rfl s2_3)
  have s3_4 := ef 3 he_4 (u4 rfl s3_3)
  have s4_4 := ef 4 he_4 (u4 rfl s4_3)
  have s8_4 := ef 8 he_4 up_h
  clear he_4 s2_3 s3_3 s4_3
  refine then_n ?_
  refine aw_seq ?_
  refine aw_seq ?_
  refine aw_text (by kernel_rfl) ?_
  refine al_ro' (ro_move s8_4) trivial rfl ?_
  refine al_ro' (ro_fld_ptr k8_fl68_0 rfl (up_m rfl s4_4)) trivial rfl ?_
  refine al_ro' (ro_eq (ro_ld_ptr k8_ty3 rfl mo1_2 up_h (by first | exact Nat.le_of_ble_eq_true rfl | omega | (simp only [lnS] <;> omega) | (simp <;> omega))) (by first | (simp only [packA_t, packA_f, iE, bE, setAt, cellsA, Value.cells, map_vc, map_vn, Nat.reduceAdd, qS, one_iE, app_m] <;> rfl) | rfl)) trivial rfl ?_
  refine al_ro' (ro_eq (ro_ix k8_sl22 (u2 rfl up_h) up_h (by first | decide | omega | (simp <;> omega)) (by first | (refine idx_map ?_; first | omega | (simp only [lnS]; omega)) | (refine idx_mapI ?_; first | omega | (simp only [lnS]; omega)) | (refine idx_mapN ?_; first | omega | (simp only [lnS]; omega)) | rfl)) (by first | (simp only [packA_t, packA_f, iE, bE, setAt, cellsA, Value.cells, map_vc, map_vn, Nat.reduceAdd, qS, one_iE, app_m] <;> rfl) | rfl)) trivial rfl ?_
  refine al_ro' (ro_eq (ro_ld_ref k8_ty3 rfl up_h (by first | exact Nat.le_of_ble_eq_true rfl | omega | (simp only [lnS] <;> omega) | (simp <;> omega))) (by first | (simp only [packA_t, packA_f, iE, bE, setAt, cellsA, Value.cells, map_vc, map_vn, Nat.reduceAdd, qS, one_iE, app_m] <;> rfl) | rfl)) trivial rfl ?_
  refine al_ro' (ro_assign up_h) trivial rfl ?_
  refine al_end (fun e_5 he_5 => ?_)
  have s2_5 := ef 2 he_5 (u2 rfl (u4 rfl s2_4))
  have s3_5 := ef 3 he_5 (u2 rfl (u4 rfl s3_4))
  have s4_5 := ef 4 he_5 (u2 rfl (u4 rfl s4_4))
  have s8_5 := ef 8 he_5 (u2 rfl (u4 rfl s8_4))
  have s9_5 := ef 9 he_5 up_h
  clear he_5 s2_4 s3_4 s4_4 s8_4
  refine then_n ?_
  refine aw_seq ?_
  refine aw_cut (fun e mem => (evA e (.tmp 28) = .v (.bool (decide ((bwL ps b 0 (stop + 1).toNat).getD post.toNat default = -1 ∨ (bwL ps b 0 (stop + 1).toNat).getD post.toNat default < sq)))) ∧ (evA e (.tmp 2) = evA e_5 (.tmp 2)) ∧ (evA e (.tmp 3) = evA e_5 (.tmp 3)) ∧ (evA e (.tmp 4) = evA e_5 (.tmp 4)) ∧ (evA e (.tmp 8) = evA e_5 (.tmp 8)) ∧ m_2 = mem) ?_ ?_
  ·
    refine aw_text (by kernel_rfl) ?_
    refine al_ro' (ro_move s9_5) trivial rfl ?_
    refine al_ro' (ro_eql up_h ev_c) trivial rfl ?_
    refine al_ro' (ro_move up_h) trivial rfl ?_
    refine al_case up_h (fun hb_7 hq_7 => ?_) (fun hb_7 hq_7 => ?_)
    · (first | replace hq_7 := bnt hq_7 | replace hq_7 := bnf hq_7 | replace hq_7 := bt hq_7 | replace hq_7 := bf hq_7 | replace hq_7 := bt' hq_7 | replace hq_7 := bf' hq_7 | skip)
      first
      | (cases hq_7; done) | (exfalso; omega)
      | (
         refine al_skip' ⟨_, rfl, .inl hb_7⟩ rfl ?_
         refine al_skip' ⟨_, rfl, .inl (up_m rfl hb_7)⟩ rfl ?_
         refine al_skip' ⟨_, rfl, .inl (u2 rfl hb_7)⟩ rfl ?_
         refine al_skip' ⟨_, rfl, .inl (up_m rfl (u2 rfl hb_7))⟩ rfl ?_
         refine al_ro' (ro_pickT (u4 rfl hb_7) ev_c) trivial rfl ?_
         refine al_end (fun e_8 he_8 => ?_)
         have s2_8 := ef 2 he_8 (u8 rfl s2_5)
         have s3_8 := ef 3 he_8 (u8 rfl s3_5)
         have s4_8 := ef 4 he_8 (u8 rfl s4_5)
         have s8_8 := ef 8 he_8 (u8 rfl s8_5)
         have s28_8 := ef 28 he_8 up_h
         clear he_8
         refine then_n ⟨(s28_8).trans (by (refine avb ?_; simp only [decide_eq_true_eq, true_iff]; omega)), (s2_8).trans (s2_5).symm, (s3_8).trans (s3_5).symm, (s4_8).trans (s4_5).symm, (s8_8).trans (s8_5).symm, rfl⟩)
    · (first | replace hq_7 := bnt hq_7 | replace hq_7 := bnf hq_7 | replace hq_7 := bt hq_7 | replace hq_7 := bf hq_7 | replace hq_7 := bt' hq_7 | replace hq_7 := bf' hq_7 | skip)
      first
      | (cases hq_7; done) | (exfalso; omega)
      | (
         refine al_ro' (ro_fld_ptr k8_fl68_1 rfl (up_m rfl (u2 rfl s4_5))) ⟨_, rfl, hb_7⟩ rfl ?_
         refine al_ro' (ro_eq (ro_ld_ptr k8_ty3 rfl mo1_2 up_h (by first | exact Nat.le_of_ble_eq_true rfl | omega | (simp only [lnS] <;> omega) | (simp <;> omega))) (by first | (simp only [packA_t, packA_f, iE, bE, setAt, cellsA, Value.cells, map_vc, map_vn, Nat.reduceAdd, qS, one_iE, app_m] <;> rfl) | rfl)) ⟨_, rfl, (up_m rfl hb_7)⟩ rfl ?_
         refine al_ro' (ro_move (up_m rfl (u4 rfl s9_5))) ⟨_, rfl, (u2 rfl hb_7)⟩ rfl ?_
         refine al_ro' (ro_gtr (up_m rfl up_h) up_h) ⟨_, rfl, (up_m rfl (u2 rfl hb_7))⟩ rfl ?_
         refine al_ro' (ro_pickF (u4 rfl hb_7) up_h) trivial rfl ?_
         refine al_end (fun e_9 he_9 => ?_)
         have s2_9 := ef 2 he_9 (u8 rfl s2_5)
         have s3_9 := ef 3 he_9 (u8 rfl s3_5)
         have s4_9 := ef 4 he_9 (u8 rfl s4_5)
         have s8_9 := ef 8 he_9 (u8 rfl s8_5)
         have s28_9 := ef 28 he_9 up_h
         clear he_9
         refine then_n ⟨(s28_9).trans (by (refine avb ?_; simp only [decide_eq_true_eq, true_iff]; omega)), (s2_9).trans (s2_5).symm, (s3_9).trans (s3_5).symm, (s4_9).trans (s4_5).symm, (s8_9).trans (s8_5).symm, rfl⟩)
  · rintro e_6 _ ⟨s28_6, k2_6, k3_6, k4_6, k8_6, rfl⟩
    have s2_6 := k2_6.trans s2_5
    have s3_6 := k3_6.trans s3_5
    have s4_6 := k4_6.trans s4_5
    have s8_6 := k8_6.trans s8_5
    refine aw_case s28_6 (fun hq_10 => ?_) (fun hq_10 => ?_)
    · (first | replace hq_10 := bnt hq_10 | replace hq_10 := bnf hq_10 | replace hq_10 := bt hq_10 | replace hq_10 := bf hq_10 | replace hq_10 := bt' hq_10 | replace hq_10 := bf' hq_10 | skip)
      first
      | (cases hq_10; done) | (exfalso; omega)
      | (
         refine aw_seq ?_
         refine aw_text (by kernel_rfl) ?_
         refine al_ro' (ro_assign ev_c) trivial rfl ?_
         refine al_ro' (ro_assign ev_c) trivial rfl ?_
         refine al_end (fun e_11 he_11 => ?_)
         have s6_11 := ef 6 he_11 (up_m rfl up_h)
         have s7_11 := ef 7 he_11 up_h
         clear he_11 s28_6 s2_6 s3_6 s4_6 s8_6
         refine then_n ?_
         refine aw_ret ?_
         refine then_r ?_
         refine ret2 (.inr rfl) (by kernel_rfl) (resV_tmp s6_11) (resV_tmp s7_11) (.nil 1) (.ro _ rfl) ?_
         clear s6_11 s7_11 mo1_2 mo0_2 ml_2
         (have hc : (bwL ps b 0 (stop + 1).toNat).getD post.toNat default = -1 ∨ (bwL ps b 0 (stop + 1).toNat).getD post.toNat default < sq := (by assumption); rw [runW, if_pos hc]; rfl))
    · (first | replace hq_10 := bnt hq_10 | replace hq_10 := bnf hq_10 | replace hq_10 := bt hq_10 | replace hq_10 := bf hq_10 | replace hq_10 := bt' hq_10 | replace hq_10 := bf' hq_10 | skip)
      first
      | (cases hq_10; done) | (exfalso; omega)
      | (
         refine aw_skip ?_
         refine then_n ?_
         refine aw_seq ?_
         refine aw_text (by kernel_rfl) ?_
         refine al_ro' (ro_fld_ptr k8_fl68_1 rfl s4_6) trivial rfl ?_
         refine al_ro' (ro_eq (ro_ld_ptr k8_ty3 rfl mo1_2 up_h (by first | exact Nat.le_of_ble_eq_true rfl | omega | (simp only [lnS] <;> omega) | (simp <;> omega))) (by first | (simp only [packA_t, packA_f, iE, bE, setAt, cellsA, Value.cells, map_vc, map_vn, Nat.reduceAdd, qS, one_iE, app_m] <;> rfl) | rfl)) trivial rfl ?_
         refine al_stm (st_lit k8_sl22 ml_2 (evP_cons up_h evP_nil) rfl rfl rfl rfl) trivial rfl (fun m_12 hm_12 => ?_)
         have mo2_12 := m_push hm_12 ml_2
         (try simp only [packA_t, packA_f, iE, bE, setAt, cellsA, Value.cells, map_vc, map_vn, Nat.reduceAdd, qS, one_iE, app_m] at mo2_12)
         have mo1_12 := m_push_o hm_12 mo1_2
         have mo0_12 := m_push_o hm_12 mo0_2
         have ml_12 := m_push_l hm_12 ml_2
         have ml_12 : _ = 3 := ml_12
         clear hm_12 mo1_2 mo0_2
         refine al_ro' (ro_assign up_h) trivial rfl ?_
         refine al_end (fun e_13 he_13 => ?_)
         have s2_13 := ef 2 he_13 (u4 rfl s2_6)
         have s3_13 := ef 3 he_13 (u4 rfl s3_6)
         have s4_13 := ef 4 he_13 (u4 rfl s4_6)
         have s8_13 := ef 8 he_13 (u4 rfl s8_6)
         have s10_13 := ef 10 he_13 up_h
         clear he_13 s28_6 s2_6 s3_6 s4_6 s8_6
         refine then_n ?_
         refine aw_seq ?_
         refine aw_seq ?_
         refine aw_text (by kernel_rfl) ?_
         refine al_ro' (ro_fld_ptr k8_fl68_0 rfl s4_13) trivial rfl ?_
         refine al_ro' (ro_eq (ro_ld_ptr k8_ty3 rfl mo1_12 up_h (by first | exact Nat.le_of_ble_eq_true rfl | omega | (simp only [lnS] <;> omega) | (simp <;> omega))) (by first | (simp only [packA_t, packA_f, iE, bE, setAt, cellsA, Value.cells, map_vc, map_vn, Nat.reduceAdd, qS, one_iE, app_m] <;> rfl) | rfl)) trivial rfl ?_
         refine al_ro' (ro_assign up_h) trivial rfl ?_
         refine al_end (fun e_14 he_14 => ?_)
         have s2_14 := ef 2 he_14 (up_m rfl (u2 rfl s2_13))
         have s3_14 := ef 3 he_14 (up_m rfl (u2 rfl s3_13))
         have s8_14 := ef 8 he_14 (up_m rfl (u2 rfl s8_13))
         have s10_14 := ef 10 he_14 (up_m rfl (u2 rfl s10_13))
         have s11_14 := ef 11 he_14 up_h
         clear he_14 s10_13 s2_13 s3_13 s4_13 s8_13
         refine then_n ?_
         refine aw_block ?_
         refine aw_loop (S := (Int × List Int)) (fun s e mem => match s with | ⟨i, xs⟩ => (evA e (.tmp 11) = .v (.int .i64 i)) ∧ (evA e (.tmp 2) = evA e_14 (.tmp 2)) ∧ (evA e (.tmp 3) = evA e_14 (.tmp 3)) ∧ (evA e (.tmp 8) = evA e_14 (.tmp 8)) ∧ (mem[1]? = m_12[1]?) ∧ (mem[0]? = m_12[0]?) ∧ (∃ j, evA e (.tmp 10) = .own j ∧ mem[j]? = some (.row 3 1 (xs.map iE)) ∧ j ≠ 1 ∧ j ≠ 0) ∧ (∃ n, mem.length = n ∧ 3 ≤ n) ∧ ((post ≤ i ∧ i ≤ stop ∧ goL (runF ps b d stop post.toNat) sq (i - post).toNat = some xs ∧ 0 ≤ xs.getD (i - post).toNat default ∧ xs.getD (i - post).toNat default ≤ 20000000000))) (fun s => match s with | ⟨i, xs⟩ => (stop - i).toNat) ⟨_, [sq]⟩ ⟨s11_14, rfl, rfl, rfl, rfl, rfl, ⟨_, s10_14, mo2_12, (by decide), (by decide)⟩, ⟨_, ml_12, Nat.le_refl _⟩, ?_⟩ ?_
         · (refine ⟨by omega, by omega, ?_, ?_⟩; (rw [show (post - post).toNat = 0 by omega]; rfl); (rw [show (post - post).toNat = 0 by omega]; exact hsq))
         · rintro ⟨i, xs⟩ e_15 m_15 ⟨s11_15, k2_15, k3_15, k8_15, mk1_15, mk0_15, ⟨j10_15, s10_15, mo_j10_15, nj10_1_15, nj10_0_15⟩, ⟨n_15, ml_15, hn_15⟩, hinv⟩
           have s2_15 := k2_15.trans s2_14
           have s3_15 := k3_15.trans s3_14
           have s8_15 := k8_15.trans s8_14
           have mo1_15 := mk1_15.trans mo1_12
           have mo0_15 := mk0_15.trans mo0_12
           have jl10_15 := m_lt mo_j10_15 ml_15
           (obtain ⟨p1, p2, p3, p4, p5⟩ := hinv; have hl := goL_len p3; have hpa := q1.at i.toNat; have hlos := los_bound (dec := d) (p := ps.getD i.toNat default) (by omega) hpa.1 hpa.2.1; have hlast : xs.getD ((xs.length : Int) - 1).toNat default = xs.getD (i - post).toNat default := (by congr 1; omega); have hcb := bwL_bound q1 (b := b) (sq := 0) (by omega) (stop + 1).toNat (i + 1).toNat; have hf : ∀ x, runF ps b d stop post.toNat (i - post).toNat x = min ((bwL ps b 0 (stop + 1).toNat).getD (i + 1).toNat default) (x - losW d (ps.getD i.toNat default)) := (fun x => by unfold runF; rw [show post.toNat + (i - post).toNat + 1 = (i + 1).toNat by omega, show post.toNat + (i - post).toNat = i.toNat by omega]))
           refine aw_seq ?_
           refine aw_seq ?_
           refine aw_text (by kernel_rfl) ?_
           refine al_ro' (ro_move s11_15) trivial rfl ?_
           refine al_ro' (ro_move (up_m rfl s2_15)) trivial rfl ?_
           refine al_ro' (ro_lss (up_m rfl up_h) up_h) trivial rfl ?_
           refine al_end (fun e_16 he_16 => ?_)
           have s2_16 := ef 2 he_16 (up_m rfl (u2 rfl s2_15))
           have s3_16 := ef 3 he_16 (up_m rfl (u2 rfl s3_15))
           have s8_16 := ef 8 he_16 (up_m rfl (u2 rfl s8_15))
           have s10_16 := ef 10 he_16 (up_m rfl (u2 rfl s10_15))
           have s11_16 := ef 11 he_16 (up_m rfl (u2 rfl s11_15))
           have s36_16 := ef 36 he_16 up_h
           clear he_16 s10_15 s11_15 s2_15 s3_15 s8_15
           refine then_n ?_
           refine aw_case s36_16 (fun hq_17 => ?_) (fun hq_17 => ?_)
           · (first | replace hq_17 := bnt hq_17 | replace hq_17 := bnf hq_17 | replace hq_17 := bt hq_17 | replace hq_17 := bf hq_17 | replace hq_17 := bt' hq_17 | replace hq_17 := bf' hq_17 | skip)
             first
             | (cases hq_17; done) | (exfalso; omega)
             | (
                refine aw_skip ?_
                refine then_n ?_
                refine aw_seq ?_
                refine aw_block ?_
                refine aw_seq ?_
                refine aw_draw 17 (by kernel_rfl) (by kernel_rfl) (by kernel_rfl) (by kernel_rfl) ?_
                refine ds_ro' (ro_move s8_16) trivial rfl ?_
                refine ds_ro' (ro_move (up_m rfl s11_16)) trivial rfl ?_
                first | (refine ds_ro' (ro_add' up_h ev_c ?_) trivial rfl ?_; · (unfold In64; omega)) | refine ds_ro' (ro_add up_h ev_c) trivial rfl ?_
                refine ds_ro' (ro_eq (ro_ix k8_sl22 (u2 rfl up_h) up_h (by first | decide | omega | (simp <;> omega)) (by first | (refine idx_map ?_; first | omega | (simp only [lnS]; omega)) | (refine idx_mapI ?_; first | omega | (simp only [lnS]; omega)) | (refine idx_mapN ?_; first | omega | (simp only [lnS]; omega)) | rfl)) (by first | (simp only [packA_t, packA_f, iE, bE, setAt, cellsA, Value.cells, map_vc, map_vn, Nat.reduceAdd, qS, one_iE, app_m] <;> rfl) | rfl)) trivial rfl ?_
                refine ds_ro' (ro_eq (ro_ld_ref k8_ty3 rfl up_h (by first | exact Nat.le_of_ble_eq_true rfl | omega | (simp only [lnS] <;> omega) | (simp <;> omega))) (by first | (simp only [packA_t, packA_f, iE, bE, setAt, cellsA, Value.cells, map_vc, map_vn, Nat.reduceAdd, qS, one_iE, app_m] <;> rfl) | rfl)) trivial rfl ?_
                refine ds_ro' (ro_move (up_m rfl (u4 rfl s10_16))) trivial rfl ?_
                refine ds_ro' (ro_move (u2 rfl (u4 rfl s10_16))) trivial rfl ?_
                refine ds_ro' (ro_eq (ro_len_own up_h mo_j10_15 rfl k8_sl22.1) (by first | (simp only [lnS] <;> rfl) | rfl)) trivial rfl ?_
                first | (refine ds_ro' (ro_sub' up_h ev_c ?_) trivial rfl ?_; · (unfold In64; omega)) | refine ds_ro' (ro_sub up_h ev_c) trivial rfl ?_
                refine ds_ro' (ro_ix_own k8_sl22 mo_j10_15 (up_m rfl (u2 rfl up_h)) up_h (by first | decide | omega | (simp <;> omega)) (by first | omega | (simp only [lnS] <;> omega) | (simp <;> omega))) trivial rfl ?_
                refine ds_ro' (ro_eq (ro_ld_el k8_ty3 rfl mo_j10_15 up_h (by first | exact Nat.le_of_ble_eq_true rfl | omega | (simp only [lnS] <;> omega) | (simp <;> omega)) (by first | (refine idx_map ?_; first | omega | (simp only [lnS]; omega)) | (refine idx_mapI ?_; first | omega | (simp only [lnS]; omega)) | (refine idx_mapN ?_; first | omega | (simp only [lnS]; omega)) | rfl)) (by first | (simp only [packA_t, packA_f, iE, bE, setAt, cellsA, Value.cells, map_vc, map_vn, Nat.reduceAdd, qS, one_iE, app_m] <;> rfl) | rfl)) trivial rfl ?_
                refine ds_ro' (ro_eq (ro_ld_ptr k8_ty107 rfl mo0_15 (up_m rfl (u2 rfl (u8 rfl s3_16))) (by first | exact Nat.le_of_ble_eq_true rfl | omega | (simp only [lnS] <;> omega) | (simp <;> omega))) (by first | (simp only [packA_t, packA_f, iE, bE, setAt, cellsA, Value.cells, map_vc, map_vn, Nat.reduceAdd, qS, one_iE, app_m] <;> rfl) | rfl)) trivial rfl ?_
                refine ds_ro' (ro_move (u4 rfl (u8 rfl s11_16))) trivial rfl ?_
                refine ds_ro' (ro_call (evL_cons (up_m rfl up_h) (evL_cons up_h evL_nil)) rfl (coasting_ok nm ps q1 b d v i (by omega) (by omega) (by omega)) k8_hcf90) trivial rfl ?_
                first | (refine ds_ro' (ro_sub' (up_m rfl (u2 rfl up_h)) up_h ?_) trivial rfl ?_; · (unfold In64; omega)) | refine ds_ro' (ro_sub (up_m rfl (u2 rfl up_h)) up_h) trivial rfl ?_
                refine ds_ro' (ro_min (u2 rfl (u8 rfl up_h)) up_h) trivial rfl ?_
                refine ds_ro' (ro_assign up_h) trivial rfl ?_
                refine ds_nil ?_
                refine al_end (fun e_18 he_18 => ?_)
                have s2_18 := ef 2 he_18 (up_m rfl (u16 rfl s2_16))
                have s3_18 := ef 3 he_18 (up_m rfl (u16 rfl s3_16))
                have s8_18 := ef 8 he_18 (up_m rfl (u16 rfl s8_16))
                have s10_18 := ef 10 he_18 (up_m rfl (u16 rfl s10_16))
                have s11_18 := ef 11 he_18 (up_m rfl (u16 rfl s11_16))
                have s12_18 := ef 12 he_18 up_h
                clear he_18 s10_16 s11_16 s2_16 s36_16 s3_16 s8_16
                refine then_n ?_
                refine aw_seq ?_
                refine aw_seq ?_
                refine aw_text (by kernel_rfl) ?_
                refine al_ro' (ro_move s12_18) trivial rfl ?_
                refine al_ro' (ro_lss up_h ev_c) trivial rfl ?_
                refine al_end (fun e_19 he_19 => ?_)
                have s2_19 := ef 2 he_19 (u2 rfl s2_18)
                have s3_19 := ef 3 he_19 (u2 rfl s3_18)
                have s8_19 := ef 8 he_19 (u2 rfl s8_18)
                have s10_19 := ef 10 he_19 (u2 rfl s10_18)
                have s11_19 := ef 11 he_19 (u2 rfl s11_18)
                have s12_19 := ef 12 he_19 (u2 rfl s12_18)
                have s56_19 := ef 56 he_19 up_h
                clear he_19 s10_18 s11_18 s12_18 s2_18 s3_18 s8_18
                refine then_n ?_
                refine aw_case s56_19 (fun hq_20 => ?_) (fun hq_20 => ?_)
                · (first | replace hq_20 := bnt hq_20 | replace hq_20 := bnf hq_20 | replace hq_20 := bt hq_20 | replace hq_20 := bf hq_20 | replace hq_20 := bt' hq_20 | replace hq_20 := bf' hq_20 | skip)
                  first
                  | (cases hq_20; done) | (exfalso; omega)
                  | (
                     refine aw_seq ?_
                     refine aw_text (by kernel_rfl) ?_
                     refine al_ro' (ro_assign ev_c) trivial rfl ?_
                     refine al_ro' (ro_assign ev_c) trivial rfl ?_
                     refine al_end (fun e_21 he_21 => ?_)
                     have s6_21 := ef 6 he_21 (up_m rfl up_h)
                     have s7_21 := ef 7 he_21 up_h
                     clear he_21 s10_19 s11_19 s12_19 s2_19 s3_19 s56_19 s8_19
                     refine then_n ?_
                     refine aw_ret ?_
                     refine then_r ?_
                     refine block_r ?_
                     refine then_r ?_
                     refine then_r ?_
                     refine block_r ?_
                     refine then_r ?_
                     refine ret2 (.inr rfl) (by kernel_rfl) (resV_tmp s6_21) (resV_tmp s7_21) (.nil 1) (.ro _ rfl) ?_
                     clear s6_21 s7_21 mo1_15 mo0_15 mo_j10_15 ml_15
                     (have hc : ¬ ((bwL ps b 0 (stop + 1).toNat).getD post.toNat default = -1 ∨ (bwL ps b 0 (stop + 1).toNat).getD post.toNat default < sq) := (by assumption); have hn := ‹min _ _ < (0 : Int)›; rw [hlast] at hn; rw [runW, if_neg hc, goL_stop (n := (stop - post).toNat) p3 (by omega) (by rw [hf]; exact hn)]; rfl))
                · (first | replace hq_20 := bnt hq_20 | replace hq_20 := bnf hq_20 | replace hq_20 := bt hq_20 | replace hq_20 := bf hq_20 | replace hq_20 := bt' hq_20 | replace hq_20 := bf' hq_20 | skip)
                  first
                  | (cases hq_20; done) | (exfalso; omega)
                  | (
                     (have hq_NEG := ‹¬ (min _ _ < (0 : Int))›)
                     refine aw_skip ?_
                     refine then_n ?_
                     refine aw_text (by kernel_rfl) ?_
                     refine al_ro' (ro_move s10_19) trivial rfl ?_
                     refine al_ro' (ro_move (up_m rfl s12_19)) trivial rfl ?_
                     refine al_ro' (ro_lit k8_sl22 (evP_cons up_h evP_nil) rfl rfl rfl rfl) trivial rfl ?_
                     refine al_stm (st_app k8_sl22 rfl ml_15 mo_j10_15 (u2 rfl up_h) up_h (by first | rfl | (simp [oneA]; done)) (by first | omega | (simp only [lnS] <;> omega) | (simp <;> omega))) trivial rfl (fun m_22 hm_22 => ?_)
                     have mon_15_22 := m_swap hm_22 ml_15
                     (try simp only [packA_t, packA_f, iE, bE, setAt, cellsA, Value.cells, map_vc, map_vn, Nat.reduceAdd, qS, one_iE, app_m] at mon_15_22)
                     have mo1_22 := m_swap_o hm_22 mo1_15 (by omega)
                     have mo0_22 := m_swap_o hm_22 mo0_15 (by omega)
                     have ml_22 := m_swap_l hm_22 ml_15
                     clear hm_22 mo1_15 mo0_15 mo_j10_15
                     refine al_ro' (ro_assign up_h) trivial rfl ?_
                     refine al_end (fun e_23 he_23 => ?_)
                     have s2_23 := ef 2 he_23 (up_m rfl (u4 rfl s2_19))
                     have s3_23 := ef 3 he_23 (up_m rfl (u4 rfl s3_19))
                     have s8_23 := ef 8 he_23 (up_m rfl (u4 rfl s8_19))
                     have s10_23 := ef 10 he_23 up_h
                     have s11_23 := ef 11 he_23 (up_m rfl (u4 rfl s11_19))
                     clear he_23 s10_19 s11_19 s12_19 s2_19 s3_19 s56_19 s8_19
                     refine block_n ?_
                     refine then_n ?_
                     refine aw_text (by kernel_rfl) ?_
                     refine al_ro' (ro_move s11_23) trivial rfl ?_
                     first | (refine al_ro' (ro_add' up_h ev_c ?_) trivial rfl ?_; · (unfold In64; omega)) | refine al_ro' (ro_add up_h ev_c) trivial rfl ?_
                     refine al_ro' (ro_assign up_h) trivial rfl ?_
                     refine al_end (fun e_24 he_24 => ?_)
                     have s2_24 := ef 2 he_24 (up_m rfl (u2 rfl s2_23))
                     have s3_24 := ef 3 he_24 (up_m rfl (u2 rfl s3_23))
                     have s8_24 := ef 8 he_24 (up_m rfl (u2 rfl s8_23))
                     have s10_24 := ef 10 he_24 (up_m rfl (u2 rfl s10_23))
                     have s11_24 := ef 11 he_24 up_h
                     clear he_24 s10_23 s11_23 s2_23 s3_23 s8_23
                     refine then_n ?_
                     refine ⟨⟨_, _⟩, ⟨s11_24, (s2_24.trans s2_14.symm), (s3_24.trans s3_14.symm), (s8_24.trans s8_14.symm), (mo1_22.trans mo1_12.symm), (mo0_22.trans mo0_12.symm), ⟨_, s10_24, mon_15_22, (by omega), (by omega)⟩, ⟨_, ml_22, by omega⟩, ?_⟩, ?_⟩
                     · (have hn := hq_NEG; rw [hlast] at hn; have hst := goL_step p3 (by rw [hf]; exact hn); rw [hf] at hst; rw [hlast]; refine ⟨by omega, by omega, ?_, ?_⟩; (rw [show (i + 1 - post).toNat = (i - post).toNat + 1 by omega]; exact hst); (rw [show (i + 1 - post).toNat = (i - post).toNat + 1 by omega, getD_snoc (by omega)]; omega))
                     · ((try dsimp only); omega)))
           · (first | replace hq_17 := bnt hq_17 | replace hq_17 := bnf hq_17 | replace hq_17 := bt hq_17 | replace hq_17 := bf hq_17 | replace hq_17 := bt' hq_17 | replace hq_17 := bf' hq_17 | skip)
             first
             | (cases hq_17; done) | (exfalso; omega)
             | (
                refine aw_exit ?_
                refine then_x ?_
                refine then_x ?_
                refine block_hit ?_
                refine then_n ?_
                refine aw_seq ?_
                refine aw_text (by kernel_rfl) ?_
                refine al_ro' (ro_move s10_16) trivial rfl ?_
                refine al_ro' (ro_assign up_h) trivial rfl ?_
                refine al_ro' (ro_assign ev_c) trivial rfl ?_
                refine al_end (fun e_25 he_25 => ?_)
                have s6_25 := ef 6 he_25 (up_m rfl up_h)
                have s7_25 := ef 7 he_25 up_h
                clear he_25 s10_16 s11_16 s2_16 s36_16 s3_16 s8_16
                refine then_n ?_
                refine aw_ret ?_
                refine ret2 (.inr rfl) (by kernel_rfl) (resV_tmp s6_25) (resV_tmp s7_25) (.own _ _ _ _ mo_j10_15) (.ro _ rfl) ?_
                clear s6_25 s7_25 mo1_15 mo0_15 mo_j10_15 ml_15
                (have hc : ¬ ((bwL ps b 0 (stop + 1).toNat).getD post.toNat default = -1 ∨ (bwL ps b 0 (stop + 1).toNat).getD post.toNat default < sq) := (by assumption); have hi : i = stop := (by omega); rw [hi] at p3; rw [runW, if_neg hc, p3])))
def runE (nm : ByteArray) (ps : List Piece) (b d v post sq stop : Int) : Int := firstE [firstE [(chk nm ps).2, sysE b d v], stateE ps post sq, stopE ps stop, unlessE (decide (post ≤ stop)) 9]
theorem runE_right {nm : ByteArray} {ps : List Piece} {b d v post sq stop : Int} (h : runE nm ps b d v post sq stop = 0) : trackR ps ∧ sysR b d v ∧ (0 ≤ post ∧ post ≤ ps.length) ∧ (0 ≤ sq ∧ sq ≤ 20000000000) ∧ (0 ≤ stop ∧ stop < ps.length ∧ (ps.getD stop.toNat default).leave = true) ∧ post ≤ stop := by
  obtain ⟨h1, h2, h3⟩ := ride_right h
  obtain ⟨h4, h5⟩ := firstE_cons h3
  obtain ⟨h6, h7⟩ := firstE_cons h5
  obtain ⟨h8, h9⟩ := firstE_cons h4
  have a1 := unlessE_zero h8 (by decide)
  have a2 := unlessE_zero (firstE_cons h9).1 (by decide)
  have a3 := unlessE_zero (firstE_cons h7).1 (by decide)
  simp only [withinB, Bool.and_eq_true, decide_eq_true_eq] at a1 a2 a3
  exact ⟨h1, h2, a1, a2, stop_right h6, a3⟩
section
variable (nm : ByteArray) (ps : List Piece) (hs : nm.size ≤ 1000000000) (hp : ps.length ≤ 1000000000) (b d v post sq stop : Int)
include hs hp
set_option maxRecDepth 100000 in
set_option maxHeartbeats 1000000 in
theorem openRun_ok : FnOk Try.prog 72 [trA nm ps, syA b d v, .agg [iA post, iA sq], iA stop] (fun q => q = .tuple [riA nm ps b d v, iA (runE nm ps b d v post sq stop)]) := by
  refine fnOk_of (fn := Try.f72) 33 (by kernel_rfl) rfl (by kernel_rfl) (Nat.le_of_ble_eq_true rfl) ?_
  intro e_0 m_0 hA hm_0
  have s0_0 : evA e_0 (.tmp 0) = _ := hA 0 _ rfl
  have s1_0 : evA e_0 (.tmp 1) = _ := hA 1 _ rfl
  have s2_0 : evA e_0 (.tmp 2) = _ := hA 2 _ rfl
  have s3_0 : evA e_0 (.tmp 3) = _ := hA 3 _ rfl
  have ml_0 : m_0.length = 0 := by rw [hm_0]; rfl
  clear hA hm_0
  refine aw_seq ?_
  refine aw_text (by kernel_rfl) ?_
  refine al_stm (st_box s0_0 rfl ml_0) trivial rfl (fun m_1 hm_1 => ?_)
  have mo0_1 := m_push hm_1 ml_0
  (try simp only [packA_t, packA_f, iE, bE, setAt, cellsA, Value.cells, map_vc, map_vn, Nat.reduceAdd, qS] at mo0_1)
  have ml_1 := m_push_l hm_1 ml_0
  have ml_1 : _ = 1 := ml_1
  clear hm_1
  refine al_stm (st_box (up_m rfl s1_0) rfl ml_1) trivial rfl (fun m_2 hm_2 => ?_)
  have mo1_2 := m_push hm_2 ml_1
  (try simp only [packA_t, packA_f, iE, bE, setAt, cellsA, Value.cells, map_vc, map_vn, Nat.reduceAdd, qS] at mo1_2)
  have mo0_2 := m_push_o hm_2 mo0_1
  have ml_2 := m_push_l hm_2 ml_1
  have ml_2 : _ = 2 := ml_2
  clear hm_2 mo0_1
  refine al_stm (st_box (u2 rfl s2_0) rfl ml_2) trivial rfl (fun m_3 hm_3 => ?_)
  have mo2_3 := m_push hm_3 ml_2
  (try simp only [packA_t, packA_f, iE, bE, setAt, cellsA, Value.cells, map_vc, map_vn, Nat.reduceAdd, qS] at mo2_3)
  have mo1_3 := m_push_o hm_3 mo1_2
  have mo0_3 := m_push_o hm_3 mo0_2
  have ml_3 := m_push_l hm_3 ml_2
  have ml_3 : _ = 3 := ml_3
  clear hm_3 mo1_2 mo0_2
  refine al_stm (st_alloc k8_az107 rfl ml_3) trivial rfl (fun m_4 hm_4 => ?_)
  have mo3_4 := m_push hm_4 ml_3
  (try simp only [packA_t, packA_f, iE, bE, setAt, cellsA, Value.cells, map_vc, map_vn, Nat.reduceAdd, qS] at mo3_4)
  have mo2_4 := m_push_o hm_4 mo2_3
  have mo1_4 := m_push_o hm_4 mo1_3
  have mo0_4 := m_push_o hm_4 mo0_3
  have ml_4 := m_push_l hm_4 ml_3
  have ml_4 : _ = 4 := ml_4
  clear hm_4 mo2_3 mo1_3 mo0_3
  refine al_ro' (ro_assign ev_c) trivial rfl ?_
  refine al_end (fun e_5 he_5 => ?_)
  have s3_5 := ef 3 he_5 (up_m rfl (u4 rfl s3_0))
  have s4_5 := ef 4 he_5 (u4 rfl up_h)
  have s5_5 := ef 5 he_5 (up_m rfl (u2 rfl up_h))
  have s6_5 := ef 6 he_5 (u2 rfl up_h)
  have s8_5 := ef 8 he_5 (up_m rfl up_h)
  clear he_5 s0_0 s1_0 s2_0 s3_0
  refine then_n ?_
  refine aw_seq ?_
  refine aw_text (by kernel_rfl) ?_
  refine al_ro' (ro_eq (ro_ld_ptr k8_ty51 rfl mo0_4 s4_5 (by first | exact Nat.le_of_ble_eq_true rfl | omega | (simp only [lnS] <;> omega) | (simp <;> omega))) (by first | (simp only [packA_t, packA_f, iE, bE, setAt, cellsA, Value.cells, map_vc, map_vn, Nat.reduceAdd, qS] <;> rfl) | rfl)) trivial rfl ?_
  refine al_ro' (ro_eq (ro_ld_ptr k8_ty53 rfl mo1_4 (up_m rfl s5_5) (by first | exact Nat.le_of_ble_eq_true rfl | omega | (simp only [lnS] <;> omega) | (simp <;> omega))) (by first | (simp only [packA_t, packA_f, iE, bE, setAt, cellsA, Value.cells, map_vc, map_vn, Nat.reduceAdd, qS] <;> rfl) | rfl)) trivial rfl ?_
  refine al_ro' (ro_call (evL_cons (up_m rfl up_h) (evL_cons up_h evL_nil)) rfl (openRide_ok nm ps hs hp b d v) k8_hcf55) trivial rfl ?_
  refine al_ro' (ro_move up_h) trivial rfl ?_
  refine al_ro' (ro_extract up_h rfl) trivial rfl ?_
  refine al_ro' (ro_extract (up_m rfl up_h) rfl) trivial rfl ?_
  refine al_stm (st_alloc k8_az107 rfl ml_4) trivial rfl (fun m_6 hm_6 => ?_)
  have mo4_6 := m_push hm_6 ml_4
  (try simp only [packA_t, packA_f, iE, bE, setAt, cellsA, Value.cells, map_vc, map_vn, Nat.reduceAdd, qS] at mo4_6)
  have mo3_6 := m_push_o hm_6 mo3_4
  have mo2_6 := m_push_o hm_6 mo2_4
  have mo1_6 := m_push_o hm_6 mo1_4
  have mo0_6 := m_push_o hm_6 mo0_4
  have ml_6 := m_push_l hm_6 ml_4
  have ml_6 : _ = 5 := ml_6
  clear hm_6 mo3_4 mo2_4 mo1_4 mo0_4
  refine al_stm (st_store up_h (u2 rfl up_h) rfl rfl mo4_6 k8_sz107 rfl (by first | exact Nat.le_of_ble_eq_true rfl | omega | (simp only [lnS] <;> omega) | (simp <;> omega))) trivial rfl (fun m_7 hm_7 => ?_)
  have mo4_7 := m_set hm_7 mo4_6
  (try simp only [packA_t, packA_f, iE, bE, setAt, cellsA, Value.cells, map_vc, map_vn, Nat.reduceAdd, qS] at mo4_7)
  have mo3_7 := m_set_o hm_7 mo3_6 (by decide)
  have mo2_7 := m_set_o hm_7 mo2_6 (by decide)
  have mo1_7 := m_set_o hm_7 mo1_6 (by decide)
  have mo0_7 := m_set_o hm_7 mo0_6 (by decide)
  have ml_7 := m_set_l hm_7 ml_6
  clear hm_7 mo4_6 mo3_6 mo2_6 mo1_6 mo0_6
  refine al_ro' (ro_assign (up_n (up_m rfl up_h))) trivial rfl ?_
  refine al_end (fun e_8 he_8 => ?_)
  have s3_8 := ef 3 he_8 (up_m rfl (up_n (up_m rfl (u2 rfl (u4 rfl s3_5)))))
  have s6_8 := ef 6 he_8 (up_m rfl (up_n (up_m rfl (u2 rfl (u4 rfl s6_5)))))
  have s8_8 := ef 8 he_8 (up_m rfl (up_n (up_m rfl (u2 rfl (u4 rfl s8_5)))))
  have s10_8 := ef 10 he_8 (up_m rfl (up_n up_h))
  have s11_8 := ef 11 he_8 up_h
  clear he_8 s3_5 s4_5 s5_5 s6_5 s8_5
  refine then_n ?_
  refine aw_seq ?_
  refine aw_draw 15 (by kernel_rfl) (by kernel_rfl) (by kernel_rfl) (by kernel_rfl) ?_
  refine ds_ro' (ro_eq (ro_ld_ptr k8_ty107 rfl mo4_7 s10_8 (by first | exact Nat.le_of_ble_eq_true rfl | omega | (simp only [lnS] <;> omega) | (simp <;> omega))) (by first | (simp only [packA_t, packA_f, iE, bE, setAt, cellsA, Value.cells, map_vc, map_vn, Nat.reduceAdd, qS] <;> rfl) | rfl)) trivial rfl ?_
  refine ds_ro' (ro_move (up_m rfl s11_8)) trivial rfl ?_
  refine ds_ro' (ro_eq (ro_ld_ptr k8_ty107 rfl mo4_7 (u2 rfl s10_8) (by first | exact Nat.le_of_ble_eq_true rfl | omega | (simp only [lnS] <;> omega) | (simp <;> omega))) (by first | (simp only [packA_t, packA_f, iE, bE, setAt, cellsA, Value.cells, map_vc, map_vn, Nat.reduceAdd, qS] <;> rfl) | rfl)) trivial rfl ?_
  refine ds_ro' (ro_eq (ro_ld_ptr k8_ty68 rfl mo2_7 (up_m rfl (u2 rfl s6_8)) (by first | exact Nat.le_of_ble_eq_true rfl | omega | (simp only [lnS] <;> omega) | (simp <;> omega))) (by first | (simp only [packA_t, packA_f, iE, bE, setAt, cellsA, Value.cells, map_vc, map_vn, Nat.reduceAdd, qS] <;> rfl) | rfl)) trivial rfl ?_
  refine ds_ro' (ro_call (evL_cons (up_m rfl up_h) (evL_cons up_h evL_nil)) rfl (stateErr_ok nm ps hp b d v post sq) k8_hcf78) trivial rfl ?_
  refine ds_ro' (ro_eq (ro_ld_ptr k8_ty107 rfl mo4_7 (up_m rfl (u4 rfl s10_8)) (by first | exact Nat.le_of_ble_eq_true rfl | omega | (simp only [lnS] <;> omega) | (simp <;> omega))) (by first | (simp only [packA_t, packA_f, iE, bE, setAt, cellsA, Value.cells, map_vc, map_vn, Nat.reduceAdd, qS] <;> rfl) | rfl)) trivial rfl ?_
  refine ds_ro' (ro_move (u2 rfl (u4 rfl s3_8))) trivial rfl ?_
  refine ds_ro' (ro_call (evL_cons (up_m rfl up_h) (evL_cons up_h evL_nil)) rfl (stopErr_ok nm ps hp b d v stop) k8_hcf70) trivial rfl ?_
  refine ds_ro' (ro_fld_ptr k8_fl68_0 rfl (u8 rfl s6_8)) trivial rfl ?_
  refine ds_ro' (ro_eq (ro_ld_ptr k8_ty3 rfl mo2_7 up_h (by first | exact Nat.le_of_ble_eq_true rfl | omega | (simp only [lnS] <;> omega) | (simp <;> omega))) (by first | (simp only [packA_t, packA_f, iE, bE, setAt, cellsA, Value.cells, map_vc, map_vn, Nat.reduceAdd, qS] <;> rfl) | rfl)) trivial rfl ?_
  refine ds_ro' (ro_move (u2 rfl (u8 rfl s3_8))) trivial rfl ?_
  refine ds_ro' (ro_leq (up_m rfl up_h) up_h) trivial rfl ?_
  refine ds_ro' (ro_call (evL_cons up_h (evL_cons ev_c evL_nil)) rfl (unless_ok _ _) k8_hcf57) trivial rfl ?_
  refine ds_ro' (ro_lit k8_sl126 (evP_cons (up_m rfl (u2 rfl (u8 rfl up_h))) (evP_cons (u8 rfl up_h) (evP_cons (up_m rfl (u4 rfl up_h)) (evP_cons up_h evP_nil)))) rfl rfl rfl rfl) trivial rfl ?_
  refine ds_ro' (ro_call (evL_cons up_h evL_nil) rfl (first_ok [_, _, _, _] (by simp)) k8_hcf56) trivial rfl ?_
  refine ds_nil ?_
  refine al_stm (st_store (up_m rfl (u2 rfl (u4 rfl (u8 rfl s8_8)))) (u2 rfl (u4 rfl (u8 rfl up_h))) rfl rfl mo3_7 k8_sz107 rfl (by first | exact Nat.le_of_ble_eq_true rfl | omega | (simp only [lnS] <;> omega) | (simp <;> omega))) trivial rfl (fun m_9 hm_9 => ?_)
  have mo3_9 := m_set hm_9 mo3_7
  (try simp only [packA_t, packA_f, iE, bE, setAt, cellsA, Value.cells, map_vc, map_vn, Nat.reduceAdd, qS] at mo3_9)
  have mo4_9 := m_set_o hm_9 mo4_7 (by decide)
  have mo2_9 := m_set_o hm_9 mo2_7 (by decide)
  have mo1_9 := m_set_o hm_9 mo1_7 (by decide)
  have mo0_9 := m_set_o hm_9 mo0_7 (by decide)
  have ml_9 := m_set_l hm_9 ml_7
  clear hm_9 mo4_7 mo3_7 mo2_7 mo1_7 mo0_7
  refine al_ro' (ro_assign (up_n up_h)) trivial rfl ?_
  refine al_end (fun e_10 he_10 => ?_)
  have s8_10 := ef 8 he_10 (up_m rfl (up_n (up_m rfl (u2 rfl (u4 rfl (u8 rfl s8_8))))))
  have s9_10 := ef 9 he_10 up_h
  clear he_10 s10_8 s11_8 s3_8 s6_8 s8_8
  refine then_n ?_
  refine aw_ret ?_
  refine ret2 (.inr rfl) (by kernel_rfl) (resV_cell s8_10 mo3_9 k8_ty107 (by first | exact Nat.le_of_ble_eq_true rfl | omega | (simp only [lnS] <;> omega) | (simp <;> omega)) (by simp)) (resV_tmp s9_10) (vw_r (.ro _ rfl)) (.ro _ rfl) ?_
  clear s8_10 s9_10 mo3_9 mo4_9 mo2_9 mo1_9 mo0_9 ml_9
  rfl
set_option maxRecDepth 100000 in
set_option maxHeartbeats 1000000 in
theorem runTo_ok : FnOk Try.prog 36 [trA nm ps, syA b d v, .agg [iA post, iA sq], iA stop] (fun q => q = .tuple [.row 1 ((if runE nm ps b d v post sq stop = 0 then (runW ps b d stop post sq).1 else []).map iE), iA (if runE nm ps b d v post sq stop = 0 then (runW ps b d stop post sq).2 else runE nm ps b d v post sq stop)]) := by
  refine fnOk_of (fn := Try.f36) 29 (by kernel_rfl) rfl (by kernel_rfl) (Nat.le_of_ble_eq_true rfl) ?_
  intro e_0 m_0 hA hm_0
  have s0_0 : evA e_0 (.tmp 0) = _ := hA 0 _ rfl
  have s1_0 : evA e_0 (.tmp 1) = _ := hA 1 _ rfl
  have s2_0 : evA e_0 (.tmp 2) = _ := hA 2 _ rfl
  have s3_0 : evA e_0 (.tmp 3) = _ := hA 3 _ rfl
  have ml_0 : m_0.length = 0 := by rw [hm_0]; rfl
  clear hA hm_0
  refine aw_seq ?_
  refine aw_text (by kernel_rfl) ?_
  refine al_stm (st_box s0_0 rfl ml_0) trivial rfl (fun m_1 hm_1 => ?_)
  have mo0_1 := m_push hm_1 ml_0
  (try simp only [packA_t, packA_f, iE, bE, setAt, cellsA, Value.cells, map_vc, map_vn, Nat.reduceAdd, qS] at mo0_1)
  have ml_1 := m_push_l hm_1 ml_0
  have ml_1 : _ = 1 := ml_1
  clear hm_1
  refine al_stm (st_box (up_m rfl s1_0) rfl ml_1) trivial rfl (fun m_2 hm_2 => ?_)
  have mo1_2 := m_push hm_2 ml_1
  (try simp only [packA_t, packA_f, iE, bE, setAt, cellsA, Value.cells, map_vc, map_vn, Nat.reduceAdd, qS] at mo1_2)
  have mo0_2 := m_push_o hm_2 mo0_1
  have ml_2 := m_push_l hm_2 ml_1
  have ml_2 : _ = 2 := ml_2
  clear hm_2 mo0_1
  refine al_stm (st_box (u2 rfl s2_0) rfl ml_2) trivial rfl (fun m_3 hm_3 => ?_)
  have mo2_3 := m_push hm_3 ml_2
  (try simp only [packA_t, packA_f, iE, bE, setAt, cellsA, Value.cells, map_vc, map_vn, Nat.reduceAdd, qS] at mo2_3)
  have mo1_3 := m_push_o hm_3 mo1_2
  have mo0_3 := m_push_o hm_3 mo0_2
  have ml_3 := m_push_l hm_3 ml_2
  have ml_3 : _ = 3 := ml_3
  clear hm_3 mo1_2 mo0_2
  refine al_ro' (ro_assign ev_c) trivial rfl ?_
  refine al_ro' (ro_assign ev_c) trivial rfl ?_
  refine al_end (fun e_4 he_4 => ?_)
  have s3_4 := ef 3 he_4 (up_m rfl (u4 rfl s3_0))
  have s4_4 := ef 4 he_4 (u4 rfl up_h)
  have s5_4 := ef 5 he_4 (up_m rfl (u2 rfl up_h))
  have s6_4 := ef 6 he_4 (u2 rfl up_h)
  clear he_4 s0_0 s1_0 s2_0 s3_0
  refine then_n ?_
  refine aw_seq ?_
  refine aw_text (by kernel_rfl) ?_
  refine al_ro' (ro_eq (ro_ld_ptr k8_ty51 rfl mo0_3 s4_4 (by first | exact Nat.le_of_ble_eq_true rfl | omega | (simp only [lnS] <;> omega) | (simp <;> omega))) (by first | (simp only [packA_t, packA_f, iE, bE, setAt, cellsA, Value.cells, map_vc, map_vn, Nat.reduceAdd, qS] <;> rfl) | rfl)) trivial rfl ?_
  refine al_ro' (ro_eq (ro_ld_ptr k8_ty53 rfl mo1_3 (up_m rfl s5_4) (by first | exact Nat.le_of_ble_eq_true rfl | omega | (simp only [lnS] <;> omega) | (simp <;> omega))) (by first | (simp only [packA_t, packA_f, iE, bE, setAt, cellsA, Value.cells, map_vc, map_vn, Nat.reduceAdd, qS] <;> rfl) | rfl)) trivial rfl ?_
  refine al_ro' (ro_eq (ro_ld_ptr k8_ty68 rfl mo2_3 (u2 rfl s6_4) (by first | exact Nat.le_of_ble_eq_true rfl | omega | (simp only [lnS] <;> omega) | (simp <;> omega))) (by first | (simp only [packA_t, packA_f, iE, bE, setAt, cellsA, Value.cells, map_vc, map_vn, Nat.reduceAdd, qS] <;> rfl) | rfl)) trivial rfl ?_
  refine al_ro' (ro_move (up_m rfl (u2 rfl s3_4))) trivial rfl ?_
  refine al_ro' (ro_call (evL_cons (up_m rfl (u2 rfl up_h)) (evL_cons (u2 rfl up_h) (evL_cons (up_m rfl up_h) (evL_cons up_h evL_nil)))) rfl (openRun_ok nm ps hs hp b d v post sq stop) k8_hcf72) trivial rfl ?_
  refine al_ro' (ro_move up_h) trivial rfl ?_
  refine al_ro' (ro_extract up_h rfl) trivial rfl ?_
  refine al_ro' (ro_extract (up_m rfl up_h) rfl) trivial rfl ?_
  refine al_stm (st_alloc k8_az107 rfl ml_3) trivial rfl (fun m_5 hm_5 => ?_)
  have mo3_5 := m_push hm_5 ml_3
  (try simp only [packA_t, packA_f, iE, bE, setAt, cellsA, Value.cells, map_vc, map_vn, Nat.reduceAdd, qS] at mo3_5)
  have mo2_5 := m_push_o hm_5 mo2_3
  have mo1_5 := m_push_o hm_5 mo1_3
  have mo0_5 := m_push_o hm_5 mo0_3
  have ml_5 := m_push_l hm_5 ml_3
  have ml_5 : _ = 4 := ml_5
  clear hm_5 mo2_3 mo1_3 mo0_3
  refine al_stm (st_store up_h (u2 rfl up_h) rfl rfl mo3_5 k8_sz107 rfl (by first | exact Nat.le_of_ble_eq_true rfl | omega | (simp only [lnS] <;> omega) | (simp <;> omega))) trivial rfl (fun m_6 hm_6 => ?_)
  have mo3_6 := m_set hm_6 mo3_5
  (try simp only [packA_t, packA_f, iE, bE, setAt, cellsA, Value.cells, map_vc, map_vn, Nat.reduceAdd, qS] at mo3_6)
  have mo2_6 := m_set_o hm_6 mo2_5 (by decide)
  have mo1_6 := m_set_o hm_6 mo1_5 (by decide)
  have mo0_6 := m_set_o hm_6 mo0_5 (by decide)
  have ml_6 := m_set_l hm_6 ml_5
  clear hm_6 mo3_5 mo2_5 mo1_5 mo0_5
  refine al_ro' (ro_assign (up_n (up_m rfl up_h))) trivial rfl ?_
  refine al_end (fun e_7 he_7 => ?_)
  have s3_7 := ef 3 he_7 (up_m rfl (up_n (up_m rfl (u8 rfl s3_4))))
  have s6_7 := ef 6 he_7 (up_m rfl (up_n (up_m rfl (u8 rfl s6_4))))
  have s10_7 := ef 10 he_7 (up_m rfl (up_n up_h))
  have s11_7 := ef 11 he_7 up_h
  clear he_7 s3_4 s4_4 s5_4 s6_4
  refine then_n ?_
  refine aw_seq ?_
  refine aw_seq ?_
  refine aw_text (by kernel_rfl) ?_
  refine al_ro' (ro_move s11_7) trivial rfl ?_
  refine al_ro' (ro_neq up_h ev_c) trivial rfl ?_
  refine al_end (fun e_8 he_8 => ?_)
  have s3_8 := ef 3 he_8 (u2 rfl s3_7)
  have s6_8 := ef 6 he_8 (u2 rfl s6_7)
  have s10_8 := ef 10 he_8 (u2 rfl s10_7)
  have s11_8 := ef 11 he_8 (u2 rfl s11_7)
  have s21_8 := ef 21 he_8 up_h
  clear he_8 s10_7 s11_7 s3_7 s6_7
  refine then_n ?_
  refine aw_case s21_8 (fun hq_9 => ?_) (fun hq_9 => ?_)
  · (first | replace hq_9 := bnt hq_9 | replace hq_9 := bnf hq_9 | replace hq_9 := bt hq_9 | replace hq_9 := bf hq_9 | replace hq_9 := bt' hq_9 | replace hq_9 := bf' hq_9 | skip)
    first
    | (cases hq_9; done) | (exfalso; omega)
    | (
       refine aw_seq ?_
       refine aw_text (by kernel_rfl) ?_
       refine al_ro' (ro_move s11_8) trivial rfl ?_
       refine al_ro' (ro_assign ev_c) trivial rfl ?_
       refine al_ro' (ro_assign (up_m rfl up_h)) trivial rfl ?_
       refine al_end (fun e_10 he_10 => ?_)
       have s8_10 := ef 8 he_10 (up_m rfl up_h)
       have s9_10 := ef 9 he_10 up_h
       clear he_10 s10_8 s11_8 s21_8 s3_8 s6_8
       refine then_n ?_
       refine aw_ret ?_
       refine then_r ?_
       refine ret2 (.inr rfl) (by kernel_rfl) (resV_tmp s8_10) (resV_tmp s9_10) (.nil 1) (.ro _ rfl) ?_
       clear s8_10 s9_10 mo3_6 mo2_6 mo1_6 mo0_6 ml_6
       (have hq : ¬ runE nm ps b d v post sq stop = 0 := (by assumption); rw [if_neg hq, if_neg hq]; rfl))
  · (first | replace hq_9 := bnt hq_9 | replace hq_9 := bnf hq_9 | replace hq_9 := bt hq_9 | replace hq_9 := bf hq_9 | replace hq_9 := bt' hq_9 | replace hq_9 := bf' hq_9 | skip)
    first
    | (cases hq_9; done) | (exfalso; omega)
    | (
       (have hq : runE nm ps b d v post sq stop = 0 := (by assumption); have hR := runE_right hq)
       refine aw_skip ?_
       refine then_n ?_
       refine aw_seq ?_
       refine aw_text (by kernel_rfl) ?_
       refine al_ro' (ro_eq (ro_ld_ptr k8_ty107 rfl mo3_6 s10_8 (by first | exact Nat.le_of_ble_eq_true rfl | omega | (simp only [lnS] <;> omega) | (simp <;> omega))) (by first | (simp only [packA_t, packA_f, iE, bE, setAt, cellsA, Value.cells, map_vc, map_vn, Nat.reduceAdd, qS] <;> rfl) | rfl)) trivial rfl ?_
       refine al_ro' (ro_eq (ro_ld_ptr k8_ty68 rfl mo2_6 (up_m rfl s6_8) (by first | exact Nat.le_of_ble_eq_true rfl | omega | (simp only [lnS] <;> omega) | (simp <;> omega))) (by first | (simp only [packA_t, packA_f, iE, bE, setAt, cellsA, Value.cells, map_vc, map_vn, Nat.reduceAdd, qS] <;> rfl) | rfl)) trivial rfl ?_
       refine al_ro' (ro_move (u2 rfl s3_8)) trivial rfl ?_
       refine al_ro' (ro_call (evL_cons (u2 rfl up_h) (evL_cons (up_m rfl up_h) (evL_cons up_h evL_nil))) rfl (run_ok nm ps hR.1 b d v hR.2.1 post sq stop hR.2.2.1.1 hR.2.2.2.2.2 hR.2.2.2.2.1.2.1 hR.2.2.2.1) k8_hcf73) trivial rfl ?_
       refine al_ro' (ro_extract up_h rfl) trivial rfl ?_
       refine al_ro' (ro_extract (up_m rfl up_h) rfl) trivial rfl ?_
       refine al_ro' (ro_assign (up_m rfl up_h)) trivial rfl ?_
       refine al_ro' (ro_assign (up_m rfl up_h)) trivial rfl ?_
       refine al_end (fun e_11 he_11 => ?_)
       have s8_11 := ef 8 he_11 (up_m rfl up_h)
       have s9_11 := ef 9 he_11 up_h
       clear he_11 s10_8 s11_8 s21_8 s3_8 s6_8
       refine then_n ?_
       refine aw_ret ?_
       refine ret2 (.inr rfl) (by kernel_rfl) (resV_tmp s8_11) (resV_tmp s9_11) (.ro _ rfl) (.ro _ rfl) ?_
       clear s8_11 s9_11 mo3_6 mo2_6 mo1_6 mo0_6 ml_6
       (rw [if_pos hq, if_pos hq]))
end
end Go.Proofs.Ytgiiedpambimoaa
