/- Contracts of chapter 4: remainders joined; the only place. No conditions on a program. -/
import Derived.Test.YtgiiedpambimoaaQ6
namespace Go.Proofs.Ytgiiedpambimoaa
open Go Go.RowKit Go.Proofs
set_option linter.unusedSimpArgs false
set_option linter.unusedVariables false
theorem q7_az32 : (Try.prog.info? 32).bind (·.zero) = some (.agg #[.int .i64 0, .int .i64 0]) := by kernel_rfl
theorem q7_az42 : (Try.prog.info? 42).bind (·.zero) = some (.agg #[.int .i64 0, .int .i64 0]) := by kernel_rfl
theorem q7_bz32 : (Try.prog.info? 32).bind (·.zero) = some (.agg #[.int .i64 0, .int .i64 0]) := by kernel_rfl
theorem q7_bu32 : Try.prog.underlying 32 = some (.struct (fsOf Try.prog 32)) := by kernel_rfl
theorem q7_bp32 : ∀ w, ((fsOf Try.prog 32).mapM fun f => Prod.mk f.offset <$> sizeOf f.type : Sem (Array (Nat × Nat))).run Try.prog w = .ok (#[(0, 1), (1, 1)]) w := fun _ => by kernel_rfl
theorem q7_fl32_0 : FldIs Try.prog 32 0 0 false 1 := by unfold FldIs; kernel_rfl
theorem q7_fl32_1 : FldIs Try.prog 32 1 1 false 1 := by unfold FldIs; kernel_rfl
theorem q7_hcf40 : ∀ args w, (callFunc 40 args).run Try.prog w = .ok (.enter 40 args) w := fun _ _ => by kernel_rfl
theorem q7_hcf41 : ∀ args w, (callFunc 41 args).run Try.prog w = .ok (.enter 41 args) w := fun _ _ => by kernel_rfl
theorem q7_hcf42 : ∀ args w, (callFunc 42 args).run Try.prog w = .ok (.enter 42 args) w := fun _ _ => by kernel_rfl
theorem q7_hcf43 : ∀ args w, (callFunc 43 args).run Try.prog w = .ok (.enter 43 args) w := fun _ _ => by kernel_rfl
theorem q7_hcf49 : ∀ args w, (callFunc 49 args).run Try.prog w = .ok (.enter 49 args) w := fun _ _ => by kernel_rfl
theorem q7_hcf50 : ∀ args w, (callFunc 50 args).run Try.prog w = .ok (.enter 50 args) w := fun _ _ => by kernel_rfl
theorem q7_sl126 : SlIs Try.prog 126 33 1 8 (.int .i64 0) := ⟨by kernel_rfl, by kernel_rfl, by kernel_rfl⟩
theorem q7_sl29 : SlIs Try.prog 29 32 2 16 (.agg #[.int .i64 0, .int .i64 0]) := ⟨by kernel_rfl, by kernel_rfl, by kernel_rfl⟩
theorem q7_sl97 : SlIs Try.prog 97 42 2 16 (.agg #[.int .i64 0, .int .i64 0]) := ⟨by kernel_rfl, by kernel_rfl, by kernel_rfl⟩
theorem q7_sz3 : (Try.prog.info? 3).map (·.size) = some 1 := by kernel_rfl
theorem q7_sz32 : (Try.prog.info? 32).map (·.size) = some 2 := by kernel_rfl
theorem q7_sz42 : (Try.prog.info? 42).map (·.size) = some 2 := by kernel_rfl
theorem q7_ty24 : TyIs Try.prog 24 true 9 := ⟨by kernel_rfl, by kernel_rfl⟩
theorem q7_ty3 : TyIs Try.prog 3 false 1 := ⟨by kernel_rfl, by kernel_rfl⟩
theorem q7_ty32 : TyIs Try.prog 32 true 2 := ⟨by kernel_rfl, by kernel_rfl⟩
theorem q7_ty42 : TyIs Try.prog 42 true 2 := ⟨by kernel_rfl, by kernel_rfl⟩
theorem q7_ty46 : TyIs Try.prog 46 true 2 := ⟨by kernel_rfl, by kernel_rfl⟩

theorem tdivQ {x y : Int} (hx : 0 ≤ x) (hy : 1 ≤ y) : 0 ≤ x.tdiv y ∧ x.tdiv y ≤ x := by
  rw [Int.tdiv_eq_ediv_of_nonneg hx]
  exact ⟨Int.ediv_nonneg hx (by omega), Int.ediv_le_self _ hx⟩
theorem div_gcd {M m : Int} (hM : 0 < M ∧ M ≤ 1000000000) (hm : 1 ≤ m ∧ m ≤ 1000) : (1 ≤ ((Nat.gcd M.toNat m.toNat : Nat) : Int) ∧ ((Nat.gcd M.toNat m.toNat : Nat) : Int) ≤ 1000) ∧ 0 ≤ m.tdiv (Nat.gcd M.toNat m.toNat : Nat) ∧ m.tdiv (Nat.gcd M.toNat m.toNat : Nat) ≤ 1000 := by
  have h1 : 0 < Nat.gcd M.toNat m.toNat := Nat.gcd_pos_of_pos_right _ (by omega)
  have h2 : Nat.gcd M.toNat m.toNat ≤ m.toNat := Nat.gcd_le_right _ (by omega)
  have h3 := tdivQ (x := m) (y := (Nat.gcd M.toNat m.toNat : Nat)) (by omega) (by omega)
  refine ⟨⟨by omega, by omega⟩, h3.1, by omega⟩
theorem divisorI_ok (M m : Int) (hM : 0 < M ∧ M ≤ 1000000000) (hm : 1 ≤ m ∧ m ≤ 1000) : FnOk Try.prog 43 [zA M, zA m] (fun q => q = zA (Nat.gcd M.toNat m.toNat : Nat)) := by
  have h := divisor_ok M.toNat m.toNat (by omega) (by omega)
  rwa [Int.toNat_of_nonneg (by omega), Int.toNat_of_nonneg (by omega)] at h
def reL (ws : List Int) (T : Int) : List (Int × Int) := ws.map fun w => (w, T.tmod w)
theorem reL_len (ws : List Int) (T : Int) : (reL ws T).length = ws.length := by simp [reL]
theorem reL_at {ws : List Int} {T : Int} {i : Nat} (h : i < ws.length) : (reL ws T).getD i default = (ws.getD i default, T.tmod (ws.getD i default)) := by
  simp [reL, List.getD_eq_getElem?_getD, h]
theorem rest_dvd (T M tr : Int) : M ∣ T - (T % M + tr * M) := ⟨T / M - tr, by
  have := Int.emod_add_mul_ediv T M
  rw [Int.mul_sub, Int.mul_comm M tr]; omega⟩
theorem tries_le {M w T tr : Int} (hM : 0 < M) (hw : 0 < w) (hT : 0 ≤ T) (h : T % M + tr * M + M ≤ T % lcmS M w) : tr + 1 ≤ w := by
  obtain ⟨f1, f2, f3, f4, f5⟩ := lcmS_facts hM hw
  have h1 := Int.emod_lt_of_pos T f3
  have h2 := Int.emod_nonneg T (show M ≠ 0 by omega)
  have h3 : (tr + 1) * M < w * M := by rw [Int.add_mul, Int.one_mul, Int.mul_comm w M]; omega
  have := Int.lt_of_mul_lt_mul_right h3 (by omega)
  omega
theorem emod_le {T L : Int} (hT : 0 ≤ T) (hL : 0 < L) : 0 ≤ T % L ∧ T % L ≤ T ∧ T % L < L := ⟨Int.emod_nonneg T (by omega), by
  have := Int.emod_add_mul_ediv T L
  have := Int.mul_nonneg (show 0 ≤ L by omega) (Int.ediv_nonneg hT (show 0 ≤ L by omega))
  omega, Int.emod_lt_of_pos T hL⟩
/-- What a round of the third loop knows. -/
theorem round_facts {M w T tr re : Int} (hM : 0 < M) (hw : 1 ≤ w) (hT : 0 ≤ T) (h0 : 0 ≤ tr) (h1 : re = T % M + tr * M) (h2 : re ≤ T % lcmS M w) : 0 ≤ re ∧ re ≤ T ∧ re.tmod w = re % w ∧ T.tmod w = T % w ∧ (re % w = T % w → re = T % lcmS M w) ∧ (¬ re % w = T % w → re + M ≤ T % lcmS M w ∧ tr + 1 ≤ w) := by
  obtain ⟨f1, f2, f3, f4, f5⟩ := lcmS_facts hM (show 0 < w by omega)
  have e1 := emod_le hT hM
  have e2 := emod_le hT f3
  have hp : 0 ≤ tr * M := Int.mul_nonneg h0 (by omega)
  have hn := next_rest (re := re) hM (show 0 < w by omega) hT (by rw [h1]; exact rest_dvd T M tr) (by omega) h2
  refine ⟨by omega, by omega, Int.tmod_eq_emod_of_nonneg (by omega), Int.tmod_eq_emod_of_nonneg hT, hn.1, fun h => ⟨hn.2 h, tries_le hM (by omega) hT ?_⟩⟩
  have := hn.2 h
  omega
theorem rest_le {M w T : Int} (hM : 0 < M) (hw : 1 ≤ w) (hT : 0 ≤ T) : T % M ≤ T % lcmS M w := by
  obtain ⟨f1, f2, f3, f4, f5⟩ := lcmS_facts hM (show 0 < w by omega)
  have e2 := emod_le hT f3
  have := (emod_le e2.1 hM).2.1
  rwa [Int.emod_emod_of_dvd _ f1] at this
set_option maxRecDepth 100000 in
set_option maxHeartbeats 4000000 in
theorem joined4_ok (ws : List Int) (T : Int) (hT : 0 ≤ T ∧ T ≤ 1000000) (hl : 1 ≤ ws.length ∧ ws.length ≤ 6) (hw : ∀ j : Nat, j < ws.length → 1 ≤ ws.getD j default ∧ ws.getD j default ≤ 1000) (hL : ∀ j : Nat, j ≤ ws.length → lcmP ws j ≤ 1000000000) :
    FnOk Try.prog 11 [.row 2 ((reL ws T).map rE)] (fun q => q = .tuple [.agg [zA (lcmP ws ws.length), zA (T % lcmP ws ws.length)], zA 0]) := by
  have e1 : firstE [unlessE (decide ((0 : Int) < ws.length)) 10, unlessE (decide ((ws.length : Int) ≤ 6)) 8] = 0 := by rw [decide_eq_true (by omega), decide_eq_true (by omega)]; rfl
  have hrl := reL_len ws T
  refine fnOk_of (fn := Try.f11) 116 (by kernel_rfl) rfl (by kernel_rfl) (Nat.le_of_ble_eq_true rfl) ?_
  intro e_0 m_0 hA hm_0
  have s0_0 : evA e_0 (.tmp 0) = _ := hA 0 _ rfl
  have ml_0 : m_0.length = 0 := by rw [hm_0]; rfl
  clear hA hm_0
  refine aw_seq ?_
  refine aw_text (by kernel_rfl) ?_
  refine al_stm (st_alloc q7_az32 rfl ml_0) trivial rfl (fun m_1 hm_1 => ?_)
  have mo0_1 := m_push hm_1 ml_0
  (try simp only [packA_t, packA_f, iE, bE, setAt, cellsA, Value.cells, map_vc, map_vn, Nat.reduceAdd, qS, rE] at mo0_1)
  have ml_1 := m_push_l hm_1 ml_0
  have ml_1 : _ = 1 := ml_1
  clear hm_1
  refine al_ro' (ro_assign ev_c) trivial rfl ?_
  refine al_end (fun e_2 he_2 => ?_)
  have s0_2 := ef 0 he_2 (u2 rfl s0_0)
  have s2_2 := ef 2 he_2 (up_m rfl up_h)
  clear he_2 s0_0
  refine then_n ?_
  refine aw_seq ?_
  refine aw_seq ?_
  refine aw_text (by kernel_rfl) ?_
  refine al_ro' (ro_move s0_2) trivial rfl ?_
  refine al_ro' (ro_eq (ro_len_row up_h rfl q7_sl29.1) (by first | (simp only [lnS] <;> rfl) | rfl)) trivial rfl ?_
  refine al_ro' (ro_gtr up_h ev_c) trivial rfl ?_
  refine al_ro' (ro_call (evL_cons up_h (evL_cons ev_c evL_nil)) rfl (qUnless_ok _ _) q7_hcf41) trivial rfl ?_
  refine al_ro' (ro_move (u4 rfl s0_2)) trivial rfl ?_
  refine al_ro' (ro_eq (ro_len_row up_h rfl q7_sl29.1) (by first | (simp only [lnS] <;> rfl) | rfl)) trivial rfl ?_
  refine al_ro' (ro_leq up_h ev_c) trivial rfl ?_
  refine al_ro' (ro_call (evL_cons up_h (evL_cons ev_c evL_nil)) rfl (qUnless_ok _ _) q7_hcf41) trivial rfl ?_
  refine al_ro' (ro_lit q7_sl126 (evP_cons (u4 rfl up_h) (evP_cons up_h evP_nil)) rfl rfl rfl rfl) trivial rfl ?_
  refine al_ro' (ro_call (evL_cons up_h evL_nil) rfl ((qFirst_ok [_, _] (by simp)).mono (fun q h => h.trans (by first | rw [e1] | (rw [hrl, e1])))) q7_hcf40) trivial rfl ?_
  refine al_ro' (ro_assign up_h) trivial rfl ?_
  refine al_end (fun e_3 he_3 => ?_)
  have s0_3 := ef 0 he_3 (up_m rfl (u2 rfl (u8 rfl s0_2)))
  have s2_3 := ef 2 he_3 (up_m rfl (u2 rfl (u8 rfl s2_2)))
  have s4_3 := ef 4 he_3 up_h
  clear he_3 s0_2 s2_2
  refine then_n ?_
  refine aw_seq ?_
  refine aw_text (by kernel_rfl) ?_
  refine al_ro' (ro_move s4_3) trivial rfl ?_
  refine al_ro' (ro_neq up_h ev_c) trivial rfl ?_
  refine al_end (fun e_4 he_4 => ?_)
  have s0_4 := ef 0 he_4 (u2 rfl s0_3)
  have s2_4 := ef 2 he_4 (u2 rfl s2_3)
  have s4_4 := ef 4 he_4 (u2 rfl s4_3)
  have s25_4 := ef 25 he_4 up_h
  clear he_4 s0_3 s2_3 s4_3
  refine then_n ?_
  refine aw_case s25_4 (fun hq_5 => ?_) (fun hq_5 => ?_)
  · (first | replace hq_5 := bnt hq_5 | replace hq_5 := bnf hq_5 | replace hq_5 := bt hq_5 | replace hq_5 := bf hq_5 | replace hq_5 := bt' hq_5 | replace hq_5 := bf' hq_5 | skip)
    first
    | (cases hq_5; done) | (exfalso; omega)
    | (
       refine aw_seq ?_
       refine aw_text (by kernel_rfl) ?_
       refine al_ro' (ro_build evP_nil q7_bz32 q7_bu32 q7_bp32 rfl) trivial rfl ?_
       refine al_ro' (ro_move (up_m rfl s4_4)) trivial rfl ?_
       refine al_stm (st_store (u2 rfl s2_4) (up_m rfl up_h) rfl rfl mo0_1 q7_sz32 rfl (by first | exact Nat.le_of_ble_eq_true rfl | omega | (simp only [lnS] <;> omega) | (simp <;> omega))) trivial rfl (fun m_6 hm_6 => ?_)
       have mo0_6 := m_set hm_6 mo0_1
       (try simp only [packA_t, packA_f, iE, bE, setAt, cellsA, Value.cells, map_vc, map_vn, Nat.reduceAdd, qS, rE] at mo0_6)
       have ml_6 := m_set_l hm_6 ml_1
       clear hm_6 mo0_1
       refine al_ro' (ro_assign (up_n up_h)) trivial rfl ?_
       refine al_end (fun e_7 he_7 => ?_)
       have s2_7 := ef 2 he_7 (up_m rfl (up_n (u2 rfl s2_4)))
       have s3_7 := ef 3 he_7 up_h
       clear he_7 s0_4 s25_4 s2_4 s4_4
       refine then_n ?_
       refine aw_ret ?_
       refine then_r ?_
       refine ret2 (.inr rfl) (by kernel_rfl) (resV_cell s2_7 mo0_6 q7_ty32 (by first | exact Nat.le_of_ble_eq_true rfl | omega | (simp only [lnS] <;> omega) | (simp <;> omega)) (by simp)) (resV_tmp s3_7) (vw_r (.ro _ rfl)) (.ro _ rfl) ?_
       clear s2_7 s3_7 mo0_6 ml_6
       (rw [p9, p8, show i.toNat = ws.length by omega]; rfl))
  · (first | replace hq_5 := bnt hq_5 | replace hq_5 := bnf hq_5 | replace hq_5 := bt hq_5 | replace hq_5 := bf hq_5 | replace hq_5 := bt' hq_5 | replace hq_5 := bf' hq_5 | skip)
    first
    | (cases hq_5; done) | (exfalso; omega)
    | (
       refine aw_skip ?_
       refine then_n ?_
       refine aw_seq ?_
       refine aw_text (by kernel_rfl) ?_
       refine al_ro' (ro_assign ev_c) trivial rfl ?_
       refine al_end (fun e_8 he_8 => ?_)
       have s0_8 := ef 0 he_8 (up_m rfl s0_4)
       have s2_8 := ef 2 he_8 (up_m rfl s2_4)
       have s5_8 := ef 5 he_8 up_h
       clear he_8 s0_4 s25_4 s2_4 s4_4
       refine then_n ?_
       refine aw_seq ?_
       refine aw_seq ?_
       refine aw_text (by kernel_rfl) ?_
       refine al_ro' (ro_move s0_8) trivial rfl ?_
       refine al_ro' (ro_eq (ro_len_row up_h rfl q7_sl29.1) (by first | (simp only [lnS] <;> rfl) | rfl)) trivial rfl ?_
       refine al_ro' (ro_move ev_c) trivial rfl ?_
       refine al_end (fun e_9 he_9 => ?_)
       have s0_9 := ef 0 he_9 (up_m rfl (u2 rfl s0_8))
       have s2_9 := ef 2 he_9 (up_m rfl (u2 rfl s2_8))
       have s5_9 := ef 5 he_9 (up_m rfl (u2 rfl s5_8))
       have s28_9 := ef 28 he_9 (u2 rfl up_h)
       have s29_9 := ef 29 he_9 (up_m rfl up_h)
       have s30_9 := ef 30 he_9 up_h
       clear he_9 s0_8 s2_8 s5_8
       refine then_n ?_
       refine aw_block ?_
       refine aw_loop (S := Int) (fun i e mem => (evA e (.tmp 30) = .v (.int .i64 i)) ∧ (evA e (.tmp 0) = evA e_9 (.tmp 0)) ∧ (evA e (.tmp 2) = evA e_9 (.tmp 2)) ∧ (evA e (.tmp 5) = evA e_9 (.tmp 5)) ∧ (evA e (.tmp 28) = evA e_9 (.tmp 28)) ∧ (evA e (.tmp 29) = evA e_9 (.tmp 29)) ∧ (mem[0]? = m_1[0]?) ∧ (∃ n, mem.length = n ∧ 1 ≤ n) ∧ ((0 ≤ i ∧ i ≤ ws.length))) (fun i => (ws.length - i).toNat) _ ⟨s30_9, rfl, rfl, rfl, rfl, rfl, rfl, ⟨_, ml_1, Nat.le_refl _⟩, ?_⟩ ?_
       · (exact ⟨by omega, by omega⟩)
       · rintro i e_10 m_10 ⟨s30_10, k0_10, k2_10, k5_10, k28_10, k29_10, mk0_10, ⟨n_10, ml_10, hn_10⟩, hinv⟩
         have s0_10 := k0_10.trans s0_9
         have s2_10 := k2_10.trans s2_9
         have s5_10 := k5_10.trans s5_9
         have s28_10 := k28_10.trans s28_9
         have s29_10 := k29_10.trans s29_9
         have mo0_10 := mk0_10.trans mo0_1
         (obtain ⟨p1, p2⟩ := hinv)
         refine aw_seq ?_
         refine aw_text (by kernel_rfl) ?_
         refine al_ro' (ro_lss s30_10 s29_10) trivial rfl ?_
         refine al_end (fun e_11 he_11 => ?_)
         have s0_11 := ef 0 he_11 (up_m rfl s0_10)
         have s2_11 := ef 2 he_11 (up_m rfl s2_10)
         have s5_11 := ef 5 he_11 (up_m rfl s5_10)
         have s28_11 := ef 28 he_11 (up_m rfl s28_10)
         have s29_11 := ef 29 he_11 (up_m rfl s29_10)
         have s30_11 := ef 30 he_11 (up_m rfl s30_10)
         have s31_11 := ef 31 he_11 up_h
         clear he_11 s0_10 s28_10 s29_10 s2_10 s30_10 s5_10
         refine then_n ?_
         refine aw_seq ?_
         refine aw_case s31_11 (fun hq_12 => ?_) (fun hq_12 => ?_)
         · (first | replace hq_12 := bnt hq_12 | replace hq_12 := bnf hq_12 | replace hq_12 := bt hq_12 | replace hq_12 := bf hq_12 | replace hq_12 := bt' hq_12 | replace hq_12 := bf' hq_12 | skip)
           first
           | (cases hq_12; done) | (exfalso; omega)
           | (
              (have hX := reL_at (ws := ws) (T := T) (i := i.toNat) (by omega); have hX0 := hw i.toNat (by omega); have hX1 : 1 ≤ ((reL ws T).getD i.toNat default).1 ∧ ((reL ws T).getD i.toNat default).1 ≤ 1000 := (by rw [hX]; exact hX0); have hX2 : 0 ≤ ((reL ws T).getD i.toNat default).2 ∧ ((reL ws T).getD i.toNat default).2 < ((reL ws T).getD i.toNat default).1 := (by rw [hX]; exact ⟨Int.tmod_nonneg _ hT.1, Int.tmod_lt_of_pos _ (by omega)⟩))
              refine aw_skip ?_
              refine then_n ?_
              refine aw_seq ?_
              refine aw_block ?_
              refine aw_seq ?_
              refine aw_text (by kernel_rfl) ?_
              refine al_ro' (ro_eq (ro_ix q7_sl29 s28_11 s30_11 (by first | decide | omega | (simp <;> omega)) (by first | (refine idx_map ?_; first | omega | (simp only [lnS]; omega)) | (refine idx_mapI ?_; first | omega | (simp only [lnS]; omega)) | (refine idx_mapN ?_; first | omega | (simp only [lnS]; omega)) | rfl)) (by first | (simp only [packA_t, packA_f, iE, bE, setAt, cellsA, Value.cells, map_vc, map_vn, Nat.reduceAdd, qS, rE] <;> rfl) | rfl)) trivial rfl ?_
              refine al_ro' (ro_eq (ro_ld_ref q7_ty32 rfl up_h (by first | exact Nat.le_of_ble_eq_true rfl | omega | (simp only [lnS] <;> omega) | (simp <;> omega))) (by first | (simp only [packA_t, packA_f, iE, bE, setAt, cellsA, Value.cells, map_vc, map_vn, Nat.reduceAdd, qS, rE] <;> rfl) | rfl)) trivial rfl ?_
              refine al_stm (st_alloc q7_az32 rfl ml_10) trivial rfl (fun m_13 hm_13 => ?_)
              have mon_10_13 := m_push hm_13 ml_10
              (try simp only [packA_t, packA_f, iE, bE, setAt, cellsA, Value.cells, map_vc, map_vn, Nat.reduceAdd, qS, rE] at mon_10_13)
              have mo0_13 := m_push_o hm_13 mo0_10
              have ml_13 := m_push_l hm_13 ml_10
              clear hm_13 mo0_10
              refine al_stm (st_store up_h (up_m rfl up_h) rfl rfl mon_10_13 q7_sz32 rfl (by first | exact Nat.le_of_ble_eq_true rfl | omega | (simp only [lnS] <;> omega) | (simp <;> omega))) trivial rfl (fun m_14 hm_14 => ?_)
              have mon_10_14 := m_set hm_14 mon_10_13
              (try simp only [packA_t, packA_f, iE, bE, setAt, cellsA, Value.cells, map_vc, map_vn, Nat.reduceAdd, qS, rE] at mon_10_14)
              have mo0_14 := m_set_o hm_14 mo0_13 (by omega)
              have ml_14 := m_set_l hm_14 ml_13
              clear hm_14 mon_10_13 mo0_13
              refine al_end (fun e_15 he_15 => ?_)
              have s0_15 := ef 0 he_15 (up_n (up_m rfl (u2 rfl s0_11)))
              have s2_15 := ef 2 he_15 (up_n (up_m rfl (u2 rfl s2_11)))
              have s5_15 := ef 5 he_15 (up_n (up_m rfl (u2 rfl s5_11)))
              have s7_15 := ef 7 he_15 (up_n up_h)
              have s28_15 := ef 28 he_15 (up_n (up_m rfl (u2 rfl s28_11)))
              have s29_15 := ef 29 he_15 (up_n (up_m rfl (u2 rfl s29_11)))
              have s30_15 := ef 30 he_15 (up_n (up_m rfl (u2 rfl s30_11)))
              clear he_15 s0_11 s28_11 s29_11 s2_11 s30_11 s31_11 s5_11
              refine then_n ?_
              refine aw_seq ?_
              refine aw_cut (fun e mem => (evA e (.tmp 46) = .v (.bool false)) ∧ (evA e (.tmp 0) = evA e_15 (.tmp 0)) ∧ (evA e (.tmp 2) = evA e_15 (.tmp 2)) ∧ (evA e (.tmp 5) = evA e_15 (.tmp 5)) ∧ (evA e (.tmp 28) = evA e_15 (.tmp 28)) ∧ (evA e (.tmp 29) = evA e_15 (.tmp 29)) ∧ (evA e (.tmp 30) = evA e_15 (.tmp 30)) ∧ m_14 = mem) ?_ ?_
              ·
                refine aw_text (by kernel_rfl) ?_
                refine al_ro' (ro_fld_ptr q7_fl32_0 rfl s7_15) trivial rfl ?_
                refine al_ro' (ro_eq (ro_ld_ptr q7_ty3 rfl mon_10_14 up_h (by first | exact Nat.le_of_ble_eq_true rfl | omega | (simp only [lnS] <;> omega) | (simp <;> omega))) (by first | (simp only [packA_t, packA_f, iE, bE, setAt, cellsA, Value.cells, map_vc, map_vn, Nat.reduceAdd, qS, rE] <;> rfl) | rfl)) trivial rfl ?_
                refine al_ro' (ro_call (evL_cons up_h (evL_cons ev_c (evL_cons ev_c evL_nil))) rfl (qWithin_ok _ _ _) q7_hcf42) trivial rfl ?_
                refine al_ro' (ro_not up_h) trivial rfl ?_
                refine al_ro' (ro_move up_h) trivial rfl ?_
                refine al_case up_h (fun hb_17 hq_17 => ?_) (fun hb_17 hq_17 => ?_)
                · (first | replace hq_17 := bnt hq_17 | replace hq_17 := bnf hq_17 | replace hq_17 := bt hq_17 | replace hq_17 := bf hq_17 | replace hq_17 := bt' hq_17 | replace hq_17 := bf' hq_17 | skip)
                  first
                  | (cases hq_17; done) | (exfalso; omega)
                  | (
                     refine al_skip' ⟨_, rfl, .inl hb_17⟩ rfl ?_
                     refine al_skip' ⟨_, rfl, .inl (up_m rfl hb_17)⟩ rfl ?_
                     refine al_skip' ⟨_, rfl, .inl (u2 rfl hb_17)⟩ rfl ?_
                     refine al_skip' ⟨_, rfl, .inl (up_m rfl (u2 rfl hb_17))⟩ rfl ?_
                     refine al_skip' ⟨_, rfl, .inl (u4 rfl hb_17)⟩ rfl ?_
                     refine al_skip' ⟨_, rfl, .inl (up_m rfl (u4 rfl hb_17))⟩ rfl ?_
                     refine al_skip' ⟨_, rfl, .inl (u2 rfl (u4 rfl hb_17))⟩ rfl ?_
                     refine al_ro' (ro_pickT (up_m rfl (u2 rfl (u4 rfl hb_17))) ev_c) trivial rfl ?_
                     refine al_end (fun e_18 he_18 => ?_)
                     have s0_18 := ef 0 he_18 (up_m rfl (u4 rfl (u8 rfl s0_15)))
                     have s2_18 := ef 2 he_18 (up_m rfl (u4 rfl (u8 rfl s2_15)))
                     have s5_18 := ef 5 he_18 (up_m rfl (u4 rfl (u8 rfl s5_15)))
                     have s28_18 := ef 28 he_18 (up_m rfl (u4 rfl (u8 rfl s28_15)))
                     have s29_18 := ef 29 he_18 (up_m rfl (u4 rfl (u8 rfl s29_15)))
                     have s30_18 := ef 30 he_18 (up_m rfl (u4 rfl (u8 rfl s30_15)))
                     have s46_18 := ef 46 he_18 up_h
                     clear he_18
                     refine then_n ⟨(s46_18).trans (by (first | rfl | (refine avb ?_; simp [withinB, -List.getD_eq_getElem?_getD] at *; omega))), (s0_18).trans (s0_15).symm, (s2_18).trans (s2_15).symm, (s5_18).trans (s5_15).symm, (s28_18).trans (s28_15).symm, (s29_18).trans (s29_15).symm, (s30_18).trans (s30_15).symm, rfl⟩)
                · (first | replace hq_17 := bnt hq_17 | replace hq_17 := bnf hq_17 | replace hq_17 := bt hq_17 | replace hq_17 := bf hq_17 | replace hq_17 := bt' hq_17 | replace hq_17 := bf' hq_17 | skip)
                  first
                  | (cases hq_17; done) | (exfalso; omega)
                  | (
                     refine al_ro' (ro_fld_ptr q7_fl32_1 rfl (up_m rfl (u4 rfl s7_15))) ⟨_, rfl, hb_17⟩ rfl ?_
                     refine al_ro' (ro_eq (ro_ld_ptr q7_ty3 rfl mon_10_14 up_h (by first | exact Nat.le_of_ble_eq_true rfl | omega | (simp only [lnS] <;> omega) | (simp <;> omega))) (by first | (simp only [packA_t, packA_f, iE, bE, setAt, cellsA, Value.cells, map_vc, map_vn, Nat.reduceAdd, qS, rE] <;> rfl) | rfl)) ⟨_, rfl, (up_m rfl hb_17)⟩ rfl ?_
                     refine al_ro' (ro_fld_ptr q7_fl32_0 rfl (up_m rfl (u2 rfl (u4 rfl s7_15)))) ⟨_, rfl, (u2 rfl hb_17)⟩ rfl ?_
                     refine al_ro' (ro_eq (ro_ld_ptr q7_ty3 rfl mon_10_14 up_h (by first | exact Nat.le_of_ble_eq_true rfl | omega | (simp only [lnS] <;> omega) | (simp <;> omega))) (by first | (simp only [packA_t, packA_f, iE, bE, setAt, cellsA, Value.cells, map_vc, map_vn, Nat.reduceAdd, qS, rE] <;> rfl) | rfl)) ⟨_, rfl, (up_m rfl (u2 rfl hb_17))⟩ rfl ?_
                     first | (refine al_ro' (ro_sub' up_h ev_c ?_) ⟨_, rfl, (u4 rfl hb_17)⟩ rfl ?_; · (unfold In64; omega)) | refine al_ro' (ro_sub up_h ev_c) ⟨_, rfl, (u4 rfl hb_17)⟩ rfl ?_
                     refine al_ro' (ro_call (evL_cons (up_m rfl (u2 rfl up_h)) (evL_cons ev_c (evL_cons up_h evL_nil))) rfl (qWithin_ok _ _ _) q7_hcf42) ⟨_, rfl, (up_m rfl (u4 rfl hb_17))⟩ rfl ?_
                     refine al_ro' (ro_not up_h) ⟨_, rfl, (u2 rfl (u4 rfl hb_17))⟩ rfl ?_
                     refine al_ro' (ro_pickF (up_m rfl (u2 rfl (u4 rfl hb_17))) up_h) trivial rfl ?_
                     refine al_end (fun e_19 he_19 => ?_)
                     have s0_19 := ef 0 he_19 (up_m rfl (u4 rfl (u8 rfl s0_15)))
                     have s2_19 := ef 2 he_19 (up_m rfl (u4 rfl (u8 rfl s2_15)))
                     have s5_19 := ef 5 he_19 (up_m rfl (u4 rfl (u8 rfl s5_15)))
                     have s28_19 := ef 28 he_19 (up_m rfl (u4 rfl (u8 rfl s28_15)))
                     have s29_19 := ef 29 he_19 (up_m rfl (u4 rfl (u8 rfl s29_15)))
                     have s30_19 := ef 30 he_19 (up_m rfl (u4 rfl (u8 rfl s30_15)))
                     have s46_19 := ef 46 he_19 up_h
                     clear he_19
                     refine then_n ⟨(s46_19).trans (by (first | rfl | (refine avb ?_; simp [withinB, -List.getD_eq_getElem?_getD] at *; omega))), (s0_19).trans (s0_15).symm, (s2_19).trans (s2_15).symm, (s5_19).trans (s5_15).symm, (s28_19).trans (s28_15).symm, (s29_19).trans (s29_15).symm, (s30_19).trans (s30_15).symm, rfl⟩)
              · rintro e_16 _ ⟨s46_16, k0_16, k2_16, k5_16, k28_16, k29_16, k30_16, rfl⟩
                have s0_16 := k0_16.trans s0_15
                have s2_16 := k2_16.trans s2_15
                have s5_16 := k5_16.trans s5_15
                have s28_16 := k28_16.trans s28_15
                have s29_16 := k29_16.trans s29_15
                have s30_16 := k30_16.trans s30_15
                refine aw_case s46_16 (fun hq_20 => ?_) (fun hq_20 => ?_)
                · (first | replace hq_20 := bnt hq_20 | replace hq_20 := bnf hq_20 | replace hq_20 := bt hq_20 | replace hq_20 := bf hq_20 | replace hq_20 := bt' hq_20 | replace hq_20 := bf' hq_20 | skip)
                  first
                  | (cases hq_20; done) | (exfalso; omega)
                  | (
                     refine aw_seq ?_
                     refine aw_text (by kernel_rfl) ?_
                     refine al_ro' (ro_build evP_nil q7_bz32 q7_bu32 q7_bp32 rfl) trivial rfl ?_
                     refine al_stm (st_store (up_m rfl s2_16) up_h rfl rfl mo0_14 q7_sz32 rfl (by first | exact Nat.le_of_ble_eq_true rfl | omega | (simp only [lnS] <;> omega) | (simp <;> omega))) trivial rfl (fun m_21 hm_21 => ?_)
                     have mo0_21 := m_set hm_21 mo0_14
                     (try simp only [packA_t, packA_f, iE, bE, setAt, cellsA, Value.cells, map_vc, map_vn, Nat.reduceAdd, qS, rE] at mo0_21)
                     have mon_10_21 := m_set_o hm_21 mon_10_14 (by omega)
                     have ml_21 := m_set_l hm_21 ml_14
                     clear hm_21 mon_10_14 mo0_14
                     refine al_ro' (ro_assign ev_c) trivial rfl ?_
                     refine al_end (fun e_22 he_22 => ?_)
                     have s2_22 := ef 2 he_22 (up_m rfl (up_n (up_m rfl s2_16)))
                     have s3_22 := ef 3 he_22 up_h
                     clear he_22 s0_16 s28_16 s29_16 s2_16 s30_16 s46_16 s5_16
                     refine then_n ?_
                     refine aw_ret ?_
                     refine block_r ?_
                     refine then_r ?_
                     refine then_r ?_
                     refine block_r ?_
                     refine then_r ?_
                     refine ret2 (.inr rfl) (by kernel_rfl) (resV_cell s2_22 mo0_21 q7_ty32 (by first | exact Nat.le_of_ble_eq_true rfl | omega | (simp only [lnS] <;> omega) | (simp <;> omega)) (by simp)) (resV_tmp s3_22) (vw_r (.ro _ rfl)) (.ro _ rfl) ?_
                     clear s2_22 s3_22 mo0_21 mon_10_21 ml_21
                     (rw [p9, p8, show i.toNat = ws.length by omega]; rfl))
                · (first | replace hq_20 := bnt hq_20 | replace hq_20 := bnf hq_20 | replace hq_20 := bt hq_20 | replace hq_20 := bf hq_20 | replace hq_20 := bt' hq_20 | replace hq_20 := bf' hq_20 | skip)
                  first
                  | (cases hq_20; done) | (exfalso; omega)
                  | (
                     refine aw_skip ?_
                     refine block_n ?_
                     refine then_n ?_
                     refine aw_text (by kernel_rfl) ?_
                     first | (refine al_ro' (ro_add' s30_16 ev_c ?_) trivial rfl ?_; · (unfold In64; omega)) | refine al_ro' (ro_add s30_16 ev_c) trivial rfl ?_
                     refine al_ro' (ro_move up_h) trivial rfl ?_
                     refine al_end (fun e_23 he_23 => ?_)
                     have s0_23 := ef 0 he_23 (u2 rfl s0_16)
                     have s2_23 := ef 2 he_23 (u2 rfl s2_16)
                     have s5_23 := ef 5 he_23 (u2 rfl s5_16)
                     have s28_23 := ef 28 he_23 (u2 rfl s28_16)
                     have s29_23 := ef 29 he_23 (u2 rfl s29_16)
                     have s30_23 := ef 30 he_23 up_h
                     clear he_23 s0_16 s28_16 s29_16 s2_16 s30_16 s46_16 s5_16
                     refine then_n ?_
                     refine ⟨_, ⟨s30_23, (s0_23.trans s0_9.symm), (s2_23.trans s2_9.symm), (s5_23.trans s5_9.symm), (s28_23.trans s28_9.symm), (s29_23.trans s29_9.symm), (mo0_14.trans mo0_1.symm), ⟨_, ml_14, by omega⟩, ?_⟩, ?_⟩
                     · (exact ⟨by omega, by omega⟩)
                     · ((try dsimp only); omega)))
         · (first | replace hq_12 := bnt hq_12 | replace hq_12 := bnf hq_12 | replace hq_12 := bt hq_12 | replace hq_12 := bf hq_12 | replace hq_12 := bt' hq_12 | replace hq_12 := bf' hq_12 | skip)
           first
           | (cases hq_12; done) | (exfalso; omega)
           | (
              refine aw_exit ?_
              refine then_x ?_
              refine then_x ?_
              refine block_hit ?_
              refine then_n ?_
              refine aw_seq ?_
              refine aw_seq ?_
              refine aw_text (by kernel_rfl) ?_
              refine al_ro' (ro_move s0_11) trivial rfl ?_
              refine al_ro' (ro_eq (ro_len_row up_h rfl q7_sl29.1) (by first | (simp only [lnS] <;> rfl) | rfl)) trivial rfl ?_
              refine al_ro' (ro_move ev_c) trivial rfl ?_
              refine al_end (fun e_24 he_24 => ?_)
              have s0_24 := ef 0 he_24 (up_m rfl (u2 rfl s0_11))
              have s2_24 := ef 2 he_24 (up_m rfl (u2 rfl s2_11))
              have s5_24 := ef 5 he_24 (up_m rfl (u2 rfl s5_11))
              have s49_24 := ef 49 he_24 (u2 rfl up_h)
              have s50_24 := ef 50 he_24 (up_m rfl up_h)
              have s51_24 := ef 51 he_24 up_h
              clear he_24 s0_11 s28_11 s29_11 s2_11 s30_11 s31_11 s5_11
              refine then_n ?_
              refine aw_block ?_
              refine aw_loop (S := (Int × Int)) (fun s e mem => match s with | ⟨i, al⟩ => (evA e (.tmp 51) = .v (.int .i64 i)) ∧ (evA e (.tmp 5) = .v (.int .i64 al)) ∧ (evA e (.tmp 0) = evA e_24 (.tmp 0)) ∧ (evA e (.tmp 2) = evA e_24 (.tmp 2)) ∧ (evA e (.tmp 49) = evA e_24 (.tmp 49)) ∧ (evA e (.tmp 50) = evA e_24 (.tmp 50)) ∧ (mem[0]? = m_10[0]?) ∧ (∃ n, mem.length = n ∧ n_10 ≤ n) ∧ ((0 ≤ i ∧ i ≤ ws.length ∧ al = lcmP ws i.toNat))) (fun s => match s with | ⟨i, al⟩ => (ws.length - i).toNat) ⟨_, 1⟩ ⟨s51_24, s5_24, rfl, rfl, rfl, rfl, rfl, ⟨_, ml_10, Nat.le_refl _⟩, ?_⟩ ?_
              · (exact ⟨by omega, by omega, rfl⟩)
              · rintro ⟨i, al⟩ e_25 m_25 ⟨s51_25, s5_25, k0_25, k2_25, k49_25, k50_25, mk0_25, ⟨n_25, ml_25, hn_25⟩, hinv⟩
                have s0_25 := k0_25.trans s0_24
                have s2_25 := k2_25.trans s2_24
                have s49_25 := k49_25.trans s49_24
                have s50_25 := k50_25.trans s50_24
                have mo0_25 := mk0_25.trans mo0_10
                (obtain ⟨p3, p4, p5⟩ := hinv)
                refine aw_seq ?_
                refine aw_text (by kernel_rfl) ?_
                refine al_ro' (ro_lss s51_25 s50_25) trivial rfl ?_
                refine al_end (fun e_26 he_26 => ?_)
                have s0_26 := ef 0 he_26 (up_m rfl s0_25)
                have s2_26 := ef 2 he_26 (up_m rfl s2_25)
                have s5_26 := ef 5 he_26 (up_m rfl s5_25)
                have s49_26 := ef 49 he_26 (up_m rfl s49_25)
                have s50_26 := ef 50 he_26 (up_m rfl s50_25)
                have s51_26 := ef 51 he_26 (up_m rfl s51_25)
                have s52_26 := ef 52 he_26 up_h
                clear he_26 s0_25 s2_25 s49_25 s50_25 s51_25 s5_25
                refine then_n ?_
                refine aw_seq ?_
                refine aw_case s52_26 (fun hq_27 => ?_) (fun hq_27 => ?_)
                · (first | replace hq_27 := bnt hq_27 | replace hq_27 := bnf hq_27 | replace hq_27 := bt hq_27 | replace hq_27 := bf hq_27 | replace hq_27 := bt' hq_27 | replace hq_27 := bf' hq_27 | skip)
                  first
                  | (cases hq_27; done) | (exfalso; omega)
                  | (
                     (have hX := reL_at (ws := ws) (T := T) (i := i.toNat) (by omega); have hX0 := hw i.toNat (by omega); have hX1 : 1 ≤ ((reL ws T).getD i.toNat default).1 ∧ ((reL ws T).getD i.toNat default).1 ≤ 1000 := (by rw [hX]; exact hX0); have hap := lcmP_pos hw (n := i.toNat) (by omega); have hal : 0 < al ∧ al ≤ 1000000000 := (by rw [p5]; exact ⟨hap, hL _ (by omega)⟩); have hdg := div_gcd hal hX1; have hst : al * ((reL ws T).getD i.toNat default).1.tdiv ((Nat.gcd al.toNat ((reL ws T).getD i.toNat default).1.toNat : Nat) : Int) = lcmP ws (i.toNat + 1) := (by rw [p5, hX]; rfl); have hsl := hL (i.toNat + 1) (by omega); have hsp := lcmP_pos hw (n := i.toNat + 1) (by omega))
                     refine aw_skip ?_
                     refine then_n ?_
                     refine aw_seq ?_
                     refine aw_block ?_
                     refine aw_seq ?_
                     refine aw_text (by kernel_rfl) ?_
                     refine al_ro' (ro_eq (ro_ix q7_sl29 s49_26 s51_26 (by first | decide | omega | (simp <;> omega)) (by first | (refine idx_map ?_; first | omega | (simp only [lnS]; omega)) | (refine idx_mapI ?_; first | omega | (simp only [lnS]; omega)) | (refine idx_mapN ?_; first | omega | (simp only [lnS]; omega)) | rfl)) (by first | (simp only [packA_t, packA_f, iE, bE, setAt, cellsA, Value.cells, map_vc, map_vn, Nat.reduceAdd, qS, rE] <;> rfl) | rfl)) trivial rfl ?_
                     refine al_ro' (ro_eq (ro_ld_ref q7_ty32 rfl up_h (by first | exact Nat.le_of_ble_eq_true rfl | omega | (simp only [lnS] <;> omega) | (simp <;> omega))) (by first | (simp only [packA_t, packA_f, iE, bE, setAt, cellsA, Value.cells, map_vc, map_vn, Nat.reduceAdd, qS, rE] <;> rfl) | rfl)) trivial rfl ?_
                     refine al_stm (st_alloc q7_az32 rfl ml_25) trivial rfl (fun m_28 hm_28 => ?_)
                     have mon_25_28 := m_push hm_28 ml_25
                     (try simp only [packA_t, packA_f, iE, bE, setAt, cellsA, Value.cells, map_vc, map_vn, Nat.reduceAdd, qS, rE] at mon_25_28)
                     have mo0_28 := m_push_o hm_28 mo0_25
                     have ml_28 := m_push_l hm_28 ml_25
                     clear hm_28 mo0_25
                     refine al_stm (st_store up_h (up_m rfl up_h) rfl rfl mon_25_28 q7_sz32 rfl (by first | exact Nat.le_of_ble_eq_true rfl | omega | (simp only [lnS] <;> omega) | (simp <;> omega))) trivial rfl (fun m_29 hm_29 => ?_)
                     have mon_25_29 := m_set hm_29 mon_25_28
                     (try simp only [packA_t, packA_f, iE, bE, setAt, cellsA, Value.cells, map_vc, map_vn, Nat.reduceAdd, qS, rE] at mon_25_29)
                     have mo0_29 := m_set_o hm_29 mo0_28 (by omega)
                     have ml_29 := m_set_l hm_29 ml_28
                     clear hm_29 mon_25_28 mo0_28
                     refine al_end (fun e_30 he_30 => ?_)
                     have s0_30 := ef 0 he_30 (up_n (up_m rfl (u2 rfl s0_26)))
                     have s2_30 := ef 2 he_30 (up_n (up_m rfl (u2 rfl s2_26)))
                     have s5_30 := ef 5 he_30 (up_n (up_m rfl (u2 rfl s5_26)))
                     have s9_30 := ef 9 he_30 (up_n up_h)
                     have s49_30 := ef 49 he_30 (up_n (up_m rfl (u2 rfl s49_26)))
                     have s50_30 := ef 50 he_30 (up_n (up_m rfl (u2 rfl s50_26)))
                     have s51_30 := ef 51 he_30 (up_n (up_m rfl (u2 rfl s51_26)))
                     clear he_30 s0_26 s2_26 s49_26 s50_26 s51_26 s52_26 s5_26
                     refine then_n ?_
                     refine aw_seq ?_
                     refine aw_draw 10 (by kernel_rfl) (by kernel_rfl) (by kernel_rfl) (by kernel_rfl) ?_
                     refine ds_ro' (ro_move s5_30) trivial rfl ?_
                     refine ds_ro' (ro_fld_ptr q7_fl32_0 rfl (up_m rfl s9_30)) trivial rfl ?_
                     refine ds_ro' (ro_eq (ro_ld_ptr q7_ty3 rfl mon_25_29 up_h (by first | exact Nat.le_of_ble_eq_true rfl | omega | (simp only [lnS] <;> omega) | (simp <;> omega))) (by first | (simp only [packA_t, packA_f, iE, bE, setAt, cellsA, Value.cells, map_vc, map_vn, Nat.reduceAdd, qS, rE] <;> rfl) | rfl)) trivial rfl ?_
                     refine ds_ro' (ro_move (up_m rfl (u2 rfl s5_30))) trivial rfl ?_
                     refine ds_ro' (ro_fld_ptr q7_fl32_0 rfl (u4 rfl s9_30)) trivial rfl ?_
                     refine ds_ro' (ro_eq (ro_ld_ptr q7_ty3 rfl mon_25_29 up_h (by first | exact Nat.le_of_ble_eq_true rfl | omega | (simp only [lnS] <;> omega) | (simp <;> omega))) (by first | (simp only [packA_t, packA_f, iE, bE, setAt, cellsA, Value.cells, map_vc, map_vn, Nat.reduceAdd, qS, rE] <;> rfl) | rfl)) trivial rfl ?_
                     refine ds_ro' (ro_call (evL_cons (u2 rfl up_h) (evL_cons up_h evL_nil)) rfl (divisorI_ok al ((reL ws T).getD i.toNat default).1 hal hX1) q7_hcf43) trivial rfl ?_
                     first | (refine ds_ro' (ro_quo' (u4 rfl up_h) up_h (by first | decide | omega) ?_) trivial rfl ?_; · (unfold In64; omega)) | refine ds_ro' (ro_quo (u4 rfl up_h) up_h (by first | decide | omega)) trivial rfl ?_
                     first | (refine ds_ro' (ro_mul' (up_m rfl (u2 rfl (u4 rfl up_h))) up_h ?_) trivial rfl ?_; · (unfold In64; omega)) | refine ds_ro' (ro_mul (up_m rfl (u2 rfl (u4 rfl up_h))) up_h) trivial rfl ?_
                     refine ds_ro' (ro_assign up_h) trivial rfl ?_
                     refine ds_nil ?_
                     refine al_end (fun e_31 he_31 => ?_)
                     have s0_31 := ef 0 he_31 (u2 rfl (u8 rfl s0_30))
                     have s2_31 := ef 2 he_31 (u2 rfl (u8 rfl s2_30))
                     have s5_31 := ef 5 he_31 up_h
                     have s49_31 := ef 49 he_31 (u2 rfl (u8 rfl s49_30))
                     have s50_31 := ef 50 he_31 (u2 rfl (u8 rfl s50_30))
                     have s51_31 := ef 51 he_31 (u2 rfl (u8 rfl s51_30))
                     clear he_31 s0_30 s2_30 s49_30 s50_30 s51_30 s5_30 s9_30
                     refine then_n ?_
                     refine aw_seq ?_
                     refine aw_text (by kernel_rfl) ?_
                     refine al_ro' (ro_move s5_31) trivial rfl ?_
                     refine al_ro' (ro_gtr up_h ev_c) trivial rfl ?_
                     refine al_end (fun e_32 he_32 => ?_)
                     have s0_32 := ef 0 he_32 (u2 rfl s0_31)
                     have s2_32 := ef 2 he_32 (u2 rfl s2_31)
                     have s5_32 := ef 5 he_32 (u2 rfl s5_31)
                     have s49_32 := ef 49 he_32 (u2 rfl s49_31)
                     have s50_32 := ef 50 he_32 (u2 rfl s50_31)
                     have s51_32 := ef 51 he_32 (u2 rfl s51_31)
                     have s65_32 := ef 65 he_32 up_h
                     clear he_32 s0_31 s2_31 s49_31 s50_31 s51_31 s5_31
                     refine then_n ?_
                     refine aw_case s65_32 (fun hq_33 => ?_) (fun hq_33 => ?_)
                     · (first | replace hq_33 := bnt hq_33 | replace hq_33 := bnf hq_33 | replace hq_33 := bt hq_33 | replace hq_33 := bf hq_33 | replace hq_33 := bt' hq_33 | replace hq_33 := bf' hq_33 | skip)
                       first
                       | (cases hq_33; done) | (exfalso; omega)
                       | (
                          refine aw_seq ?_
                          refine aw_text (by kernel_rfl) ?_
                          refine al_ro' (ro_build evP_nil q7_bz32 q7_bu32 q7_bp32 rfl) trivial rfl ?_
                          refine al_stm (st_store (up_m rfl s2_32) up_h rfl rfl mo0_29 q7_sz32 rfl (by first | exact Nat.le_of_ble_eq_true rfl | omega | (simp only [lnS] <;> omega) | (simp <;> omega))) trivial rfl (fun m_34 hm_34 => ?_)
                          have mo0_34 := m_set hm_34 mo0_29
                          (try simp only [packA_t, packA_f, iE, bE, setAt, cellsA, Value.cells, map_vc, map_vn, Nat.reduceAdd, qS, rE] at mo0_34)
                          have mon_25_34 := m_set_o hm_34 mon_25_29 (by omega)
                          have ml_34 := m_set_l hm_34 ml_29
                          clear hm_34 mon_25_29 mo0_29
                          refine al_ro' (ro_assign ev_c) trivial rfl ?_
                          refine al_end (fun e_35 he_35 => ?_)
                          have s2_35 := ef 2 he_35 (up_m rfl (up_n (up_m rfl s2_32)))
                          have s3_35 := ef 3 he_35 up_h
                          clear he_35 s0_32 s2_32 s49_32 s50_32 s51_32 s5_32 s65_32
                          refine then_n ?_
                          refine aw_ret ?_
                          refine block_r ?_
                          refine then_r ?_
                          refine then_r ?_
                          refine block_r ?_
                          refine then_r ?_
                          refine ret2 (.inr rfl) (by kernel_rfl) (resV_cell s2_35 mo0_34 q7_ty32 (by first | exact Nat.le_of_ble_eq_true rfl | omega | (simp only [lnS] <;> omega) | (simp <;> omega)) (by simp)) (resV_tmp s3_35) (vw_r (.ro _ rfl)) (.ro _ rfl) ?_
                          clear s2_35 s3_35 mo0_34 mon_25_34 ml_34
                          (rw [p9, p8, show i.toNat = ws.length by omega]; rfl))
                     · (first | replace hq_33 := bnt hq_33 | replace hq_33 := bnf hq_33 | replace hq_33 := bt hq_33 | replace hq_33 := bf hq_33 | replace hq_33 := bt' hq_33 | replace hq_33 := bf' hq_33 | skip)
                       first
                       | (cases hq_33; done) | (exfalso; omega)
                       | (
                          refine aw_skip ?_
                          refine block_n ?_
                          refine then_n ?_
                          refine aw_text (by kernel_rfl) ?_
                          first | (refine al_ro' (ro_add' s51_32 ev_c ?_) trivial rfl ?_; · (unfold In64; omega)) | refine al_ro' (ro_add s51_32 ev_c) trivial rfl ?_
                          refine al_ro' (ro_move up_h) trivial rfl ?_
                          refine al_end (fun e_36 he_36 => ?_)
                          have s0_36 := ef 0 he_36 (u2 rfl s0_32)
                          have s2_36 := ef 2 he_36 (u2 rfl s2_32)
                          have s5_36 := ef 5 he_36 (u2 rfl s5_32)
                          have s49_36 := ef 49 he_36 (u2 rfl s49_32)
                          have s50_36 := ef 50 he_36 (u2 rfl s50_32)
                          have s51_36 := ef 51 he_36 up_h
                          clear he_36 s0_32 s2_32 s49_32 s50_32 s51_32 s5_32 s65_32
                          refine then_n ?_
                          refine ⟨⟨_, _⟩, ⟨s51_36, s5_36, (s0_36.trans s0_24.symm), (s2_36.trans s2_24.symm), (s49_36.trans s49_24.symm), (s50_36.trans s50_24.symm), (mo0_29.trans mo0_10.symm), ⟨_, ml_29, by omega⟩, ?_⟩, ?_⟩
                          · (refine ⟨by omega, by omega, ?_⟩; rw [show (i + 1).toNat = i.toNat + 1 by omega]; exact hst)
                          · ((try dsimp only); omega)))
                · (first | replace hq_27 := bnt hq_27 | replace hq_27 := bnf hq_27 | replace hq_27 := bt hq_27 | replace hq_27 := bf hq_27 | replace hq_27 := bt' hq_27 | replace hq_27 := bf' hq_27 | skip)
                  first
                  | (cases hq_27; done) | (exfalso; omega)
                  | (
                     refine aw_exit ?_
                     refine then_x ?_
                     refine then_x ?_
                     refine block_hit ?_
                     refine then_n ?_
                     refine aw_seq ?_
                     refine aw_text (by kernel_rfl) ?_
                     refine al_ro' (ro_build (evP_cons ev_c evP_nil) q7_bz32 q7_bu32 q7_bp32 rfl) trivial rfl ?_
                     refine al_stm (st_alloc q7_az32 rfl ml_25) trivial rfl (fun m_37 hm_37 => ?_)
                     have mon_25_37 := m_push hm_37 ml_25
                     (try simp only [packA_t, packA_f, iE, bE, setAt, cellsA, Value.cells, map_vc, map_vn, Nat.reduceAdd, qS, rE] at mon_25_37)
                     have mo0_37 := m_push_o hm_37 mo0_25
                     have ml_37 := m_push_l hm_37 ml_25
                     clear hm_37 mo0_25
                     refine al_stm (st_store up_h (up_m rfl up_h) rfl rfl mon_25_37 q7_sz32 rfl (by first | exact Nat.le_of_ble_eq_true rfl | omega | (simp only [lnS] <;> omega) | (simp <;> omega))) trivial rfl (fun m_38 hm_38 => ?_)
                     have mon_25_38 := m_set hm_38 mon_25_37
                     (try simp only [packA_t, packA_f, iE, bE, setAt, cellsA, Value.cells, map_vc, map_vn, Nat.reduceAdd, qS, rE] at mon_25_38)
                     have mo0_38 := m_set_o hm_38 mo0_37 (by omega)
                     have ml_38 := m_set_l hm_38 ml_37
                     clear hm_38 mon_25_37 mo0_37
                     refine al_end (fun e_39 he_39 => ?_)
                     have s0_39 := ef 0 he_39 (up_n (u2 rfl s0_26))
                     have s2_39 := ef 2 he_39 (up_n (u2 rfl s2_26))
                     have s10_39 := ef 10 he_39 (up_n up_h)
                     clear he_39 s0_26 s2_26 s49_26 s50_26 s51_26 s52_26 s5_26
                     refine then_n ?_
                     refine aw_seq ?_
                     refine aw_seq ?_
                     refine aw_text (by kernel_rfl) ?_
                     refine al_ro' (ro_move s0_39) trivial rfl ?_
                     refine al_ro' (ro_eq (ro_len_row up_h rfl q7_sl29.1) (by first | (simp only [lnS] <;> rfl) | rfl)) trivial rfl ?_
                     refine al_ro' (ro_move ev_c) trivial rfl ?_
                     refine al_end (fun e_40 he_40 => ?_)
                     have s2_40 := ef 2 he_40 (up_m rfl (u2 rfl s2_39))
                     have s10_40 := ef 10 he_40 (up_m rfl (u2 rfl s10_39))
                     have s69_40 := ef 69 he_40 (u2 rfl up_h)
                     have s70_40 := ef 70 he_40 (up_m rfl up_h)
                     have s71_40 := ef 71 he_40 up_h
                     clear he_40 s0_39 s10_39 s2_39
                     refine then_n ?_
                     refine aw_block ?_
                     refine aw_loop (S := (Int × Int × Int)) (fun s e mem => match s with | ⟨i, M, R⟩ => (evA e (.tmp 71) = .v (.int .i64 i)) ∧ (evA e (.tmp 2) = evA e_40 (.tmp 2)) ∧ (evA e (.tmp 10) = evA e_40 (.tmp 10)) ∧ (evA e (.tmp 69) = evA e_40 (.tmp 69)) ∧ (evA e (.tmp 70) = evA e_40 (.tmp 70)) ∧ (mem[n_25]? = some (.box 32 [zA M, zA R])) ∧ (mem[0]? = m_38[0]?) ∧ (∃ n, mem.length = n ∧ n_25 + 1 ≤ n) ∧ ((0 ≤ i ∧ i ≤ ws.length ∧ M = lcmP ws i.toNat ∧ R = T % M))) (fun s => match s with | ⟨i, M, R⟩ => (ws.length - i).toNat) ⟨_, 1, 0⟩ ⟨s71_40, rfl, rfl, rfl, rfl, mon_25_38, rfl, ⟨_, ml_38, Nat.le_refl _⟩, ?_⟩ ?_
                     · (exact ⟨by omega, by omega, rfl, by omega⟩)
                     · rintro ⟨i, M, R⟩ e_41 m_41 ⟨s71_41, k2_41, k10_41, k69_41, k70_41, mon_25_41, mk0_41, ⟨n_41, ml_41, hn_41⟩, hinv⟩
                       have s2_41 := k2_41.trans s2_40
                       have s10_41 := k10_41.trans s10_40
                       have s69_41 := k69_41.trans s69_40
                       have s70_41 := k70_41.trans s70_40
                       have mo0_41 := mk0_41.trans mo0_38
                       (obtain ⟨p6, p7, p8, p9⟩ := hinv)
                       refine aw_seq ?_
                       refine aw_text (by kernel_rfl) ?_
                       refine al_ro' (ro_lss s71_41 s70_41) trivial rfl ?_
                       refine al_end (fun e_42 he_42 => ?_)
                       have s2_42 := ef 2 he_42 (up_m rfl s2_41)
                       have s10_42 := ef 10 he_42 (up_m rfl s10_41)
                       have s69_42 := ef 69 he_42 (up_m rfl s69_41)
                       have s70_42 := ef 70 he_42 (up_m rfl s70_41)
                       have s71_42 := ef 71 he_42 (up_m rfl s71_41)
                       have s72_42 := ef 72 he_42 up_h
                       clear he_42 s10_41 s2_41 s69_41 s70_41 s71_41
                       refine then_n ?_
                       refine aw_seq ?_
                       refine aw_case s72_42 (fun hq_43 => ?_) (fun hq_43 => ?_)
                       · (first | replace hq_43 := bnt hq_43 | replace hq_43 := bnf hq_43 | replace hq_43 := bt hq_43 | replace hq_43 := bf hq_43 | replace hq_43 := bt' hq_43 | replace hq_43 := bf' hq_43 | skip)
                         first
                         | (cases hq_43; done) | (exfalso; omega)
                         | (
                            (have hX := reL_at (ws := ws) (T := T) (i := i.toNat) (by omega); have hX0 := hw i.toNat (by omega); have hX1 : 1 ≤ ((reL ws T).getD i.toNat default).1 ∧ ((reL ws T).getD i.toNat default).1 ≤ 1000 := (by rw [hX]; exact hX0); have hX2 : ((reL ws T).getD i.toNat default).2 = T.tmod ((reL ws T).getD i.toNat default).1 := (by rw [hX]); have hap := lcmP_pos hw (n := i.toNat) (by omega); have hMb : 0 < M ∧ M ≤ 1000000000 := (by rw [p8]; exact ⟨hap, hL _ (by omega)⟩); have hdg := div_gcd hMb hX1; have hst : M * ((reL ws T).getD i.toNat default).1.tdiv ((Nat.gcd M.toNat ((reL ws T).getD i.toNat default).1.toNat : Nat) : Int) = lcmP ws (i.toNat + 1) := (by rw [p8, hX]; rfl); have hlS : lcmP ws (i.toNat + 1) = lcmS M ((reL ws T).getD i.toNat default).1 := hst.symm; have hsl := hL (i.toNat + 1) (by omega); have hsp := lcmP_pos hw (n := i.toNat + 1) (by omega))
                            refine aw_skip ?_
                            refine then_n ?_
                            refine aw_seq ?_
                            refine aw_block ?_
                            refine aw_seq ?_
                            refine aw_text (by kernel_rfl) ?_
                            refine al_ro' (ro_eq (ro_ix q7_sl29 s69_42 s71_42 (by first | decide | omega | (simp <;> omega)) (by first | (refine idx_map ?_; first | omega | (simp only [lnS]; omega)) | (refine idx_mapI ?_; first | omega | (simp only [lnS]; omega)) | (refine idx_mapN ?_; first | omega | (simp only [lnS]; omega)) | rfl)) (by first | (simp only [packA_t, packA_f, iE, bE, setAt, cellsA, Value.cells, map_vc, map_vn, Nat.reduceAdd, qS, rE] <;> rfl) | rfl)) trivial rfl ?_
                            refine al_ro' (ro_eq (ro_ld_ref q7_ty32 rfl up_h (by first | exact Nat.le_of_ble_eq_true rfl | omega | (simp only [lnS] <;> omega) | (simp <;> omega))) (by first | (simp only [packA_t, packA_f, iE, bE, setAt, cellsA, Value.cells, map_vc, map_vn, Nat.reduceAdd, qS, rE] <;> rfl) | rfl)) trivial rfl ?_
                            refine al_stm (st_alloc q7_az32 rfl ml_41) trivial rfl (fun m_44 hm_44 => ?_)
                            have mon_41_44 := m_push hm_44 ml_41
                            (try simp only [packA_t, packA_f, iE, bE, setAt, cellsA, Value.cells, map_vc, map_vn, Nat.reduceAdd, qS, rE] at mon_41_44)
                            have mon_25_44 := m_push_o hm_44 mon_25_41
                            have mo0_44 := m_push_o hm_44 mo0_41
                            have ml_44 := m_push_l hm_44 ml_41
                            clear hm_44 mon_25_41 mo0_41
                            refine al_stm (st_store up_h (up_m rfl up_h) rfl rfl mon_41_44 q7_sz32 rfl (by first | exact Nat.le_of_ble_eq_true rfl | omega | (simp only [lnS] <;> omega) | (simp <;> omega))) trivial rfl (fun m_45 hm_45 => ?_)
                            have mon_41_45 := m_set hm_45 mon_41_44
                            (try simp only [packA_t, packA_f, iE, bE, setAt, cellsA, Value.cells, map_vc, map_vn, Nat.reduceAdd, qS, rE] at mon_41_45)
                            have mon_25_45 := m_set_o hm_45 mon_25_44 (by omega)
                            have mo0_45 := m_set_o hm_45 mo0_44 (by omega)
                            have ml_45 := m_set_l hm_45 ml_44
                            clear hm_45 mon_41_44 mon_25_44 mo0_44
                            refine al_end (fun e_46 he_46 => ?_)
                            have s2_46 := ef 2 he_46 (up_n (up_m rfl (u2 rfl s2_42)))
                            have s10_46 := ef 10 he_46 (up_n (up_m rfl (u2 rfl s10_42)))
                            have s12_46 := ef 12 he_46 (up_n up_h)
                            have s69_46 := ef 69 he_46 (up_n (up_m rfl (u2 rfl s69_42)))
                            have s70_46 := ef 70 he_46 (up_n (up_m rfl (u2 rfl s70_42)))
                            have s71_46 := ef 71 he_46 (up_n (up_m rfl (u2 rfl s71_42)))
                            clear he_46 s10_42 s2_42 s69_42 s70_42 s71_42 s72_42
                            refine then_n ?_
                            refine aw_seq ?_
                            refine aw_text (by kernel_rfl) ?_
                            refine al_ro' (ro_assign ev_c) trivial rfl ?_
                            refine al_end (fun e_47 he_47 => ?_)
                            have s2_47 := ef 2 he_47 (up_m rfl s2_46)
                            have s10_47 := ef 10 he_47 (up_m rfl s10_46)
                            have s12_47 := ef 12 he_47 (up_m rfl s12_46)
                            have s13_47 := ef 13 he_47 up_h
                            have s69_47 := ef 69 he_47 (up_m rfl s69_46)
                            have s70_47 := ef 70 he_47 (up_m rfl s70_46)
                            have s71_47 := ef 71 he_47 (up_m rfl s71_46)
                            clear he_47 s10_46 s12_46 s2_46 s69_46 s70_46 s71_46
                            refine then_n ?_
                            refine aw_seq ?_
                            refine aw_block ?_
                            refine aw_loop (S := (Int × Int)) (fun s e mem => match s with | ⟨tr, re⟩ => (evA e (.tmp 13) = .v (.int .i64 tr)) ∧ (evA e (.tmp 2) = evA e_47 (.tmp 2)) ∧ (evA e (.tmp 10) = evA e_47 (.tmp 10)) ∧ (evA e (.tmp 12) = evA e_47 (.tmp 12)) ∧ (evA e (.tmp 69) = evA e_47 (.tmp 69)) ∧ (evA e (.tmp 70) = evA e_47 (.tmp 70)) ∧ (evA e (.tmp 71) = evA e_47 (.tmp 71)) ∧ (mem[n_25]? = some (.box 32 [zA M, zA re])) ∧ (mem[n_41]? = m_45[n_41]?) ∧ (mem[0]? = m_45[0]?) ∧ (mem.length = n_41 + 1) ∧ ((0 ≤ tr ∧ re = T % M + tr * M ∧ re ≤ T % lcmS M ((reL ws T).getD i.toNat default).1))) (fun s => match s with | ⟨tr, re⟩ => (T % lcmS M ((reL ws T).getD i.toNat default).1 - re).toNat) ⟨_, R⟩ ⟨s13_47, rfl, rfl, rfl, rfl, rfl, rfl, mon_25_45, rfl, rfl, ml_45, ?_⟩ ?_
                            · (refine ⟨by omega, by omega, ?_⟩; rw [p9]; exact rest_le hMb.1 hX1.1 hT.1)
                            · rintro ⟨tr, re⟩ e_48 m_48 ⟨s13_48, k2_48, k10_48, k12_48, k69_48, k70_48, k71_48, mon_25_48, mkn_41_48, mk0_48, ml_48, hinv⟩
                              have s2_48 := k2_48.trans s2_47
                              have s10_48 := k10_48.trans s10_47
                              have s12_48 := k12_48.trans s12_47
                              have s69_48 := k69_48.trans s69_47
                              have s70_48 := k70_48.trans s70_47
                              have s71_48 := k71_48.trans s71_47
                              have mon_41_48 := mkn_41_48.trans mon_41_45
                              have mo0_48 := mk0_48.trans mo0_45
                              (obtain ⟨q1, q2, q3⟩ := hinv; obtain ⟨k1, k2, k3, k4, k5, k6⟩ := round_facts hMb.1 hX1.1 hT.1 q1 q2 q3)
                              refine aw_seq ?_
                              refine aw_seq ?_
                              refine aw_draw 8 (by kernel_rfl) (by kernel_rfl) (by kernel_rfl) (by kernel_rfl) ?_
                              refine ds_ro' (ro_fld_ptr q7_fl32_1 rfl s10_48) trivial rfl ?_
                              refine ds_ro' (ro_eq (ro_ld_ptr q7_ty3 rfl mon_25_48 up_h (by first | exact Nat.le_of_ble_eq_true rfl | omega | (simp only [lnS] <;> omega) | (simp <;> omega))) (by first | (simp only [packA_t, packA_f, iE, bE, setAt, cellsA, Value.cells, map_vc, map_vn, Nat.reduceAdd, qS, rE] <;> rfl) | rfl)) trivial rfl ?_
                              refine ds_ro' (ro_fld_ptr q7_fl32_0 rfl (u2 rfl s12_48)) trivial rfl ?_
                              refine ds_ro' (ro_eq (ro_ld_ptr q7_ty3 rfl mon_41_48 up_h (by first | exact Nat.le_of_ble_eq_true rfl | omega | (simp only [lnS] <;> omega) | (simp <;> omega))) (by first | (simp only [packA_t, packA_f, iE, bE, setAt, cellsA, Value.cells, map_vc, map_vn, Nat.reduceAdd, qS, rE] <;> rfl) | rfl)) trivial rfl ?_
                              refine ds_ro' (ro_rem (u2 rfl up_h) up_h (by first | decide | omega)) trivial rfl ?_
                              refine ds_ro' (ro_fld_ptr q7_fl32_1 rfl (up_m rfl (u4 rfl s12_48))) trivial rfl ?_
                              refine ds_ro' (ro_eq (ro_ld_ptr q7_ty3 rfl mon_41_48 up_h (by first | exact Nat.le_of_ble_eq_true rfl | omega | (simp only [lnS] <;> omega) | (simp <;> omega))) (by first | (simp only [packA_t, packA_f, iE, bE, setAt, cellsA, Value.cells, map_vc, map_vn, Nat.reduceAdd, qS, rE] <;> rfl) | rfl)) trivial rfl ?_
                              refine ds_ro' (ro_neq (u2 rfl up_h) up_h) trivial rfl ?_
                              refine ds_nil ?_
                              refine al_end (fun e_49 he_49 => ?_)
                              have s2_49 := ef 2 he_49 (u8 rfl s2_48)
                              have s10_49 := ef 10 he_49 (u8 rfl s10_48)
                              have s12_49 := ef 12 he_49 (u8 rfl s12_48)
                              have s13_49 := ef 13 he_49 (u8 rfl s13_48)
                              have s69_49 := ef 69 he_49 (u8 rfl s69_48)
                              have s70_49 := ef 70 he_49 (u8 rfl s70_48)
                              have s71_49 := ef 71 he_49 (u8 rfl s71_48)
                              have s82_49 := ef 82 he_49 up_h
                              clear he_49 s10_48 s12_48 s13_48 s2_48 s69_48 s70_48 s71_48
                              refine then_n ?_
                              refine aw_case s82_49 (fun hq_50 => ?_) (fun hq_50 => ?_)
                              · (first | replace hq_50 := bnt hq_50 | replace hq_50 := bnf hq_50 | replace hq_50 := bt hq_50 | replace hq_50 := bf hq_50 | replace hq_50 := bt' hq_50 | replace hq_50 := bf' hq_50 | skip)
                                first
                                | (cases hq_50; done) | (exfalso; omega)
                                | (
                                   refine aw_skip ?_
                                   refine then_n ?_
                                   refine aw_block ?_
                                   refine aw_seq ?_
                                   refine aw_seq ?_
                                   refine aw_text (by kernel_rfl) ?_
                                   refine al_ro' (ro_move s13_49) trivial rfl ?_
                                   first | (refine al_ro' (ro_add' up_h ev_c ?_) trivial rfl ?_; · (unfold In64; omega)) | refine al_ro' (ro_add up_h ev_c) trivial rfl ?_
                                   refine al_ro' (ro_assign up_h) trivial rfl ?_
                                   refine al_end (fun e_51 he_51 => ?_)
                                   have s2_51 := ef 2 he_51 (up_m rfl (u2 rfl s2_49))
                                   have s10_51 := ef 10 he_51 (up_m rfl (u2 rfl s10_49))
                                   have s12_51 := ef 12 he_51 (up_m rfl (u2 rfl s12_49))
                                   have s13_51 := ef 13 he_51 up_h
                                   have s69_51 := ef 69 he_51 (up_m rfl (u2 rfl s69_49))
                                   have s70_51 := ef 70 he_51 (up_m rfl (u2 rfl s70_49))
                                   have s71_51 := ef 71 he_51 (up_m rfl (u2 rfl s71_49))
                                   clear he_51 s10_49 s12_49 s13_49 s2_49 s69_49 s70_49 s71_49 s82_49
                                   refine then_n ?_
                                   refine aw_seq ?_
                                   refine aw_text (by kernel_rfl) ?_
                                   refine al_ro' (ro_move s13_51) trivial rfl ?_
                                   refine al_ro' (ro_fld_ptr q7_fl32_0 rfl (up_m rfl s12_51)) trivial rfl ?_
                                   refine al_ro' (ro_eq (ro_ld_ptr q7_ty3 rfl mon_41_48 up_h (by first | exact Nat.le_of_ble_eq_true rfl | omega | (simp only [lnS] <;> omega) | (simp <;> omega))) (by first | (simp only [packA_t, packA_f, iE, bE, setAt, cellsA, Value.cells, map_vc, map_vn, Nat.reduceAdd, qS, rE] <;> rfl) | rfl)) trivial rfl ?_
                                   refine al_ro' (ro_gtr (u2 rfl up_h) up_h) trivial rfl ?_
                                   refine al_end (fun e_52 he_52 => ?_)
                                   have s2_52 := ef 2 he_52 (u4 rfl s2_51)
                                   have s10_52 := ef 10 he_52 (u4 rfl s10_51)
                                   have s12_52 := ef 12 he_52 (u4 rfl s12_51)
                                   have s13_52 := ef 13 he_52 (u4 rfl s13_51)
                                   have s69_52 := ef 69 he_52 (u4 rfl s69_51)
                                   have s70_52 := ef 70 he_52 (u4 rfl s70_51)
                                   have s71_52 := ef 71 he_52 (u4 rfl s71_51)
                                   have s88_52 := ef 88 he_52 up_h
                                   clear he_52 s10_51 s12_51 s13_51 s2_51 s69_51 s70_51 s71_51
                                   refine then_n ?_
                                   refine aw_case s88_52 (fun hq_53 => ?_) (fun hq_53 => ?_)
                                   · (first | replace hq_53 := bnt hq_53 | replace hq_53 := bnf hq_53 | replace hq_53 := bt hq_53 | replace hq_53 := bf hq_53 | replace hq_53 := bt' hq_53 | replace hq_53 := bf' hq_53 | skip)
                                     first
                                     | (cases hq_53; done) | (exfalso; omega)
                                     | (
                                        refine aw_seq ?_
                                        refine aw_text (by kernel_rfl) ?_
                                        refine al_ro' (ro_build evP_nil q7_bz32 q7_bu32 q7_bp32 rfl) trivial rfl ?_
                                        refine al_stm (st_store (up_m rfl s2_52) up_h rfl rfl mo0_48 q7_sz32 rfl (by first | exact Nat.le_of_ble_eq_true rfl | omega | (simp only [lnS] <;> omega) | (simp <;> omega))) trivial rfl (fun m_54 hm_54 => ?_)
                                        have mo0_54 := m_set hm_54 mo0_48
                                        (try simp only [packA_t, packA_f, iE, bE, setAt, cellsA, Value.cells, map_vc, map_vn, Nat.reduceAdd, qS, rE] at mo0_54)
                                        have mon_25_54 := m_set_o hm_54 mon_25_48 (by omega)
                                        have mon_41_54 := m_set_o hm_54 mon_41_48 (by omega)
                                        have ml_54 := m_set_l hm_54 ml_48
                                        clear hm_54 mon_25_48 mon_41_48 mo0_48
                                        refine al_ro' (ro_assign ev_c) trivial rfl ?_
                                        refine al_end (fun e_55 he_55 => ?_)
                                        have s2_55 := ef 2 he_55 (up_m rfl (up_n (up_m rfl s2_52)))
                                        have s3_55 := ef 3 he_55 up_h
                                        clear he_55 s10_52 s12_52 s13_52 s2_52 s69_52 s70_52 s71_52 s88_52
                                        refine then_n ?_
                                        refine aw_ret ?_
                                        refine then_r ?_
                                        refine block_r ?_
                                        refine then_r ?_
                                        refine block_r ?_
                                        refine then_r ?_
                                        refine block_r ?_
                                        refine then_r ?_
                                        refine then_r ?_
                                        refine block_r ?_
                                        refine then_r ?_
                                        refine ret2 (.inr rfl) (by kernel_rfl) (resV_cell s2_55 mo0_54 q7_ty32 (by first | exact Nat.le_of_ble_eq_true rfl | omega | (simp only [lnS] <;> omega) | (simp <;> omega)) (by simp)) (resV_tmp s3_55) (vw_r (.ro _ rfl)) (.ro _ rfl) ?_
                                        clear s2_55 s3_55 mo0_54 mon_25_54 mon_41_54 ml_54
                                        (rw [p9, p8, show i.toNat = ws.length by omega]; rfl))
                                   · (first | replace hq_53 := bnt hq_53 | replace hq_53 := bnf hq_53 | replace hq_53 := bt hq_53 | replace hq_53 := bf hq_53 | replace hq_53 := bt' hq_53 | replace hq_53 := bf' hq_53 | skip)
                                     first
                                     | (cases hq_53; done) | (exfalso; omega)
                                     | (
                                        refine aw_skip ?_
                                        refine then_n ?_
                                        refine aw_text (by kernel_rfl) ?_
                                        refine al_ro' (ro_fld_ptr q7_fl32_1 rfl s10_52) trivial rfl ?_
                                        refine al_ro' (ro_eq (ro_ld_ptr q7_ty3 rfl mon_25_48 up_h (by first | exact Nat.le_of_ble_eq_true rfl | omega | (simp only [lnS] <;> omega) | (simp <;> omega))) (by first | (simp only [packA_t, packA_f, iE, bE, setAt, cellsA, Value.cells, map_vc, map_vn, Nat.reduceAdd, qS, rE] <;> rfl) | rfl)) trivial rfl ?_
                                        refine al_ro' (ro_fld_ptr q7_fl32_0 rfl (u2 rfl s10_52)) trivial rfl ?_
                                        refine al_ro' (ro_eq (ro_ld_ptr q7_ty3 rfl mon_25_48 up_h (by first | exact Nat.le_of_ble_eq_true rfl | omega | (simp only [lnS] <;> omega) | (simp <;> omega))) (by first | (simp only [packA_t, packA_f, iE, bE, setAt, cellsA, Value.cells, map_vc, map_vn, Nat.reduceAdd, qS, rE] <;> rfl) | rfl)) trivial rfl ?_
                                        first | (refine al_ro' (ro_add' (u2 rfl up_h) up_h ?_) trivial rfl ?_; · (unfold In64; omega)) | refine al_ro' (ro_add (u2 rfl up_h) up_h) trivial rfl ?_
                                        refine al_ro' (ro_fld_ptr q7_fl32_1 rfl (up_m rfl (u4 rfl s10_52))) trivial rfl ?_
                                        refine al_stm (st_store up_h (up_m rfl up_h) rfl rfl mon_25_48 q7_sz3 rfl (by first | exact Nat.le_of_ble_eq_true rfl | omega | (simp only [lnS] <;> omega) | (simp <;> omega))) trivial rfl (fun m_56 hm_56 => ?_)
                                        have mon_25_56 := m_set hm_56 mon_25_48
                                        (try simp only [packA_t, packA_f, iE, bE, setAt, cellsA, Value.cells, map_vc, map_vn, Nat.reduceAdd, qS, rE] at mon_25_56)
                                        have mon_41_56 := m_set_o hm_56 mon_41_48 (by omega)
                                        have mo0_56 := m_set_o hm_56 mo0_48 (by omega)
                                        have ml_56 := m_set_l hm_56 ml_48
                                        clear hm_56 mon_25_48 mon_41_48 mo0_48
                                        refine al_end (fun e_57 he_57 => ?_)
                                        have s2_57 := ef 2 he_57 (up_n (u2 rfl (u4 rfl s2_52)))
                                        have s10_57 := ef 10 he_57 (up_n (u2 rfl (u4 rfl s10_52)))
                                        have s12_57 := ef 12 he_57 (up_n (u2 rfl (u4 rfl s12_52)))
                                        have s13_57 := ef 13 he_57 (up_n (u2 rfl (u4 rfl s13_52)))
                                        have s69_57 := ef 69 he_57 (up_n (u2 rfl (u4 rfl s69_52)))
                                        have s70_57 := ef 70 he_57 (up_n (u2 rfl (u4 rfl s70_52)))
                                        have s71_57 := ef 71 he_57 (up_n (u2 rfl (u4 rfl s71_52)))
                                        clear he_57 s10_52 s12_52 s13_52 s2_52 s69_52 s70_52 s71_52 s88_52
                                        refine block_n ?_
                                        refine then_n ?_
                                        refine ⟨⟨_, _⟩, ⟨s13_57, (s2_57.trans s2_47.symm), (s10_57.trans s10_47.symm), (s12_57.trans s12_47.symm), (s69_57.trans s69_47.symm), (s70_57.trans s70_47.symm), (s71_57.trans s71_47.symm), mon_25_56, (mon_41_56.trans mon_41_45.symm), (mo0_56.trans mo0_45.symm), ml_56, ?_⟩, ?_⟩
                                        · (obtain ⟨k7, k8⟩ := k6 (by omega); refine ⟨by omega, by rw [Int.add_mul, Int.one_mul]; omega, by omega⟩)
                                        · ((try dsimp only); omega)))
                              · (first | replace hq_50 := bnt hq_50 | replace hq_50 := bnf hq_50 | replace hq_50 := bt hq_50 | replace hq_50 := bf hq_50 | replace hq_50 := bt' hq_50 | replace hq_50 := bf' hq_50 | skip)
                                first
                                | (cases hq_50; done) | (exfalso; omega)
                                | (
                                   (have hre2 : re = T % lcmS M ((reL ws T).getD i.toNat default).1 := k5 (by omega))
                                   refine aw_exit ?_
                                   refine then_x ?_
                                   refine then_x ?_
                                   refine block_hit ?_
                                   refine then_n ?_
                                   refine aw_seq ?_
                                   refine aw_draw 12 (by kernel_rfl) (by kernel_rfl) (by kernel_rfl) (by kernel_rfl) ?_
                                   refine ds_ro' (ro_fld_ptr q7_fl32_0 rfl s10_49) trivial rfl ?_
                                   refine ds_ro' (ro_eq (ro_ld_ptr q7_ty3 rfl mon_25_48 up_h (by first | exact Nat.le_of_ble_eq_true rfl | omega | (simp only [lnS] <;> omega) | (simp <;> omega))) (by first | (simp only [packA_t, packA_f, iE, bE, setAt, cellsA, Value.cells, map_vc, map_vn, Nat.reduceAdd, qS, rE] <;> rfl) | rfl)) trivial rfl ?_
                                   refine ds_ro' (ro_fld_ptr q7_fl32_0 rfl (u2 rfl s12_49)) trivial rfl ?_
                                   refine ds_ro' (ro_eq (ro_ld_ptr q7_ty3 rfl mon_41_48 up_h (by first | exact Nat.le_of_ble_eq_true rfl | omega | (simp only [lnS] <;> omega) | (simp <;> omega))) (by first | (simp only [packA_t, packA_f, iE, bE, setAt, cellsA, Value.cells, map_vc, map_vn, Nat.reduceAdd, qS, rE] <;> rfl) | rfl)) trivial rfl ?_
                                   refine ds_ro' (ro_fld_ptr q7_fl32_0 rfl (u4 rfl s10_49)) trivial rfl ?_
                                   refine ds_ro' (ro_eq (ro_ld_ptr q7_ty3 rfl mon_25_48 up_h (by first | exact Nat.le_of_ble_eq_true rfl | omega | (simp only [lnS] <;> omega) | (simp <;> omega))) (by first | (simp only [packA_t, packA_f, iE, bE, setAt, cellsA, Value.cells, map_vc, map_vn, Nat.reduceAdd, qS, rE] <;> rfl) | rfl)) trivial rfl ?_
                                   refine ds_ro' (ro_fld_ptr q7_fl32_0 rfl (u2 rfl (u4 rfl s12_49))) trivial rfl ?_
                                   refine ds_ro' (ro_eq (ro_ld_ptr q7_ty3 rfl mon_41_48 up_h (by first | exact Nat.le_of_ble_eq_true rfl | omega | (simp only [lnS] <;> omega) | (simp <;> omega))) (by first | (simp only [packA_t, packA_f, iE, bE, setAt, cellsA, Value.cells, map_vc, map_vn, Nat.reduceAdd, qS, rE] <;> rfl) | rfl)) trivial rfl ?_
                                   refine ds_ro' (ro_call (evL_cons (u2 rfl up_h) (evL_cons up_h evL_nil)) rfl (divisorI_ok M ((reL ws T).getD i.toNat default).1 hMb hX1) q7_hcf43) trivial rfl ?_
                                   first | (refine ds_ro' (ro_quo' (up_m rfl (u4 rfl up_h)) up_h (by first | decide | omega) ?_) trivial rfl ?_; · (unfold In64; omega)) | refine ds_ro' (ro_quo (up_m rfl (u4 rfl up_h)) up_h (by first | decide | omega)) trivial rfl ?_
                                   first | (refine ds_ro' (ro_mul' (u8 rfl up_h) up_h ?_) trivial rfl ?_; · (unfold In64; omega)) | refine ds_ro' (ro_mul (u8 rfl up_h) up_h) trivial rfl ?_
                                   refine ds_ro' (ro_fld_ptr q7_fl32_0 rfl (up_m rfl (u2 rfl (u8 rfl s10_49)))) trivial rfl ?_
                                   refine ds_nil ?_
                                   refine al_stm (st_store up_h (up_m rfl up_h) rfl rfl mon_25_48 q7_sz3 rfl (by first | exact Nat.le_of_ble_eq_true rfl | omega | (simp only [lnS] <;> omega) | (simp <;> omega))) trivial rfl (fun m_58 hm_58 => ?_)
                                   have mon_25_58 := m_set hm_58 mon_25_48
                                   (try simp only [packA_t, packA_f, iE, bE, setAt, cellsA, Value.cells, map_vc, map_vn, Nat.reduceAdd, qS, rE] at mon_25_58)
                                   have mon_41_58 := m_set_o hm_58 mon_41_48 (by omega)
                                   have mo0_58 := m_set_o hm_58 mo0_48 (by omega)
                                   have ml_58 := m_set_l hm_58 ml_48
                                   clear hm_58 mon_25_48 mon_41_48 mo0_48
                                   refine al_end (fun e_59 he_59 => ?_)
                                   have s2_59 := ef 2 he_59 (up_n (u4 rfl (u8 rfl s2_49)))
                                   have s10_59 := ef 10 he_59 (up_n (u4 rfl (u8 rfl s10_49)))
                                   have s69_59 := ef 69 he_59 (up_n (u4 rfl (u8 rfl s69_49)))
                                   have s70_59 := ef 70 he_59 (up_n (u4 rfl (u8 rfl s70_49)))
                                   have s71_59 := ef 71 he_59 (up_n (u4 rfl (u8 rfl s71_49)))
                                   clear he_59 s10_49 s12_49 s13_49 s2_49 s69_49 s70_49 s71_49 s82_49
                                   refine then_n ?_
                                   refine aw_text (by kernel_rfl) ?_
                                   refine al_ro' (ro_fld_ptr q7_fl32_1 rfl s10_59) trivial rfl ?_
                                   refine al_ro' (ro_eq (ro_ld_ptr q7_ty3 rfl mon_25_58 up_h (by first | exact Nat.le_of_ble_eq_true rfl | omega | (simp only [lnS] <;> omega) | (simp <;> omega))) (by first | (simp only [packA_t, packA_f, iE, bE, setAt, cellsA, Value.cells, map_vc, map_vn, Nat.reduceAdd, qS, rE] <;> rfl) | rfl)) trivial rfl ?_
                                   refine al_ro' (ro_fld_ptr q7_fl32_0 rfl (u2 rfl s10_59)) trivial rfl ?_
                                   refine al_ro' (ro_eq (ro_ld_ptr q7_ty3 rfl mon_25_58 up_h (by first | exact Nat.le_of_ble_eq_true rfl | omega | (simp only [lnS] <;> omega) | (simp <;> omega))) (by first | (simp only [packA_t, packA_f, iE, bE, setAt, cellsA, Value.cells, map_vc, map_vn, Nat.reduceAdd, qS, rE] <;> rfl) | rfl)) trivial rfl ?_
                                   refine al_ro' (ro_rem (u2 rfl up_h) up_h (by first | decide | omega)) trivial rfl ?_
                                   refine al_ro' (ro_fld_ptr q7_fl32_1 rfl (up_m rfl (u4 rfl s10_59))) trivial rfl ?_
                                   refine al_stm (st_store up_h (up_m rfl up_h) rfl rfl mon_25_58 q7_sz3 rfl (by first | exact Nat.le_of_ble_eq_true rfl | omega | (simp only [lnS] <;> omega) | (simp <;> omega))) trivial rfl (fun m_60 hm_60 => ?_)
                                   have mon_25_60 := m_set hm_60 mon_25_58
                                   (try simp only [packA_t, packA_f, iE, bE, setAt, cellsA, Value.cells, map_vc, map_vn, Nat.reduceAdd, qS, rE] at mon_25_60)
                                   have mon_41_60 := m_set_o hm_60 mon_41_58 (by omega)
                                   have mo0_60 := m_set_o hm_60 mo0_58 (by omega)
                                   have ml_60 := m_set_l hm_60 ml_58
                                   clear hm_60 mon_25_58 mon_41_58 mo0_58
                                   refine al_end (fun e_61 he_61 => ?_)
                                   have s2_61 := ef 2 he_61 (up_n (u2 rfl (u4 rfl s2_59)))
                                   have s10_61 := ef 10 he_61 (up_n (u2 rfl (u4 rfl s10_59)))
                                   have s69_61 := ef 69 he_61 (up_n (u2 rfl (u4 rfl s69_59)))
                                   have s70_61 := ef 70 he_61 (up_n (u2 rfl (u4 rfl s70_59)))
                                   have s71_61 := ef 71 he_61 (up_n (u2 rfl (u4 rfl s71_59)))
                                   clear he_61 s10_59 s2_59 s69_59 s70_59 s71_59
                                   refine block_n ?_
                                   refine then_n ?_
                                   refine aw_text (by kernel_rfl) ?_
                                   first | (refine al_ro' (ro_add' s71_61 ev_c ?_) trivial rfl ?_; · (unfold In64; omega)) | refine al_ro' (ro_add s71_61 ev_c) trivial rfl ?_
                                   refine al_ro' (ro_move up_h) trivial rfl ?_
                                   refine al_end (fun e_62 he_62 => ?_)
                                   have s2_62 := ef 2 he_62 (u2 rfl s2_61)
                                   have s10_62 := ef 10 he_62 (u2 rfl s10_61)
                                   have s69_62 := ef 69 he_62 (u2 rfl s69_61)
                                   have s70_62 := ef 70 he_62 (u2 rfl s70_61)
                                   have s71_62 := ef 71 he_62 up_h
                                   clear he_62 s10_61 s2_61 s69_61 s70_61 s71_61
                                   refine then_n ?_
                                   refine ⟨⟨_, _, _⟩, ⟨s71_62, (s2_62.trans s2_40.symm), (s10_62.trans s10_40.symm), (s69_62.trans s69_40.symm), (s70_62.trans s70_40.symm), mon_25_60, (mo0_60.trans mo0_38.symm), ⟨_, ml_60, by omega⟩, ?_⟩, ?_⟩
                                   · (refine ⟨by omega, by omega, ?_, ?_⟩; (rw [show (i + 1).toNat = i.toNat + 1 by omega]; exact hst); (rw [Int.tmod_eq_emod_of_nonneg k1, hst, hlS, hre2]; exact Int.emod_emod_of_dvd _ (Int.dvd_refl _)))
                                   · ((try dsimp only); omega)))
                       · (first | replace hq_43 := bnt hq_43 | replace hq_43 := bnf hq_43 | replace hq_43 := bt hq_43 | replace hq_43 := bf hq_43 | replace hq_43 := bt' hq_43 | replace hq_43 := bf' hq_43 | skip)
                         first
                         | (cases hq_43; done) | (exfalso; omega)
                         | (
                            refine aw_exit ?_
                            refine then_x ?_
                            refine then_x ?_
                            refine block_hit ?_
                            refine then_n ?_
                            refine aw_seq ?_
                            refine aw_text (by kernel_rfl) ?_
                            refine al_ro' (ro_eq (ro_ld_ptr q7_ty32 rfl mon_25_41 s10_42 (by first | exact Nat.le_of_ble_eq_true rfl | omega | (simp only [lnS] <;> omega) | (simp <;> omega))) (by first | (simp only [packA_t, packA_f, iE, bE, setAt, cellsA, Value.cells, map_vc, map_vn, Nat.reduceAdd, qS, rE] <;> rfl) | rfl)) trivial rfl ?_
                            refine al_stm (st_store (up_m rfl s2_42) up_h rfl rfl mo0_41 q7_sz32 rfl (by first | exact Nat.le_of_ble_eq_true rfl | omega | (simp only [lnS] <;> omega) | (simp <;> omega))) trivial rfl (fun m_63 hm_63 => ?_)
                            have mo0_63 := m_set hm_63 mo0_41
                            (try simp only [packA_t, packA_f, iE, bE, setAt, cellsA, Value.cells, map_vc, map_vn, Nat.reduceAdd, qS, rE] at mo0_63)
                            have mon_25_63 := m_set_o hm_63 mon_25_41 (by omega)
                            have ml_63 := m_set_l hm_63 ml_41
                            clear hm_63 mon_25_41 mo0_41
                            refine al_ro' (ro_assign ev_c) trivial rfl ?_
                            refine al_end (fun e_64 he_64 => ?_)
                            have s2_64 := ef 2 he_64 (up_m rfl (up_n (up_m rfl s2_42)))
                            have s3_64 := ef 3 he_64 up_h
                            clear he_64 s10_42 s2_42 s69_42 s70_42 s71_42 s72_42
                            refine then_n ?_
                            refine aw_ret ?_
                            refine ret2 (.inr rfl) (by kernel_rfl) (resV_cell s2_64 mo0_63 q7_ty32 (by first | exact Nat.le_of_ble_eq_true rfl | omega | (simp only [lnS] <;> omega) | (simp <;> omega)) (by simp)) (resV_tmp s3_64) (vw_r (.ro _ rfl)) (.ro _ rfl) ?_
                            clear s2_64 s3_64 mo0_63 mon_25_63 ml_63
                            (rw [p9, p8, show i.toNat = ws.length by omega]; rfl)))))
set_option maxRecDepth 100000 in
set_option maxHeartbeats 1000000 in
theorem only_ok (lo hi : Int) : FnOk Try.prog 49 [.row 2 ([(lo, hi)].map rE), zA 0] (fun q => q = .tuple [raA lo hi, zA 0]) := by
  refine fnOk_of (fn := Try.f49) 27 (by kernel_rfl) rfl (by kernel_rfl) (Nat.le_of_ble_eq_true rfl) ?_
  intro e_0 m_0 hA hm_0
  have s0_0 : evA e_0 (.tmp 0) = _ := hA 0 _ rfl
  have s1_0 : evA e_0 (.tmp 1) = _ := hA 1 _ rfl
  have ml_0 : m_0.length = 0 := by rw [hm_0]; rfl
  clear hA hm_0
  refine aw_seq ?_
  refine aw_text (by kernel_rfl) ?_
  refine al_stm (st_alloc q7_az42 rfl ml_0) trivial rfl (fun m_1 hm_1 => ?_)
  have mo0_1 := m_push hm_1 ml_0
  (try simp only [packA_t, packA_f, iE, bE, setAt, cellsA, Value.cells, map_vc, map_vn, Nat.reduceAdd, qS, rE] at mo0_1)
  have ml_1 := m_push_l hm_1 ml_0
  have ml_1 : _ = 1 := ml_1
  clear hm_1
  refine al_ro' (ro_assign ev_c) trivial rfl ?_
  refine al_end (fun e_2 he_2 => ?_)
  have s0_2 := ef 0 he_2 (u2 rfl s0_0)
  have s1_2 := ef 1 he_2 (u2 rfl s1_0)
  have s4_2 := ef 4 he_2 (up_m rfl up_h)
  clear he_2 s0_0 s1_0
  refine then_n ?_
  refine aw_seq ?_
  refine aw_text (by kernel_rfl) ?_
  refine al_stm (st_alloc q7_az42 rfl ml_1) trivial rfl (fun m_3 hm_3 => ?_)
  have mo1_3 := m_push hm_3 ml_1
  (try simp only [packA_t, packA_f, iE, bE, setAt, cellsA, Value.cells, map_vc, map_vn, Nat.reduceAdd, qS, rE] at mo1_3)
  have mo0_3 := m_push_o hm_3 mo0_1
  have ml_3 := m_push_l hm_3 ml_1
  have ml_3 : _ = 2 := ml_3
  clear hm_3 mo0_1
  refine al_end (fun e_4 he_4 => ?_)
  have s0_4 := ef 0 he_4 (up_m rfl s0_2)
  have s1_4 := ef 1 he_4 (up_m rfl s1_2)
  have s4_4 := ef 4 he_4 (up_m rfl s4_2)
  have s6_4 := ef 6 he_4 up_h
  clear he_4 s0_2 s1_2 s4_2
  refine then_n ?_
  refine aw_seq ?_
  refine aw_seq ?_
  refine aw_text (by kernel_rfl) ?_
  refine al_ro' (ro_move s1_4) trivial rfl ?_
  refine al_ro' (ro_move (up_m rfl s0_4)) trivial rfl ?_
  refine al_ro' (ro_eq (ro_len_row up_h rfl q7_sl97.1) (by first | (simp only [lnS] <;> rfl) | rfl)) trivial rfl ?_
  refine al_ro' (ro_gtr up_h ev_c) trivial rfl ?_
  refine al_ro' (ro_call (evL_cons up_h (evL_cons ev_c evL_nil)) rfl (qUnless_ok _ _) q7_hcf41) trivial rfl ?_
  refine al_ro' (ro_move (up_m rfl (u4 rfl s0_4))) trivial rfl ?_
  refine al_ro' (ro_eq (ro_len_row up_h rfl q7_sl97.1) (by first | (simp only [lnS] <;> rfl) | rfl)) trivial rfl ?_
  refine al_ro' (ro_leq up_h ev_c) trivial rfl ?_
  refine al_ro' (ro_call (evL_cons up_h (evL_cons ev_c evL_nil)) rfl (qUnless_ok _ _) q7_hcf41) trivial rfl ?_
  refine al_ro' (ro_lit q7_sl126 (evP_cons (u8 rfl up_h) (evP_cons (u4 rfl up_h) (evP_cons up_h evP_nil))) rfl rfl rfl rfl) trivial rfl ?_
  refine al_ro' (ro_call (evL_cons up_h evL_nil) rfl ((qFirst_ok [_, _, _] (by simp)).mono (fun q h => h.trans (show _ = zA 0 from by kernel_rfl))) q7_hcf40) trivial rfl ?_
  refine al_ro' (ro_assign up_h) trivial rfl ?_
  refine al_end (fun e_5 he_5 => ?_)
  have s0_5 := ef 0 he_5 (u4 rfl (u8 rfl s0_4))
  have s1_5 := ef 1 he_5 up_h
  have s4_5 := ef 4 he_5 (u4 rfl (u8 rfl s4_4))
  have s6_5 := ef 6 he_5 (u4 rfl (u8 rfl s6_4))
  clear he_5 s0_4 s1_4 s4_4 s6_4
  refine then_n ?_
  refine aw_seq ?_
  refine aw_text (by kernel_rfl) ?_
  refine al_ro' (ro_move s1_5) trivial rfl ?_
  refine al_end (fun e_6 he_6 => ?_)
  have s0_6 := ef 0 he_6 (up_m rfl s0_5)
  have s1_6 := ef 1 he_6 (up_m rfl s1_5)
  have s4_6 := ef 4 he_6 (up_m rfl s4_5)
  have s6_6 := ef 6 he_6 (up_m rfl s6_5)
  have s18_6 := ef 18 he_6 up_h
  clear he_6 s0_5 s1_5 s4_5 s6_5
  refine then_n ?_
  refine aw_block ?_
  refine aw_seq ?_
  refine aw_text (by kernel_rfl) ?_
  refine al_ro' (ro_eql s18_6 ev_c) trivial rfl ?_
  refine al_ro' (ro_assign up_h) trivial rfl ?_
  refine al_end (fun e_7 he_7 => ?_)
  have s0_7 := ef 0 he_7 (u2 rfl s0_6)
  have s1_7 := ef 1 he_7 (u2 rfl s1_6)
  have s4_7 := ef 4 he_7 (u2 rfl s4_6)
  have s6_7 := ef 6 he_7 (u2 rfl s6_6)
  have s19_7 := ef 19 he_7 up_h
  clear he_7 s0_6 s18_6 s1_6 s4_6 s6_6
  refine then_n ?_
  refine aw_case s19_7 (fun hq_8 => ?_) (fun hq_8 => ?_)
  · (first | replace hq_8 := bnt hq_8 | replace hq_8 := bnf hq_8 | replace hq_8 := bt hq_8 | replace hq_8 := bf hq_8 | replace hq_8 := bt' hq_8 | replace hq_8 := bf' hq_8 | skip)
    first
    | (cases hq_8; done) | (exfalso; omega)
    | (
       refine aw_seq ?_
       refine aw_text (by kernel_rfl) ?_
       refine al_ro' (ro_move s0_7) trivial rfl ?_
       refine al_ro' (ro_eq (ro_ix q7_sl97 up_h ev_c (by first | decide | omega | (simp <;> omega)) (by first | (refine idx_map ?_; first | omega | (simp only [lnS]; omega)) | (refine idx_mapI ?_; first | omega | (simp only [lnS]; omega)) | (refine idx_mapN ?_; first | omega | (simp only [lnS]; omega)) | rfl)) (by first | (simp only [packA_t, packA_f, iE, bE, setAt, cellsA, Value.cells, map_vc, map_vn, Nat.reduceAdd, qS, rE] <;> rfl) | rfl)) trivial rfl ?_
       refine al_ro' (ro_eq (ro_ld_ref q7_ty42 rfl up_h (by first | exact Nat.le_of_ble_eq_true rfl | omega | (simp only [lnS] <;> omega) | (simp <;> omega))) (by first | (simp only [packA_t, packA_f, iE, bE, setAt, cellsA, Value.cells, map_vc, map_vn, Nat.reduceAdd, qS, rE] <;> rfl) | rfl)) trivial rfl ?_
       refine al_ro' (ro_move (up_m rfl (u2 rfl s1_7))) trivial rfl ?_
       refine al_stm (st_store (u4 rfl s4_7) (up_m rfl up_h) rfl rfl mo0_3 q7_sz42 rfl (by first | exact Nat.le_of_ble_eq_true rfl | omega | (simp only [lnS] <;> omega) | (simp <;> omega))) trivial rfl (fun m_9 hm_9 => ?_)
       have mo0_9 := m_set hm_9 mo0_3
       (try simp only [packA_t, packA_f, iE, bE, setAt, cellsA, Value.cells, map_vc, map_vn, Nat.reduceAdd, qS, rE] at mo0_9)
       have mo1_9 := m_set_o hm_9 mo1_3 (by decide)
       have ml_9 := m_set_l hm_9 ml_3
       clear hm_9 mo1_3 mo0_3
       refine al_ro' (ro_assign (up_n up_h)) trivial rfl ?_
       refine al_end (fun e_10 he_10 => ?_)
       have s4_10 := ef 4 he_10 (up_m rfl (up_n (u4 rfl s4_7)))
       have s5_10 := ef 5 he_10 up_h
       clear he_10 s0_7 s19_7 s1_7 s4_7 s6_7
       refine then_n ?_
       refine aw_ret ?_
       refine block_r ?_
       refine then_r ?_
       refine ret2 (.inr rfl) (by kernel_rfl) (resV_cell s4_10 mo0_9 q7_ty42 (by first | exact Nat.le_of_ble_eq_true rfl | omega | (simp only [lnS] <;> omega) | (simp <;> omega)) (by simp)) (resV_tmp s5_10) (vw_r (.ro _ rfl)) (.ro _ rfl) ?_
       clear s4_10 s5_10 mo0_9 mo1_9 ml_9
       rfl)
  · (first | replace hq_8 := bnt hq_8 | replace hq_8 := bnf hq_8 | replace hq_8 := bt hq_8 | replace hq_8 := bf hq_8 | replace hq_8 := bt' hq_8 | replace hq_8 := bf' hq_8 | skip)
    first
    | (cases hq_8; done) | (exfalso; omega)
    | (
       refine aw_skip ?_
       refine block_n ?_
       refine then_n ?_
       refine aw_seq ?_
       refine aw_text (by kernel_rfl) ?_
       refine al_ro' (ro_eq (ro_ld_ptr q7_ty42 rfl mo1_3 s6_7 (by first | exact Nat.le_of_ble_eq_true rfl | omega | (simp only [lnS] <;> omega) | (simp <;> omega))) (by first | (simp only [packA_t, packA_f, iE, bE, setAt, cellsA, Value.cells, map_vc, map_vn, Nat.reduceAdd, qS, rE] <;> rfl) | rfl)) trivial rfl ?_
       refine al_ro' (ro_move (up_m rfl s1_7)) trivial rfl ?_
       refine al_stm (st_store (u2 rfl s4_7) (up_m rfl up_h) rfl rfl mo0_3 q7_sz42 rfl (by first | exact Nat.le_of_ble_eq_true rfl | omega | (simp only [lnS] <;> omega) | (simp <;> omega))) trivial rfl (fun m_11 hm_11 => ?_)
       have mo0_11 := m_set hm_11 mo0_3
       (try simp only [packA_t, packA_f, iE, bE, setAt, cellsA, Value.cells, map_vc, map_vn, Nat.reduceAdd, qS, rE] at mo0_11)
       have mo1_11 := m_set_o hm_11 mo1_3 (by decide)
       have ml_11 := m_set_l hm_11 ml_3
       clear hm_11 mo1_3 mo0_3
       refine al_ro' (ro_assign (up_n up_h)) trivial rfl ?_
       refine al_end (fun e_12 he_12 => ?_)
       have s4_12 := ef 4 he_12 (up_m rfl (up_n (u2 rfl s4_7)))
       have s5_12 := ef 5 he_12 up_h
       clear he_12 s0_7 s19_7 s1_7 s4_7 s6_7
       refine then_n ?_
       refine aw_ret ?_
       refine ret2 (.inr rfl) (by kernel_rfl) (resV_cell s4_12 mo0_11 q7_ty42 (by first | exact Nat.le_of_ble_eq_true rfl | omega | (simp only [lnS] <;> omega) | (simp <;> omega)) (by simp)) (resV_tmp s5_12) (vw_r (.ro _ rfl)) (.ro _ rfl) ?_
       clear s4_12 s5_12 mo0_11 mo1_11 ml_11
       rfl)
set_option maxRecDepth 100000 in
set_option maxHeartbeats 1000000 in
theorem placeOf_ok (t : Trk) (ht : RT t) (xs : List Int) (hx : (xs.length : Int) = t.win) (hsee : ∀ j : Nat, j < xs.length → seeB (xs.getD j default) = true) (count T : Int) (hc : 0 ≤ count ∧ count < t.mod) (hO : OneT t xs count T) :
    FnOk Try.prog 15 [qA t, .agg [.row 1 (xs.map iE), zA count]] (fun q => q = .tuple [raA (plLo t T) (plHi t T), zA 0]) := by
  refine fnOk_of (fn := Try.f15) 14 (by kernel_rfl) rfl (by kernel_rfl) (Nat.le_of_ble_eq_true rfl) ?_
  intro e_0 m_0 hA hm_0
  have s0_0 : evA e_0 (.tmp 0) = _ := hA 0 _ rfl
  have s1_0 : evA e_0 (.tmp 1) = _ := hA 1 _ rfl
  have ml_0 : m_0.length = 0 := by rw [hm_0]; rfl
  clear hA hm_0
  refine aw_seq ?_
  refine aw_text (by kernel_rfl) ?_
  refine al_stm (st_box s0_0 rfl ml_0) trivial rfl (fun m_1 hm_1 => ?_)
  have mo0_1 := m_push hm_1 ml_0
  (try simp only [packA_t, packA_f, iE, bE, setAt, cellsA, Value.cells, map_vc, map_vn, Nat.reduceAdd, qS] at mo0_1)
  have ml_1 := m_push_l hm_1 ml_0
  have ml_1 : _ = 1 := ml_1
  clear hm_1
  refine al_stm (st_box (up_m rfl s1_0) rfl ml_1) trivial rfl (fun m_2 hm_2 => ?_)
  have mo1_2 := m_push hm_2 ml_1
  (try simp only [packA_t, packA_f, iE, bE, setAt, cellsA, Value.cells, map_vc, map_vn, Nat.reduceAdd, qS] at mo1_2)
  have mo0_2 := m_push_o hm_2 mo0_1
  have ml_2 := m_push_l hm_2 ml_1
  have ml_2 : _ = 2 := ml_2
  clear hm_2 mo0_1
  refine al_stm (st_alloc q7_az42 rfl ml_2) trivial rfl (fun m_3 hm_3 => ?_)
  have mo2_3 := m_push hm_3 ml_2
  (try simp only [packA_t, packA_f, iE, bE, setAt, cellsA, Value.cells, map_vc, map_vn, Nat.reduceAdd, qS] at mo2_3)
  have mo1_3 := m_push_o hm_3 mo1_2
  have mo0_3 := m_push_o hm_3 mo0_2
  have ml_3 := m_push_l hm_3 ml_2
  have ml_3 : _ = 3 := ml_3
  clear hm_3 mo1_2 mo0_2
  refine al_ro' (ro_assign ev_c) trivial rfl ?_
  refine al_end (fun e_4 he_4 => ?_)
  have s2_4 := ef 2 he_4 (up_m rfl (u2 rfl up_h))
  have s3_4 := ef 3 he_4 (u2 rfl up_h)
  have s4_4 := ef 4 he_4 (up_m rfl up_h)
  clear he_4 s0_0 s1_0
  refine then_n ?_
  refine aw_seq ?_
  refine aw_text (by kernel_rfl) ?_
  refine al_ro' (ro_eq (ro_ld_ptr q7_ty24 rfl mo0_3 s2_4 (by first | exact Nat.le_of_ble_eq_true rfl | omega | (simp only [lnS] <;> omega) | (simp <;> omega))) (by first | (simp only [packA_t, packA_f, iE, bE, setAt, cellsA, Value.cells, map_vc, map_vn, Nat.reduceAdd, qS] <;> rfl) | rfl)) trivial rfl ?_
  refine al_ro' (ro_eq (ro_ld_ptr q7_ty46 rfl mo1_3 (up_m rfl s3_4) (by first | exact Nat.le_of_ble_eq_true rfl | omega | (simp only [lnS] <;> omega) | (simp <;> omega))) (by first | (simp only [packA_t, packA_f, iE, bE, setAt, cellsA, Value.cells, map_vc, map_vn, Nat.reduceAdd, qS] <;> rfl) | rfl)) trivial rfl ?_
  refine al_ro' (ro_call (evL_cons (up_m rfl up_h) (evL_cons up_h evL_nil)) rfl (possible_ok t ht xs hx hsee count T hc hO) q7_hcf50) trivial rfl ?_
  refine al_ro' (ro_extract up_h rfl) trivial rfl ?_
  refine al_ro' (ro_extract (up_m rfl up_h) rfl) trivial rfl ?_
  refine al_ro' (ro_call (evL_cons (up_m rfl up_h) (evL_cons up_h evL_nil)) rfl (only_ok _ _) q7_hcf49) trivial rfl ?_
  refine al_ro' (ro_extract up_h rfl) trivial rfl ?_
  refine al_ro' (ro_extract (up_m rfl up_h) rfl) trivial rfl ?_
  refine al_stm (st_store (u8 rfl s4_4) (up_m rfl up_h) rfl rfl mo2_3 q7_sz42 rfl (by first | exact Nat.le_of_ble_eq_true rfl | omega | (simp only [lnS] <;> omega) | (simp <;> omega))) trivial rfl (fun m_5 hm_5 => ?_)
  have mo2_5 := m_set hm_5 mo2_3
  (try simp only [packA_t, packA_f, iE, bE, setAt, cellsA, Value.cells, map_vc, map_vn, Nat.reduceAdd, qS] at mo2_5)
  have mo1_5 := m_set_o hm_5 mo1_3 (by decide)
  have mo0_5 := m_set_o hm_5 mo0_3 (by decide)
  have ml_5 := m_set_l hm_5 ml_3
  clear hm_5 mo2_3 mo1_3 mo0_3
  refine al_ro' (ro_assign (up_n up_h)) trivial rfl ?_
  refine al_end (fun e_6 he_6 => ?_)
  have s4_6 := ef 4 he_6 (up_m rfl (up_n (u8 rfl s4_4)))
  have s5_6 := ef 5 he_6 up_h
  clear he_6 s2_4 s3_4 s4_4
  refine then_n ?_
  refine aw_ret ?_
  refine ret2 (.inr rfl) (by kernel_rfl) (resV_cell s4_6 mo2_5 q7_ty42 (by first | exact Nat.le_of_ble_eq_true rfl | omega | (simp only [lnS] <;> omega) | (simp <;> omega)) (by simp)) (resV_tmp s5_6) (vw_r (.ro _ rfl)) (.ro _ rfl) ?_
  clear s4_6 s5_6 mo2_5 mo1_5 mo0_5 ml_5
  rfl
end Go.Proofs.Ytgiiedpambimoaa
