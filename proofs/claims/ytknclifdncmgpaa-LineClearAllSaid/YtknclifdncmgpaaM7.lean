/- Texts of this claim, one behind the other: lemmas for the statement. -/
import Derived.Test.YtknclifdncmgpaaM6
import Derived.Test.YtknclifdncmgpaaA25
/- Contracts of chapter 1: the deviation at a joint beneath a pose, the walk. No conditions on a program. -/
namespace Go.Proofs.Ytknclifdncmgpaa
open Go Go.RowKit Go.Proofs
set_option linter.unusedSimpArgs false
set_option linter.unusedVariables false
theorem y25_az40 : (Try.prog.info? 40).bind (·.zero) = some (.agg #[.int .i64 0, .int .i64 0]) := by kernel_rfl
theorem y25_az42 : (Try.prog.info? 42).bind (·.zero) = some (.agg #[.int .i64 0, .int .i64 0, .int .i64 0, .int .i64 0]) := by kernel_rfl
theorem y25_bz40 : (Try.prog.info? 40).bind (·.zero) = some (.agg #[.int .i64 0, .int .i64 0]) := by kernel_rfl
theorem y25_bu40 : Try.prog.underlying 40 = some (.struct (fsOf Try.prog 40)) := by kernel_rfl
theorem y25_bp40 : ∀ w, ((fsOf Try.prog 40).mapM fun f => Prod.mk f.offset <$> sizeOf f.type : Sem (Array (Nat × Nat))).run Try.prog w = .ok (#[(0, 1), (1, 1)]) w := fun _ => by kernel_rfl
theorem y25_fl116_0 : FldIs Try.prog 116 0 0 true 4 := by unfold FldIs; kernel_rfl
theorem y25_fl116_1 : FldIs Try.prog 116 1 4 false 1 := by unfold FldIs; kernel_rfl
theorem y25_fl26_1 : FldIs Try.prog 26 1 1 false 1 := by unfold FldIs; kernel_rfl
theorem y25_fl26_2 : FldIs Try.prog 26 2 2 false 1 := by unfold FldIs; kernel_rfl
theorem y25_fl40_0 : FldIs Try.prog 40 0 0 false 1 := by unfold FldIs; kernel_rfl
theorem y25_fl40_1 : FldIs Try.prog 40 1 1 false 1 := by unfold FldIs; kernel_rfl
theorem y25_fl42_0 : FldIs Try.prog 42 0 0 false 1 := by unfold FldIs; kernel_rfl
theorem y25_fl42_2 : FldIs Try.prog 42 2 2 true 2 := by unfold FldIs; kernel_rfl
theorem y25_fl47_0 : FldIs Try.prog 47 0 0 false 1 := by unfold FldIs; kernel_rfl
theorem y25_fl52_0 : FldIs Try.prog 52 0 0 false 1 := by unfold FldIs; kernel_rfl
theorem y25_hcf116 : ∀ args w, (callFunc 116 args).run Try.prog w = .ok (.enter 116 args) w := fun _ _ => by kernel_rfl
theorem y25_hcf73 : ∀ args w, (callFunc 73 args).run Try.prog w = .ok (.enter 73 args) w := fun _ _ => by kernel_rfl
theorem y25_sl22 : SlIs Try.prog 22 42 4 32 (.agg #[.int .i64 0, .int .i64 0, .int .i64 0, .int .i64 0]) := ⟨by kernel_rfl, by kernel_rfl, by kernel_rfl⟩
theorem y25_sl23 : SlIs Try.prog 23 47 2 16 (.agg #[.int .i64 0, .int .i64 0]) := ⟨by kernel_rfl, by kernel_rfl, by kernel_rfl⟩
theorem y25_sl60 : SlIs Try.prog 60 3 1 8 (.int .i64 0) := ⟨by kernel_rfl, by kernel_rfl, by kernel_rfl⟩
theorem y25_sz3 : (Try.prog.info? 3).map (·.size) = some 1 := by kernel_rfl
theorem y25_sz40 : (Try.prog.info? 40).map (·.size) = some 2 := by kernel_rfl
theorem y25_sz42 : (Try.prog.info? 42).map (·.size) = some 4 := by kernel_rfl
theorem y25_ty22 : TyIs Try.prog 22 false 1 := ⟨by kernel_rfl, by kernel_rfl⟩
theorem y25_ty23 : TyIs Try.prog 23 false 1 := ⟨by kernel_rfl, by kernel_rfl⟩
theorem y25_ty3 : TyIs Try.prog 3 false 1 := ⟨by kernel_rfl, by kernel_rfl⟩
theorem y25_ty40 : TyIs Try.prog 40 true 2 := ⟨by kernel_rfl, by kernel_rfl⟩
theorem y25_ty42 : TyIs Try.prog 42 true 4 := ⟨by kernel_rfl, by kernel_rfl⟩
theorem y25_ty60 : TyIs Try.prog 60 false 1 := ⟨by kernel_rfl, by kernel_rfl⟩

theorem devD_f (l : Lin) (L p : Int) : (l.bs.getD (atI l p) default).len * (l.bs.getD (atI l (p + L)) default).len * L = devD l L p := rfl
theorem wts1_f (l : Lin) (L p : Int) (j : Nat) : addAt (List.replicate l.js.length 0) j (devD l L p) = wts1 l L p j := rfl
theorem wts2_f (l : Lin) (L p : Int) (j : Nat) : subAt (wts1 l L p j) (atI l p) ((L - (plaP l.bs j - p)) * ((l.bs.getD (atI l p) default).len - atD l p) * (l.bs.getD (atI l (p + L)) default).len) = wts2 l L p j := rfl
theorem wts3_f (l : Lin) (L p : Int) (j : Nat) : subAt (wts2 l L p j) (atI l p + 1) ((L - (plaP l.bs j - p)) * atD l p * (l.bs.getD (atI l (p + L)) default).len) = wts3 l L p j := rfl
theorem wts4_f (l : Lin) (L p : Int) (j : Nat) : subAt (wts3 l L p j) (atI l (p + L)) ((plaP l.bs j - p) * ((l.bs.getD (atI l (p + L)) default).len - atD l (p + L)) * (l.bs.getD (atI l p) default).len) = wts4 l L p j := rfl
theorem wtsL_f (l : Lin) (L p : Int) (j : Nat) : subAt (wts4 l L p j) (atI l (p + L) + 1) ((plaP l.bs j - p) * atD l (p + L) * (l.bs.getD (atI l p) default).len) = wtsL l L p j := rfl
theorem nat2 {x : Int} {A : Nat} (h : x.natAbs ≤ A) : -(A : Int) ≤ x ∧ x ≤ A := by omega
theorem ediv_bd {n k : Int} (hk : 1 ≤ k) (hn : -4000000000000000000 ≤ n ∧ n ≤ 4000000000000000000) : -4000000000000000001 ≤ n / k ∧ n / k ≤ 4000000000000000000 := by
  have hb := tdiv_bd hn k
  have hf := fdivF (n := n) hk
  by_cases h : n.tmod k < 0
  · have := hf.1 h; omega
  · have := hf.2 h; omega
theorem dev_in {l : Lin} (h : Rgt l) {f : Int → Jnt → Int} (hf : f = loF ∨ f = hiF) {ws : List Int} {A : Nat} (hw : absP ws l.js.length ≤ A) {n : Nat} (hn : n ≤ l.js.length) : -(20100 * (A : Int)) ≤ devS f ws l.js n ∧ devS f ws l.js n ≤ 20100 * (A : Int) := by
  have h1 := devS_bd h hf (ws := ws) hn
  have h2 := absP_mono (ws := ws) hn
  omega
set_option maxRecDepth 100000 in
set_option maxHeartbeats 4000000 in
theorem deviation_ok (l : Lin) (h : Rgt l) (L c s p : Int) (j : Nat) (q : Pos l L p j) : FnOk Try.prog 80 [tkA l, vehA L c s, mA p, mA j] (fun q => q = .agg [mA (devLo l L p j), mA (devHi l L p j)]) := by
  refine fnOk_of (fn := Try.f80) 204 (by kernel_rfl) rfl (by kernel_rfl) (Nat.le_of_ble_eq_true rfl) ?_
  intro e_0 m_0 hA hm_0
  have s0_0 : evA e_0 (.tmp 0) = _ := hA 0 _ rfl
  have s1_0 : evA e_0 (.tmp 1) = _ := hA 1 _ rfl
  have s2_0 : evA e_0 (.tmp 2) = _ := hA 2 _ rfl
  have s3_0 : evA e_0 (.tmp 3) = _ := hA 3 _ rfl
  have ml_0 : m_0.length = 0 := by rw [hm_0]; rfl
  clear hA hm_0
  have hn1 := h.n1; have hn0 := h.n0; have hjs := h.js; obtain ⟨L0, L1, p0, p1, j0, j1, jn⟩ := id q; obtain ⟨a1, a2, a3⟩ := at_bd h (p := p) ⟨p0, by omega⟩; obtain ⟨b1, b2, b3⟩ := at_bd h (p := p + L) ⟨by omega, p1⟩; have c1 := h.bea _ a1; have c2 := h.bea _ b1; have hpl := plaL_len (bs := l.bs) (n := l.bs.length); have hpb := h.pla (n := l.bs.length) (Nat.le_refl _); have hpj := h.pla (n := j) (by omega); have hgj := plaL_get (bs := l.bs) (n := l.bs.length) (j := j) (by omega); obtain ⟨d0, d1, d2, d3, d4, d5⟩ := q.bd h; replace d2 := nat2 d2; replace d3 := nat2 d3; replace d4 := nat2 d4; replace d5 := nat2 d5; obtain ⟨s1, s2, s3, s4, s5⟩ := q.abs h; have m1 := nat2 (mul_in (x := (l.bs.getD (atI l p) default).len) (y := (l.bs.getD (atI l (p + L)) default).len) 30000 30000 (by omega) (by omega)); have m2 := nat2 (mul_in (x := L - (plaP l.bs j - p)) (y := (l.bs.getD (atI l p) default).len - atD l p) 30000 30000 (by omega) (by omega)); have m3 := nat2 (mul_in (x := L - (plaP l.bs j - p)) (y := atD l p) 30000 30000 (by omega) (by omega)); have m4 := nat2 (mul_in (x := plaP l.bs j - p) (y := (l.bs.getD (atI l (p + L)) default).len - atD l (p + L)) 30000 30000 (by omega) (by omega)); have m5 := nat2 (mul_in (x := plaP l.bs j - p) (y := atD l (p + L)) 30000 30000 (by omega) (by omega)); have hdd : (l.bs.getD (atI l p) default).len * (l.bs.getD (atI l (p + L)) default).len * L = devD l L p := rfl; have g0 : (List.replicate l.js.length (0 : Int)).getD j default = 0 := (by simp [jn]); have g2 := nat2 (Nat.le_trans (absP_get (ws := wts1 l L p j) (n := l.js.length) (i := atI l p) (by omega)) s1); have g3 := nat2 (Nat.le_trans (absP_get (ws := wts2 l L p j) (n := l.js.length) (i := atI l p + 1) (by omega)) s2); have g4 := nat2 (Nat.le_trans (absP_get (ws := wts3 l L p j) (n := l.js.length) (i := atI l (p + L)) (by omega)) s3); have g5 := nat2 (Nat.le_trans (absP_get (ws := wts4 l L p j) (n := l.js.length) (i := atI l (p + L) + 1) (by omega)) s4); have k0 : (List.replicate l.js.length (0 : Int)).length = l.js.length := (by simp); have k1 := len_wts1 (l := l) (L := L) (p := p) (j := j); have k2 := len_wts2 (l := l) (L := L) (p := p) (j := j); have k3 := len_wts3 (l := l) (L := L) (p := p) (j := j); have k4 := len_wts4 (l := l) (L := L) (p := p) (j := j); have k5 := len_wts (l := l) (L := L) (p := p) (j := j)
  refine aw_seq ?_
  refine aw_text (by kernel_rfl) ?_
  refine al_stm (st_box s1_0 rfl ml_0) trivial rfl (fun m_1 hm_1 => ?_)
  have mo0_1 := m_push hm_1 ml_0
  have ml_1 := m_push_l hm_1 ml_0
  have ml_1 : _ = 1 := ml_1
  clear hm_1
  refine al_stm (st_alloc y25_az40 rfl ml_1) trivial rfl (fun m_2 hm_2 => ?_)
  have mo1_2 := m_push hm_2 ml_1
  simp only [packA_t, packA_f, iE, bE, setAt, cellsA, Value.cells, map_vc, map_vn, Nat.reduceAdd, qS, jnE, beE, Int.toNat_natCast, toNat_suc, rep_iE, set_iE, hgj, addAt_f, subAt_f, devD_f, wts1_f, wts2_f, wts3_f, wts4_f, wtsL_f] at mo1_2
  have mo0_2 := m_push_o hm_2 mo0_1
  have ml_2 := m_push_l hm_2 ml_1
  have ml_2 : _ = 2 := ml_2
  clear hm_2 mo0_1
  refine al_end (fun e_3 he_3 => ?_)
  have s0_3 := ef 0 he_3 (u2 rfl s0_0)
  have s2_3 := ef 2 he_3 (u2 rfl s2_0)
  have s3_3 := ef 3 he_3 (u2 rfl s3_0)
  have s5_3 := ef 5 he_3 (up_m rfl up_h)
  have s8_3 := ef 8 he_3 up_h
  clear he_3 s0_0 s1_0 s2_0 s3_0
  refine then_n ?_
  refine aw_seq ?_
  refine aw_text (by kernel_rfl) ?_
  refine al_ro' (ro_move s0_3) trivial rfl ?_
  refine al_ro' (ro_move (up_m rfl s2_3)) trivial rfl ?_
  refine al_ro' (ro_call (evL_cons (up_m rfl up_h) (evL_cons up_h evL_nil)) rfl (atX_ok l h p ⟨p0, by omega⟩) y25_hcf73) trivial rfl ?_
  refine al_ro' (ro_move up_h) trivial rfl ?_
  refine al_ro' (ro_extract up_h rfl) trivial rfl ?_
  refine al_ro' (ro_extract (up_m rfl up_h) rfl) trivial rfl ?_
  refine al_ro' (ro_assign (up_m rfl up_h)) trivial rfl ?_
  refine al_ro' (ro_assign (up_m rfl up_h)) trivial rfl ?_
  refine al_end (fun e_4 he_4 => ?_)
  have s0_4 := ef 0 he_4 (u8 rfl s0_3)
  have s2_4 := ef 2 he_4 (u8 rfl s2_3)
  have s3_4 := ef 3 he_4 (u8 rfl s3_3)
  have s5_4 := ef 5 he_4 (u8 rfl s5_3)
  have s8_4 := ef 8 he_4 (u8 rfl s8_3)
  have s9_4 := ef 9 he_4 (up_m rfl up_h)
  have s10_4 := ef 10 he_4 up_h
  clear he_4 s0_3 s2_3 s3_3 s5_3 s8_3
  refine then_n ?_
  refine aw_seq ?_
  refine aw_text (by kernel_rfl) ?_
  refine al_ro' (ro_move s0_4) trivial rfl ?_
  refine al_ro' (ro_move (up_m rfl s2_4)) trivial rfl ?_
  refine al_ro' (ro_fld_ptr y25_fl52_0 rfl (u2 rfl s5_4)) trivial rfl ?_
  refine al_ro' (ro_eq (ro_ld_ptr y25_ty3 rfl mo0_2 up_h (by exact Nat.le_of_ble_eq_true rfl)) (by simp only [packA_t, packA_f, iE, bE, setAt, cellsA, Value.cells, map_vc, map_vn, Nat.reduceAdd, qS, jnE, beE, Int.toNat_natCast, toNat_suc, rep_iE, set_iE, hgj, addAt_f, subAt_f, devD_f, wts1_f, wts2_f, wts3_f, wts4_f, wtsL_f] <;> rfl)) trivial rfl ?_
  (refine al_ro' (ro_add' (u2 rfl up_h) up_h ?_) trivial rfl ?_; · (unfold In64; omega))
  refine al_ro' (ro_call (evL_cons (u4 rfl up_h) (evL_cons up_h evL_nil)) rfl (atX_ok l h (p + L) ⟨by omega, p1⟩) y25_hcf73) trivial rfl ?_
  refine al_ro' (ro_move up_h) trivial rfl ?_
  refine al_ro' (ro_extract up_h rfl) trivial rfl ?_
  refine al_ro' (ro_extract (up_m rfl up_h) rfl) trivial rfl ?_
  refine al_ro' (ro_assign (up_m rfl up_h)) trivial rfl ?_
  refine al_ro' (ro_assign (up_m rfl up_h)) trivial rfl ?_
  refine al_end (fun e_5 he_5 => ?_)
  have s0_5 := ef 0 he_5 (up_m rfl (u2 rfl (u8 rfl s0_4)))
  have s2_5 := ef 2 he_5 (up_m rfl (u2 rfl (u8 rfl s2_4)))
  have s3_5 := ef 3 he_5 (up_m rfl (u2 rfl (u8 rfl s3_4)))
  have s5_5 := ef 5 he_5 (up_m rfl (u2 rfl (u8 rfl s5_4)))
  have s8_5 := ef 8 he_5 (up_m rfl (u2 rfl (u8 rfl s8_4)))
  have s9_5 := ef 9 he_5 (up_m rfl (u2 rfl (u8 rfl s9_4)))
  have s10_5 := ef 10 he_5 (up_m rfl (u2 rfl (u8 rfl s10_4)))
  have s11_5 := ef 11 he_5 (up_m rfl up_h)
  have s12_5 := ef 12 he_5 up_h
  clear he_5 s0_4 s10_4 s2_4 s3_4 s5_4 s8_4 s9_4
  refine then_n ?_
  refine aw_seq ?_
  refine aw_text (by kernel_rfl) ?_
  refine al_ro' (ro_move s0_5) trivial rfl ?_
  refine al_ro' (ro_nilR up_h) trivial rfl ?_
  refine al_ro' (ro_eq (ro_fld_ref y25_fl116_1 rfl up_h) (by simp only [packA_t, packA_f, iE, bE, setAt, cellsA, Value.cells, map_vc, map_vn, Nat.reduceAdd, qS, jnE, beE, Int.toNat_natCast, toNat_suc, rep_iE, set_iE, hgj, addAt_f, subAt_f, devD_f, wts1_f, wts2_f, wts3_f, wts4_f, wtsL_f] <;> rfl)) trivial rfl ?_
  refine al_ro' (ro_eq (ro_ld_ref y25_ty60 rfl up_h (by exact Nat.le_of_ble_eq_true rfl)) (by simp only [packA_t, packA_f, iE, bE, setAt, cellsA, Value.cells, map_vc, map_vn, Nat.reduceAdd, qS, jnE, beE, Int.toNat_natCast, toNat_suc, rep_iE, set_iE, hgj, addAt_f, subAt_f, devD_f, wts1_f, wts2_f, wts3_f, wts4_f, wtsL_f] <;> rfl)) trivial rfl ?_
  refine al_ro' (ro_move (u4 rfl s3_5)) trivial rfl ?_
  refine al_ro' (ro_eq (ro_ix y25_sl60 (up_m rfl up_h) up_h (by omega) (by first | (refine idx_map ?_; first | omega | (simp only [lnS]; omega)) | (refine idx_mapI ?_; first | omega | (simp only [lnS]; omega)) | (refine idx_mapN ?_; first | omega | (simp only [lnS]; omega)) | rfl)) (by simp only [packA_t, packA_f, iE, bE, setAt, cellsA, Value.cells, map_vc, map_vn, Nat.reduceAdd, qS, jnE, beE, Int.toNat_natCast, toNat_suc, rep_iE, set_iE, hgj, addAt_f, subAt_f, devD_f, wts1_f, wts2_f, wts3_f, wts4_f, wtsL_f] <;> rfl)) trivial rfl ?_
  refine al_ro' (ro_eq (ro_ld_ref y25_ty3 rfl up_h (by exact Nat.le_of_ble_eq_true rfl)) (by simp only [packA_t, packA_f, iE, bE, setAt, cellsA, Value.cells, map_vc, map_vn, Nat.reduceAdd, qS, jnE, beE, Int.toNat_natCast, toNat_suc, rep_iE, set_iE, hgj, addAt_f, subAt_f, devD_f, wts1_f, wts2_f, wts3_f, wts4_f, wtsL_f] <;> rfl)) trivial rfl ?_
  refine al_ro' (ro_move (up_m rfl (u2 rfl (u4 rfl s2_5)))) trivial rfl ?_
  (refine al_ro' (ro_sub' (up_m rfl up_h) up_h ?_) trivial rfl ?_; · (unfold In64; omega))
  refine al_ro' (ro_assign up_h) trivial rfl ?_
  refine al_end (fun e_6 he_6 => ?_)
  have s0_6 := ef 0 he_6 (u2 rfl (u8 rfl s0_5))
  have s3_6 := ef 3 he_6 (u2 rfl (u8 rfl s3_5))
  have s5_6 := ef 5 he_6 (u2 rfl (u8 rfl s5_5))
  have s8_6 := ef 8 he_6 (u2 rfl (u8 rfl s8_5))
  have s9_6 := ef 9 he_6 (u2 rfl (u8 rfl s9_5))
  have s10_6 := ef 10 he_6 (u2 rfl (u8 rfl s10_5))
  have s11_6 := ef 11 he_6 (u2 rfl (u8 rfl s11_5))
  have s12_6 := ef 12 he_6 (u2 rfl (u8 rfl s12_5))
  have s13_6 := ef 13 he_6 up_h
  clear he_6 s0_5 s10_5 s11_5 s12_5 s2_5 s3_5 s5_5 s8_5 s9_5
  refine then_n ?_
  refine aw_seq ?_
  refine aw_draw 20 (by kernel_rfl) (by kernel_rfl) (by kernel_rfl) (by kernel_rfl) ?_
  refine ds_ro' (ro_move s0_6) trivial rfl ?_
  refine ds_ro' (ro_nilR up_h) trivial rfl ?_
  refine ds_ro' (ro_eq (ro_fld_ref y25_fl116_0 rfl up_h) (by simp only [packA_t, packA_f, iE, bE, setAt, cellsA, Value.cells, map_vc, map_vn, Nat.reduceAdd, qS, jnE, beE, Int.toNat_natCast, toNat_suc, rep_iE, set_iE, hgj, addAt_f, subAt_f, devD_f, wts1_f, wts2_f, wts3_f, wts4_f, wtsL_f] <;> rfl)) trivial rfl ?_
  refine ds_ro' (ro_eq (ro_fld_ref y25_fl26_2 rfl up_h) (by simp only [packA_t, packA_f, iE, bE, setAt, cellsA, Value.cells, map_vc, map_vn, Nat.reduceAdd, qS, jnE, beE, Int.toNat_natCast, toNat_suc, rep_iE, set_iE, hgj, addAt_f, subAt_f, devD_f, wts1_f, wts2_f, wts3_f, wts4_f, wtsL_f] <;> rfl)) trivial rfl ?_
  refine ds_ro' (ro_eq (ro_ld_ref y25_ty23 rfl up_h (by exact Nat.le_of_ble_eq_true rfl)) (by simp only [packA_t, packA_f, iE, bE, setAt, cellsA, Value.cells, map_vc, map_vn, Nat.reduceAdd, qS, jnE, beE, Int.toNat_natCast, toNat_suc, rep_iE, set_iE, hgj, addAt_f, subAt_f, devD_f, wts1_f, wts2_f, wts3_f, wts4_f, wtsL_f] <;> rfl)) trivial rfl ?_
  refine ds_ro' (ro_move (up_m rfl (u4 rfl s9_6))) trivial rfl ?_
  refine ds_ro' (ro_eq (ro_ix y25_sl23 (up_m rfl up_h) up_h (by omega) (by first | (refine idx_map ?_; first | omega | (simp only [lnS]; omega)) | (refine idx_mapI ?_; first | omega | (simp only [lnS]; omega)) | (refine idx_mapN ?_; first | omega | (simp only [lnS]; omega)) | rfl)) (by simp only [packA_t, packA_f, iE, bE, setAt, cellsA, Value.cells, map_vc, map_vn, Nat.reduceAdd, qS, jnE, beE, Int.toNat_natCast, toNat_suc, rep_iE, set_iE, hgj, addAt_f, subAt_f, devD_f, wts1_f, wts2_f, wts3_f, wts4_f, wtsL_f] <;> rfl)) trivial rfl ?_
  refine ds_ro' (ro_eq (ro_fld_ref y25_fl47_0 rfl up_h) (by simp only [packA_t, packA_f, iE, bE, setAt, cellsA, Value.cells, map_vc, map_vn, Nat.reduceAdd, qS, jnE, beE, Int.toNat_natCast, toNat_suc, rep_iE, set_iE, hgj, addAt_f, subAt_f, devD_f, wts1_f, wts2_f, wts3_f, wts4_f, wtsL_f] <;> rfl)) trivial rfl ?_
  refine ds_ro' (ro_eq (ro_ld_ref y25_ty3 rfl up_h (by exact Nat.le_of_ble_eq_true rfl)) (by simp only [packA_t, packA_f, iE, bE, setAt, cellsA, Value.cells, map_vc, map_vn, Nat.reduceAdd, qS, jnE, beE, Int.toNat_natCast, toNat_suc, rep_iE, set_iE, hgj, addAt_f, subAt_f, devD_f, wts1_f, wts2_f, wts3_f, wts4_f, wtsL_f] <;> rfl)) trivial rfl ?_
  refine ds_ro' (ro_move (up_m rfl (u8 rfl s0_6))) trivial rfl ?_
  refine ds_ro' (ro_nilR up_h) trivial rfl ?_
  refine ds_ro' (ro_eq (ro_fld_ref y25_fl116_0 rfl up_h) (by simp only [packA_t, packA_f, iE, bE, setAt, cellsA, Value.cells, map_vc, map_vn, Nat.reduceAdd, qS, jnE, beE, Int.toNat_natCast, toNat_suc, rep_iE, set_iE, hgj, addAt_f, subAt_f, devD_f, wts1_f, wts2_f, wts3_f, wts4_f, wtsL_f] <;> rfl)) trivial rfl ?_
  refine ds_ro' (ro_eq (ro_fld_ref y25_fl26_2 rfl up_h) (by simp only [packA_t, packA_f, iE, bE, setAt, cellsA, Value.cells, map_vc, map_vn, Nat.reduceAdd, qS, jnE, beE, Int.toNat_natCast, toNat_suc, rep_iE, set_iE, hgj, addAt_f, subAt_f, devD_f, wts1_f, wts2_f, wts3_f, wts4_f, wtsL_f] <;> rfl)) trivial rfl ?_
  refine ds_ro' (ro_eq (ro_ld_ref y25_ty23 rfl up_h (by exact Nat.le_of_ble_eq_true rfl)) (by simp only [packA_t, packA_f, iE, bE, setAt, cellsA, Value.cells, map_vc, map_vn, Nat.reduceAdd, qS, jnE, beE, Int.toNat_natCast, toNat_suc, rep_iE, set_iE, hgj, addAt_f, subAt_f, devD_f, wts1_f, wts2_f, wts3_f, wts4_f, wtsL_f] <;> rfl)) trivial rfl ?_
  refine ds_ro' (ro_move (u2 rfl (u4 rfl (u8 rfl s11_6)))) trivial rfl ?_
  refine ds_ro' (ro_eq (ro_ix y25_sl23 (up_m rfl up_h) up_h (by omega) (by first | (refine idx_map ?_; first | omega | (simp only [lnS]; omega)) | (refine idx_mapI ?_; first | omega | (simp only [lnS]; omega)) | (refine idx_mapN ?_; first | omega | (simp only [lnS]; omega)) | rfl)) (by simp only [packA_t, packA_f, iE, bE, setAt, cellsA, Value.cells, map_vc, map_vn, Nat.reduceAdd, qS, jnE, beE, Int.toNat_natCast, toNat_suc, rep_iE, set_iE, hgj, addAt_f, subAt_f, devD_f, wts1_f, wts2_f, wts3_f, wts4_f, wtsL_f] <;> rfl)) trivial rfl ?_
  refine ds_ro' (ro_eq (ro_fld_ref y25_fl47_0 rfl up_h) (by simp only [packA_t, packA_f, iE, bE, setAt, cellsA, Value.cells, map_vc, map_vn, Nat.reduceAdd, qS, jnE, beE, Int.toNat_natCast, toNat_suc, rep_iE, set_iE, hgj, addAt_f, subAt_f, devD_f, wts1_f, wts2_f, wts3_f, wts4_f, wtsL_f] <;> rfl)) trivial rfl ?_
  refine ds_ro' (ro_eq (ro_ld_ref y25_ty3 rfl up_h (by exact Nat.le_of_ble_eq_true rfl)) (by simp only [packA_t, packA_f, iE, bE, setAt, cellsA, Value.cells, map_vc, map_vn, Nat.reduceAdd, qS, jnE, beE, Int.toNat_natCast, toNat_suc, rep_iE, set_iE, hgj, addAt_f, subAt_f, devD_f, wts1_f, wts2_f, wts3_f, wts4_f, wtsL_f] <;> rfl)) trivial rfl ?_
  refine ds_ro' (ro_assign (up_m rfl (u8 rfl up_h))) trivial rfl ?_
  refine ds_ro' (ro_assign (up_m rfl up_h)) trivial rfl ?_
  refine ds_nil ?_
  refine al_end (fun e_7 he_7 => ?_)
  have s0_7 := ef 0 he_7 (u4 rfl (u16 rfl s0_6))
  have s3_7 := ef 3 he_7 (u4 rfl (u16 rfl s3_6))
  have s5_7 := ef 5 he_7 (u4 rfl (u16 rfl s5_6))
  have s8_7 := ef 8 he_7 (u4 rfl (u16 rfl s8_6))
  have s9_7 := ef 9 he_7 (u4 rfl (u16 rfl s9_6))
  have s10_7 := ef 10 he_7 (u4 rfl (u16 rfl s10_6))
  have s11_7 := ef 11 he_7 (u4 rfl (u16 rfl s11_6))
  have s12_7 := ef 12 he_7 (u4 rfl (u16 rfl s12_6))
  have s13_7 := ef 13 he_7 (u4 rfl (u16 rfl s13_6))
  have s14_7 := ef 14 he_7 (up_m rfl up_h)
  have s15_7 := ef 15 he_7 up_h
  clear he_7 s0_6 s10_6 s11_6 s12_6 s13_6 s3_6 s5_6 s8_6 s9_6
  refine then_n ?_
  refine aw_seq ?_
  refine aw_text (by kernel_rfl) ?_
  refine al_ro' (ro_move s14_7) trivial rfl ?_
  refine al_ro' (ro_move (up_m rfl s15_7)) trivial rfl ?_
  (refine al_ro' (ro_mul' (up_m rfl up_h) up_h ?_) trivial rfl ?_; · (unfold In64; omega))
  refine al_ro' (ro_fld_ptr y25_fl52_0 rfl (up_m rfl (u2 rfl s5_7))) trivial rfl ?_
  refine al_ro' (ro_eq (ro_ld_ptr y25_ty3 rfl mo0_2 up_h (by exact Nat.le_of_ble_eq_true rfl)) (by simp only [packA_t, packA_f, iE, bE, setAt, cellsA, Value.cells, map_vc, map_vn, Nat.reduceAdd, qS, jnE, beE, Int.toNat_natCast, toNat_suc, rep_iE, set_iE, hgj, addAt_f, subAt_f, devD_f, wts1_f, wts2_f, wts3_f, wts4_f, wtsL_f] <;> rfl)) trivial rfl ?_
  (refine al_ro' (ro_mul' (u2 rfl up_h) up_h ?_) trivial rfl ?_; · (unfold In64; omega))
  refine al_ro' (ro_assign up_h) trivial rfl ?_
  refine al_end (fun e_8 he_8 => ?_)
  have s0_8 := ef 0 he_8 (up_m rfl (u2 rfl (u4 rfl s0_7)))
  have s3_8 := ef 3 he_8 (up_m rfl (u2 rfl (u4 rfl s3_7)))
  have s5_8 := ef 5 he_8 (up_m rfl (u2 rfl (u4 rfl s5_7)))
  have s8_8 := ef 8 he_8 (up_m rfl (u2 rfl (u4 rfl s8_7)))
  have s9_8 := ef 9 he_8 (up_m rfl (u2 rfl (u4 rfl s9_7)))
  have s10_8 := ef 10 he_8 (up_m rfl (u2 rfl (u4 rfl s10_7)))
  have s11_8 := ef 11 he_8 (up_m rfl (u2 rfl (u4 rfl s11_7)))
  have s12_8 := ef 12 he_8 (up_m rfl (u2 rfl (u4 rfl s12_7)))
  have s13_8 := ef 13 he_8 (up_m rfl (u2 rfl (u4 rfl s13_7)))
  have s14_8 := ef 14 he_8 (up_m rfl (u2 rfl (u4 rfl s14_7)))
  have s15_8 := ef 15 he_8 (up_m rfl (u2 rfl (u4 rfl s15_7)))
  have s16_8 := ef 16 he_8 up_h
  clear he_8 s0_7 s10_7 s11_7 s12_7 s13_7 s14_7 s15_7 s3_7 s5_7 s8_7 s9_7
  refine then_n ?_
  refine aw_seq ?_
  refine aw_text (by kernel_rfl) ?_
  refine al_ro' (ro_move s0_8) trivial rfl ?_
  refine al_ro' (ro_nilR up_h) trivial rfl ?_
  refine al_ro' (ro_eq (ro_fld_ref y25_fl116_0 rfl up_h) (by simp only [packA_t, packA_f, iE, bE, setAt, cellsA, Value.cells, map_vc, map_vn, Nat.reduceAdd, qS, jnE, beE, Int.toNat_natCast, toNat_suc, rep_iE, set_iE, hgj, addAt_f, subAt_f, devD_f, wts1_f, wts2_f, wts3_f, wts4_f, wtsL_f] <;> rfl)) trivial rfl ?_
  refine al_ro' (ro_eq (ro_fld_ref y25_fl26_1 rfl up_h) (by simp only [packA_t, packA_f, iE, bE, setAt, cellsA, Value.cells, map_vc, map_vn, Nat.reduceAdd, qS, jnE, beE, Int.toNat_natCast, toNat_suc, rep_iE, set_iE, hgj, addAt_f, subAt_f, devD_f, wts1_f, wts2_f, wts3_f, wts4_f, wtsL_f] <;> rfl)) trivial rfl ?_
  refine al_ro' (ro_eq (ro_ld_ref y25_ty22 rfl up_h (by exact Nat.le_of_ble_eq_true rfl)) (by simp only [packA_t, packA_f, iE, bE, setAt, cellsA, Value.cells, map_vc, map_vn, Nat.reduceAdd, qS, jnE, beE, Int.toNat_natCast, toNat_suc, rep_iE, set_iE, hgj, addAt_f, subAt_f, devD_f, wts1_f, wts2_f, wts3_f, wts4_f, wtsL_f] <;> rfl)) trivial rfl ?_
  refine al_ro' (ro_eq (ro_len_row up_h rfl y25_sl22.1) (by simp only [lnS] <;> rfl)) trivial rfl ?_
  refine al_stm (st_mk y25_sl60 rfl rfl ml_2 up_h up_h (by omega) (by omega)) trivial rfl (fun m_9 hm_9 => ?_)
  have mo2_9 := m_push hm_9 ml_2
  simp only [packA_t, packA_f, iE, bE, setAt, cellsA, Value.cells, map_vc, map_vn, Nat.reduceAdd, qS, jnE, beE, Int.toNat_natCast, toNat_suc, rep_iE, set_iE, hgj, addAt_f, subAt_f, devD_f, wts1_f, wts2_f, wts3_f, wts4_f, wtsL_f] at mo2_9
  have mo1_9 := m_push_o hm_9 mo1_2
  have mo0_9 := m_push_o hm_9 mo0_2
  have ml_9 := m_push_l hm_9 ml_2
  have ml_9 : _ = 3 := ml_9
  clear hm_9 mo1_2 mo0_2
  refine al_ro' (ro_assign up_h) trivial rfl ?_
  refine al_end (fun e_10 he_10 => ?_)
  have s0_10 := ef 0 he_10 (u8 rfl s0_8)
  have s3_10 := ef 3 he_10 (u8 rfl s3_8)
  have s5_10 := ef 5 he_10 (u8 rfl s5_8)
  have s8_10 := ef 8 he_10 (u8 rfl s8_8)
  have s9_10 := ef 9 he_10 (u8 rfl s9_8)
  have s10_10 := ef 10 he_10 (u8 rfl s10_8)
  have s11_10 := ef 11 he_10 (u8 rfl s11_8)
  have s12_10 := ef 12 he_10 (u8 rfl s12_8)
  have s13_10 := ef 13 he_10 (u8 rfl s13_8)
  have s14_10 := ef 14 he_10 (u8 rfl s14_8)
  have s15_10 := ef 15 he_10 (u8 rfl s15_8)
  have s16_10 := ef 16 he_10 (u8 rfl s16_8)
  have s17_10 := ef 17 he_10 up_h
  clear he_10 s0_8 s10_8 s11_8 s12_8 s13_8 s14_8 s15_8 s16_8 s3_8 s5_8 s8_8 s9_8
  refine then_n ?_
  refine aw_seq ?_
  refine aw_text (by kernel_rfl) ?_
  refine al_ro' (ro_move s17_10) trivial rfl ?_
  refine al_ro' (ro_move (up_m rfl s3_10)) trivial rfl ?_
  refine al_ro' (ro_ix_own y25_sl60 mo2_9 (up_m rfl up_h) up_h (by omega) (by simp only [lnS] <;> omega)) trivial rfl ?_
  refine al_ro' (ro_eq (ro_ld_el y25_ty3 rfl mo2_9 up_h (by exact Nat.le_of_ble_eq_true rfl) (by first | (refine idx_map ?_; first | omega | (simp only [lnS]; omega)) | (refine idx_mapI ?_; first | omega | (simp only [lnS]; omega)) | (refine idx_mapN ?_; first | omega | (simp only [lnS]; omega)) | rfl)) (by simp only [packA_t, packA_f, iE, bE, setAt, cellsA, Value.cells, map_vc, map_vn, Nat.reduceAdd, qS, jnE, beE, Int.toNat_natCast, toNat_suc, rep_iE, set_iE, hgj, addAt_f, subAt_f, devD_f, wts1_f, wts2_f, wts3_f, wts4_f, wtsL_f] <;> rfl)) trivial rfl ?_
  refine al_ro' (ro_move (u4 rfl s16_10)) trivial rfl ?_
  (refine al_ro' (ro_add' (up_m rfl up_h) up_h ?_) trivial rfl ?_; · (unfold In64; omega))
  refine al_ro' (ro_ix_own y25_sl60 mo2_9 (up_m rfl (u4 rfl up_h)) (u4 rfl up_h) (by omega) (by simp only [lnS] <;> omega)) trivial rfl ?_
  refine al_stm (st_store_el up_h (up_m rfl up_h) rfl rfl rfl mo2_9 (Nat.add_zero _).symm (by first | (refine idx_map ?_; first | omega | (simp only [lnS]; omega)) | (refine idx_mapI ?_; first | omega | (simp only [lnS]; omega)) | (refine idx_mapN ?_; first | omega | (simp only [lnS]; omega)) | rfl) y25_sz3 rfl (by exact Nat.le_of_ble_eq_true rfl)) trivial rfl (fun m_11 hm_11 => ?_)
  have mo2_11 := m_set hm_11 mo2_9
  simp only [packA_t, packA_f, iE, bE, setAt, cellsA, Value.cells, map_vc, map_vn, Nat.reduceAdd, qS, jnE, beE, Int.toNat_natCast, toNat_suc, rep_iE, set_iE, hgj, addAt_f, subAt_f, devD_f, wts1_f, wts2_f, wts3_f, wts4_f, wtsL_f] at mo2_11
  have mo1_11 := m_set_o hm_11 mo1_9 (by decide)
  have mo0_11 := m_set_o hm_11 mo0_9 (by decide)
  have ml_11 := m_set_l hm_11 ml_9
  clear hm_11 mo2_9 mo1_9 mo0_9
  refine al_end (fun e_12 he_12 => ?_)
  have s0_12 := ef 0 he_12 (up_n (up_m rfl (u2 rfl (u4 rfl s0_10))))
  have s5_12 := ef 5 he_12 (up_n (up_m rfl (u2 rfl (u4 rfl s5_10))))
  have s8_12 := ef 8 he_12 (up_n (up_m rfl (u2 rfl (u4 rfl s8_10))))
  have s9_12 := ef 9 he_12 (up_n (up_m rfl (u2 rfl (u4 rfl s9_10))))
  have s10_12 := ef 10 he_12 (up_n (up_m rfl (u2 rfl (u4 rfl s10_10))))
  have s11_12 := ef 11 he_12 (up_n (up_m rfl (u2 rfl (u4 rfl s11_10))))
  have s12_12 := ef 12 he_12 (up_n (up_m rfl (u2 rfl (u4 rfl s12_10))))
  have s13_12 := ef 13 he_12 (up_n (up_m rfl (u2 rfl (u4 rfl s13_10))))
  have s14_12 := ef 14 he_12 (up_n (up_m rfl (u2 rfl (u4 rfl s14_10))))
  have s15_12 := ef 15 he_12 (up_n (up_m rfl (u2 rfl (u4 rfl s15_10))))
  have s16_12 := ef 16 he_12 (up_n (up_m rfl (u2 rfl (u4 rfl s16_10))))
  have s17_12 := ef 17 he_12 (up_n (up_m rfl (u2 rfl (u4 rfl s17_10))))
  clear he_12 s0_10 s10_10 s11_10 s12_10 s13_10 s14_10 s15_10 s16_10 s17_10 s3_10 s5_10 s8_10 s9_10
  refine then_n ?_
  refine aw_seq ?_
  refine aw_draw 16 (by kernel_rfl) (by kernel_rfl) (by kernel_rfl) (by kernel_rfl) ?_
  refine ds_ro' (ro_move s17_12) trivial rfl ?_
  refine ds_ro' (ro_move (up_m rfl s9_12)) trivial rfl ?_
  refine ds_ro' (ro_ix_own y25_sl60 mo2_11 (up_m rfl up_h) up_h (by omega) (by simp only [lnS] <;> omega)) trivial rfl ?_
  refine ds_ro' (ro_eq (ro_ld_el y25_ty3 rfl mo2_11 up_h (by exact Nat.le_of_ble_eq_true rfl) (by first | (refine idx_map ?_; first | omega | (simp only [lnS]; omega)) | (refine idx_mapI ?_; first | omega | (simp only [lnS]; omega)) | (refine idx_mapN ?_; first | omega | (simp only [lnS]; omega)) | rfl)) (by simp only [packA_t, packA_f, iE, bE, setAt, cellsA, Value.cells, map_vc, map_vn, Nat.reduceAdd, qS, jnE, beE, Int.toNat_natCast, toNat_suc, rep_iE, set_iE, hgj, addAt_f, subAt_f, devD_f, wts1_f, wts2_f, wts3_f, wts4_f, wtsL_f] <;> rfl)) trivial rfl ?_
  refine ds_ro' (ro_fld_ptr y25_fl52_0 rfl (u4 rfl s5_12)) trivial rfl ?_
  refine ds_ro' (ro_eq (ro_ld_ptr y25_ty3 rfl mo0_11 up_h (by exact Nat.le_of_ble_eq_true rfl)) (by simp only [packA_t, packA_f, iE, bE, setAt, cellsA, Value.cells, map_vc, map_vn, Nat.reduceAdd, qS, jnE, beE, Int.toNat_natCast, toNat_suc, rep_iE, set_iE, hgj, addAt_f, subAt_f, devD_f, wts1_f, wts2_f, wts3_f, wts4_f, wtsL_f] <;> rfl)) trivial rfl ?_
  refine ds_ro' (ro_move (u2 rfl (u4 rfl s13_12))) trivial rfl ?_
  (refine ds_ro' (ro_sub' (up_m rfl up_h) up_h ?_) trivial rfl ?_; · (unfold In64; omega))
  refine ds_ro' (ro_move (u8 rfl s14_12)) trivial rfl ?_
  refine ds_ro' (ro_move (up_m rfl (u8 rfl s10_12))) trivial rfl ?_
  (refine ds_ro' (ro_sub' (up_m rfl up_h) up_h ?_) trivial rfl ?_; · (unfold In64; omega))
  (refine ds_ro' (ro_mul' (up_m rfl (u2 rfl up_h)) up_h ?_) trivial rfl ?_; · (unfold In64; omega))
  refine ds_ro' (ro_move (u4 rfl (u8 rfl s15_12))) trivial rfl ?_
  (refine ds_ro' (ro_mul' (up_m rfl up_h) up_h ?_) trivial rfl ?_; · (unfold In64; omega))
  (refine ds_ro' (ro_sub' (u2 rfl (u8 rfl up_h)) up_h ?_) trivial rfl ?_; · (unfold In64; omega))
  refine ds_ro' (ro_ix_own y25_sl60 mo2_11 (u2 rfl (u4 rfl (u8 rfl up_h))) (up_m rfl (u4 rfl (u8 rfl up_h))) (by omega) (by simp only [lnS] <;> omega)) trivial rfl ?_
  refine ds_nil ?_
  refine al_stm (st_store_el up_h (up_m rfl up_h) rfl rfl rfl mo2_11 (Nat.add_zero _).symm (by first | (refine idx_map ?_; first | omega | (simp only [lnS]; omega)) | (refine idx_mapI ?_; first | omega | (simp only [lnS]; omega)) | (refine idx_mapN ?_; first | omega | (simp only [lnS]; omega)) | rfl) y25_sz3 rfl (by exact Nat.le_of_ble_eq_true rfl)) trivial rfl (fun m_13 hm_13 => ?_)
  have mo2_13 := m_set hm_13 mo2_11
  simp only [packA_t, packA_f, iE, bE, setAt, cellsA, Value.cells, map_vc, map_vn, Nat.reduceAdd, qS, jnE, beE, Int.toNat_natCast, toNat_suc, rep_iE, set_iE, hgj, addAt_f, subAt_f, devD_f, wts1_f, wts2_f, wts3_f, wts4_f, wtsL_f] at mo2_13
  have mo1_13 := m_set_o hm_13 mo1_11 (by decide)
  have mo0_13 := m_set_o hm_13 mo0_11 (by decide)
  have ml_13 := m_set_l hm_13 ml_11
  clear hm_13 mo2_11 mo1_11 mo0_11
  refine al_end (fun e_14 he_14 => ?_)
  have s0_14 := ef 0 he_14 (up_n (u16 rfl s0_12))
  have s5_14 := ef 5 he_14 (up_n (u16 rfl s5_12))
  have s8_14 := ef 8 he_14 (up_n (u16 rfl s8_12))
  have s9_14 := ef 9 he_14 (up_n (u16 rfl s9_12))
  have s10_14 := ef 10 he_14 (up_n (u16 rfl s10_12))
  have s11_14 := ef 11 he_14 (up_n (u16 rfl s11_12))
  have s12_14 := ef 12 he_14 (up_n (u16 rfl s12_12))
  have s13_14 := ef 13 he_14 (up_n (u16 rfl s13_12))
  have s14_14 := ef 14 he_14 (up_n (u16 rfl s14_12))
  have s15_14 := ef 15 he_14 (up_n (u16 rfl s15_12))
  have s16_14 := ef 16 he_14 (up_n (u16 rfl s16_12))
  have s17_14 := ef 17 he_14 (up_n (u16 rfl s17_12))
  clear he_14 s0_12 s10_12 s11_12 s12_12 s13_12 s14_12 s15_12 s16_12 s17_12 s5_12 s8_12 s9_12
  refine then_n ?_
  refine aw_seq ?_
  refine aw_draw 15 (by kernel_rfl) (by kernel_rfl) (by kernel_rfl) (by kernel_rfl) ?_
  refine ds_ro' (ro_move s17_14) trivial rfl ?_
  refine ds_ro' (ro_move (up_m rfl s9_14)) trivial rfl ?_
  (refine ds_ro' (ro_add' up_h ev_c ?_) trivial rfl ?_; · (unfold In64; omega))
  refine ds_ro' (ro_ix_own y25_sl60 mo2_13 (u2 rfl up_h) up_h (by omega) (by simp only [lnS] <;> omega)) trivial rfl ?_
  refine ds_ro' (ro_eq (ro_ld_el y25_ty3 rfl mo2_13 up_h (by exact Nat.le_of_ble_eq_true rfl) (by refine idx_map ?_; first | omega | (simp only [lnS]; omega))) (by simp only [packA_t, packA_f, iE, bE, setAt, cellsA, Value.cells, map_vc, map_vn, Nat.reduceAdd, qS, jnE, beE, Int.toNat_natCast, toNat_suc, rep_iE, set_iE, hgj, addAt_f, subAt_f, devD_f, wts1_f, wts2_f, wts3_f, wts4_f, wtsL_f] <;> rfl)) trivial rfl ?_
  refine ds_ro' (ro_fld_ptr y25_fl52_0 rfl (up_m rfl (u4 rfl s5_14))) trivial rfl ?_
  refine ds_ro' (ro_eq (ro_ld_ptr y25_ty3 rfl mo0_13 up_h (by exact Nat.le_of_ble_eq_true rfl)) (by simp only [packA_t, packA_f, iE, bE, setAt, cellsA, Value.cells, map_vc, map_vn, Nat.reduceAdd, qS, jnE, beE, Int.toNat_natCast, toNat_suc, rep_iE, set_iE, hgj, addAt_f, subAt_f, devD_f, wts1_f, wts2_f, wts3_f, wts4_f, wtsL_f] <;> rfl)) trivial rfl ?_
  refine ds_ro' (ro_move (up_m rfl (u2 rfl (u4 rfl s13_14)))) trivial rfl ?_
  (refine ds_ro' (ro_sub' (up_m rfl up_h) up_h ?_) trivial rfl ?_; · (unfold In64; omega))
  refine ds_ro' (ro_move (up_m rfl (u8 rfl s10_14))) trivial rfl ?_
  (refine ds_ro' (ro_mul' (up_m rfl up_h) up_h ?_) trivial rfl ?_; · (unfold In64; omega))
  refine ds_ro' (ro_move (up_m rfl (u2 rfl (u8 rfl s15_14)))) trivial rfl ?_
  (refine ds_ro' (ro_mul' (up_m rfl up_h) up_h ?_) trivial rfl ?_; · (unfold In64; omega))
  (refine ds_ro' (ro_sub' (u8 rfl up_h) up_h ?_) trivial rfl ?_; · (unfold In64; omega))
  refine ds_ro' (ro_ix_own y25_sl60 mo2_13 (up_m rfl (u4 rfl (u8 rfl up_h))) (up_m rfl (u2 rfl (u8 rfl up_h))) (by omega) (by simp only [lnS] <;> omega)) trivial rfl ?_
  refine ds_nil ?_
  refine al_stm (st_store_el up_h (up_m rfl up_h) rfl rfl rfl mo2_13 (Nat.add_zero _).symm (by refine idx_map ?_; first | omega | (simp only [lnS]; omega)) y25_sz3 rfl (by exact Nat.le_of_ble_eq_true rfl)) trivial rfl (fun m_15 hm_15 => ?_)
  have mo2_15 := m_set hm_15 mo2_13
  simp only [packA_t, packA_f, iE, bE, setAt, cellsA, Value.cells, map_vc, map_vn, Nat.reduceAdd, qS, jnE, beE, Int.toNat_natCast, toNat_suc, rep_iE, set_iE, hgj, addAt_f, subAt_f, devD_f, wts1_f, wts2_f, wts3_f, wts4_f, wtsL_f] at mo2_15
  have mo1_15 := m_set_o hm_15 mo1_13 (by decide)
  have mo0_15 := m_set_o hm_15 mo0_13 (by decide)
  have ml_15 := m_set_l hm_15 ml_13
  clear hm_15 mo2_13 mo1_13 mo0_13
  refine al_end (fun e_16 he_16 => ?_)
  have s0_16 := ef 0 he_16 (up_n (up_m rfl (u2 rfl (u4 rfl (u8 rfl s0_14)))))
  have s8_16 := ef 8 he_16 (up_n (up_m rfl (u2 rfl (u4 rfl (u8 rfl s8_14)))))
  have s11_16 := ef 11 he_16 (up_n (up_m rfl (u2 rfl (u4 rfl (u8 rfl s11_14)))))
  have s12_16 := ef 12 he_16 (up_n (up_m rfl (u2 rfl (u4 rfl (u8 rfl s12_14)))))
  have s13_16 := ef 13 he_16 (up_n (up_m rfl (u2 rfl (u4 rfl (u8 rfl s13_14)))))
  have s14_16 := ef 14 he_16 (up_n (up_m rfl (u2 rfl (u4 rfl (u8 rfl s14_14)))))
  have s15_16 := ef 15 he_16 (up_n (up_m rfl (u2 rfl (u4 rfl (u8 rfl s15_14)))))
  have s16_16 := ef 16 he_16 (up_n (up_m rfl (u2 rfl (u4 rfl (u8 rfl s16_14)))))
  have s17_16 := ef 17 he_16 (up_n (up_m rfl (u2 rfl (u4 rfl (u8 rfl s17_14)))))
  clear he_16 s0_14 s10_14 s11_14 s12_14 s13_14 s14_14 s15_14 s16_14 s17_14 s5_14 s8_14 s9_14
  refine then_n ?_
  refine aw_seq ?_
  refine aw_text (by kernel_rfl) ?_
  refine al_ro' (ro_move s17_16) trivial rfl ?_
  refine al_ro' (ro_move (up_m rfl s11_16)) trivial rfl ?_
  refine al_ro' (ro_ix_own y25_sl60 mo2_15 (up_m rfl up_h) up_h (by omega) (by simp only [lnS] <;> omega)) trivial rfl ?_
  refine al_ro' (ro_eq (ro_ld_el y25_ty3 rfl mo2_15 up_h (by exact Nat.le_of_ble_eq_true rfl) (by first | (refine idx_map ?_; first | omega | (simp only [lnS]; omega)) | (refine idx_mapI ?_; first | omega | (simp only [lnS]; omega)) | (refine idx_mapN ?_; first | omega | (simp only [lnS]; omega)) | rfl)) (by simp only [packA_t, packA_f, iE, bE, setAt, cellsA, Value.cells, map_vc, map_vn, Nat.reduceAdd, qS, jnE, beE, Int.toNat_natCast, toNat_suc, rep_iE, set_iE, hgj, addAt_f, subAt_f, devD_f, wts1_f, wts2_f, wts3_f, wts4_f, wtsL_f] <;> rfl)) trivial rfl ?_
  refine al_ro' (ro_move (u4 rfl s13_16)) trivial rfl ?_
  refine al_ro' (ro_move (up_m rfl (u4 rfl s15_16))) trivial rfl ?_
  refine al_ro' (ro_move (u2 rfl (u4 rfl s12_16))) trivial rfl ?_
  (refine al_ro' (ro_sub' (up_m rfl up_h) up_h ?_) trivial rfl ?_; · (unfold In64; omega))
  (refine al_ro' (ro_mul' (up_m rfl (u2 rfl up_h)) up_h ?_) trivial rfl ?_; · (unfold In64; omega))
  refine al_ro' (ro_move (up_m rfl (u8 rfl s14_16))) trivial rfl ?_
  (refine al_ro' (ro_mul' (up_m rfl up_h) up_h ?_) trivial rfl ?_; · (unfold In64; omega))
  (refine al_ro' (ro_sub' (up_m rfl (u2 rfl (u4 rfl up_h))) up_h ?_) trivial rfl ?_; · (unfold In64; omega))
  refine al_ro' (ro_ix_own y25_sl60 mo2_15 (up_m rfl (u2 rfl (u8 rfl up_h))) (u2 rfl (u8 rfl up_h)) (by omega) (by simp only [lnS] <;> omega)) trivial rfl ?_
  refine al_stm (st_store_el up_h (up_m rfl up_h) rfl rfl rfl mo2_15 (Nat.add_zero _).symm (by first | (refine idx_map ?_; first | omega | (simp only [lnS]; omega)) | (refine idx_mapI ?_; first | omega | (simp only [lnS]; omega)) | (refine idx_mapN ?_; first | omega | (simp only [lnS]; omega)) | rfl) y25_sz3 rfl (by exact Nat.le_of_ble_eq_true rfl)) trivial rfl (fun m_17 hm_17 => ?_)
  have mo2_17 := m_set hm_17 mo2_15
  simp only [packA_t, packA_f, iE, bE, setAt, cellsA, Value.cells, map_vc, map_vn, Nat.reduceAdd, qS, jnE, beE, Int.toNat_natCast, toNat_suc, rep_iE, set_iE, hgj, addAt_f, subAt_f, devD_f, wts1_f, wts2_f, wts3_f, wts4_f, wtsL_f] at mo2_17
  have mo1_17 := m_set_o hm_17 mo1_15 (by decide)
  have mo0_17 := m_set_o hm_17 mo0_15 (by decide)
  have ml_17 := m_set_l hm_17 ml_15
  clear hm_17 mo2_15 mo1_15 mo0_15
  refine al_end (fun e_18 he_18 => ?_)
  have s0_18 := ef 0 he_18 (up_n (up_m rfl (u4 rfl (u8 rfl s0_16))))
  have s8_18 := ef 8 he_18 (up_n (up_m rfl (u4 rfl (u8 rfl s8_16))))
  have s11_18 := ef 11 he_18 (up_n (up_m rfl (u4 rfl (u8 rfl s11_16))))
  have s12_18 := ef 12 he_18 (up_n (up_m rfl (u4 rfl (u8 rfl s12_16))))
  have s13_18 := ef 13 he_18 (up_n (up_m rfl (u4 rfl (u8 rfl s13_16))))
  have s14_18 := ef 14 he_18 (up_n (up_m rfl (u4 rfl (u8 rfl s14_16))))
  have s16_18 := ef 16 he_18 (up_n (up_m rfl (u4 rfl (u8 rfl s16_16))))
  have s17_18 := ef 17 he_18 (up_n (up_m rfl (u4 rfl (u8 rfl s17_16))))
  clear he_18 s0_16 s11_16 s12_16 s13_16 s14_16 s15_16 s16_16 s17_16 s8_16
  refine then_n ?_
  refine aw_seq ?_
  refine aw_text (by kernel_rfl) ?_
  refine al_ro' (ro_move s17_18) trivial rfl ?_
  refine al_ro' (ro_move (up_m rfl s11_18)) trivial rfl ?_
  (refine al_ro' (ro_add' up_h ev_c ?_) trivial rfl ?_; · (unfold In64; omega))
  refine al_ro' (ro_ix_own y25_sl60 mo2_17 (u2 rfl up_h) up_h (by omega) (by simp only [lnS] <;> omega)) trivial rfl ?_
  refine al_ro' (ro_eq (ro_ld_el y25_ty3 rfl mo2_17 up_h (by exact Nat.le_of_ble_eq_true rfl) (by refine idx_map ?_; first | omega | (simp only [lnS]; omega))) (by simp only [packA_t, packA_f, iE, bE, setAt, cellsA, Value.cells, map_vc, map_vn, Nat.reduceAdd, qS, jnE, beE, Int.toNat_natCast, toNat_suc, rep_iE, set_iE, hgj, addAt_f, subAt_f, devD_f, wts1_f, wts2_f, wts3_f, wts4_f, wtsL_f] <;> rfl)) trivial rfl ?_
  refine al_ro' (ro_move (up_m rfl (u4 rfl s13_18))) trivial rfl ?_
  refine al_ro' (ro_move (u2 rfl (u4 rfl s12_18))) trivial rfl ?_
  (refine al_ro' (ro_mul' (up_m rfl up_h) up_h ?_) trivial rfl ?_; · (unfold In64; omega))
  refine al_ro' (ro_move (u8 rfl s14_18)) trivial rfl ?_
  (refine al_ro' (ro_mul' (up_m rfl up_h) up_h ?_) trivial rfl ?_; · (unfold In64; omega))
  (refine al_ro' (ro_sub' (up_m rfl (u4 rfl up_h)) up_h ?_) trivial rfl ?_; · (unfold In64; omega))
  refine al_ro' (ro_ix_own y25_sl60 mo2_17 (u2 rfl (u8 rfl up_h)) (u8 rfl up_h) (by omega) (by simp only [lnS] <;> omega)) trivial rfl ?_
  refine al_stm (st_store_el up_h (up_m rfl up_h) rfl rfl rfl mo2_17 (Nat.add_zero _).symm (by refine idx_map ?_; first | omega | (simp only [lnS]; omega)) y25_sz3 rfl (by exact Nat.le_of_ble_eq_true rfl)) trivial rfl (fun m_19 hm_19 => ?_)
  have mo2_19 := m_set hm_19 mo2_17
  simp only [packA_t, packA_f, iE, bE, setAt, cellsA, Value.cells, map_vc, map_vn, Nat.reduceAdd, qS, jnE, beE, Int.toNat_natCast, toNat_suc, rep_iE, set_iE, hgj, addAt_f, subAt_f, devD_f, wts1_f, wts2_f, wts3_f, wts4_f, wtsL_f] at mo2_19
  have mo1_19 := m_set_o hm_19 mo1_17 (by decide)
  have mo0_19 := m_set_o hm_19 mo0_17 (by decide)
  have ml_19 := m_set_l hm_19 ml_17
  clear hm_19 mo2_17 mo1_17 mo0_17
  refine al_end (fun e_20 he_20 => ?_)
  have s0_20 := ef 0 he_20 (up_n (u4 rfl (u8 rfl s0_18)))
  have s8_20 := ef 8 he_20 (up_n (u4 rfl (u8 rfl s8_18)))
  have s16_20 := ef 16 he_20 (up_n (u4 rfl (u8 rfl s16_18)))
  have s17_20 := ef 17 he_20 (up_n (u4 rfl (u8 rfl s17_18)))
  clear he_20 s0_18 s11_18 s12_18 s13_18 s14_18 s16_18 s17_18 s8_18
  refine then_n ?_
  refine aw_seq ?_
  refine aw_text (by kernel_rfl) ?_
  refine al_ro' (ro_build evP_nil y25_bz40 y25_bu40 y25_bp40 rfl) trivial rfl ?_
  refine al_stm (st_alloc y25_az40 rfl ml_19) trivial rfl (fun m_21 hm_21 => ?_)
  have mo3_21 := m_push hm_21 ml_19
  simp only [packA_t, packA_f, iE, bE, setAt, cellsA, Value.cells, map_vc, map_vn, Nat.reduceAdd, qS, jnE, beE, Int.toNat_natCast, toNat_suc, rep_iE, set_iE, hgj, addAt_f, subAt_f, devD_f, wts1_f, wts2_f, wts3_f, wts4_f, wtsL_f] at mo3_21
  have mo2_21 := m_push_o hm_21 mo2_19
  have mo1_21 := m_push_o hm_21 mo1_19
  have mo0_21 := m_push_o hm_21 mo0_19
  have ml_21 := m_push_l hm_21 ml_19
  have ml_21 : _ = 4 := ml_21
  clear hm_21 mo2_19 mo1_19 mo0_19
  refine al_stm (st_store up_h (up_m rfl up_h) rfl rfl mo3_21 y25_sz40 rfl (by exact Nat.le_of_ble_eq_true rfl)) trivial rfl (fun m_22 hm_22 => ?_)
  have mo3_22 := m_set hm_22 mo3_21
  simp only [packA_t, packA_f, iE, bE, setAt, cellsA, Value.cells, map_vc, map_vn, Nat.reduceAdd, qS, jnE, beE, Int.toNat_natCast, toNat_suc, rep_iE, set_iE, hgj, addAt_f, subAt_f, devD_f, wts1_f, wts2_f, wts3_f, wts4_f, wtsL_f] at mo3_22
  have mo2_22 := m_set_o hm_22 mo2_21 (by decide)
  have mo1_22 := m_set_o hm_22 mo1_21 (by decide)
  have mo0_22 := m_set_o hm_22 mo0_21 (by decide)
  have ml_22 := m_set_l hm_22 ml_21
  clear hm_22 mo3_21 mo2_21 mo1_21 mo0_21
  refine al_end (fun e_23 he_23 => ?_)
  have s0_23 := ef 0 he_23 (up_n (u2 rfl s0_20))
  have s8_23 := ef 8 he_23 (up_n (u2 rfl s8_20))
  have s16_23 := ef 16 he_23 (up_n (u2 rfl s16_20))
  have s17_23 := ef 17 he_23 (up_n (u2 rfl s17_20))
  have s18_23 := ef 18 he_23 (up_n up_h)
  clear he_23 s0_20 s16_20 s17_20 s8_20
  refine then_n ?_
  refine aw_seq ?_
  refine aw_seq ?_
  refine aw_text (by kernel_rfl) ?_
  refine al_ro' (ro_move s17_23) trivial rfl ?_
  refine al_ro' (ro_eq (ro_len_own up_h mo2_22 rfl y25_sl60.1) (by simp only [lnS] <;> rfl)) trivial rfl ?_
  refine al_ro' (ro_move ev_c) trivial rfl ?_
  refine al_end (fun e_24 he_24 => ?_)
  have s0_24 := ef 0 he_24 (up_m rfl (u2 rfl s0_23))
  have s8_24 := ef 8 he_24 (up_m rfl (u2 rfl s8_23))
  have s16_24 := ef 16 he_24 (up_m rfl (u2 rfl s16_23))
  have s18_24 := ef 18 he_24 (up_m rfl (u2 rfl s18_23))
  have s143_24 := ef 143 he_24 (u2 rfl up_h)
  have s144_24 := ef 144 he_24 (up_m rfl up_h)
  have s145_24 := ef 145 he_24 up_h
  clear he_24 s0_23 s16_23 s17_23 s18_23 s8_23
  refine then_n ?_
  refine aw_block ?_
  refine aw_loop (S := (Int × Int × Int)) (fun s e mem => match s with | ⟨i, lo, hi⟩ => (evA e (.tmp 145) = .v (.int .i64 i)) ∧ (evA e (.tmp 0) = evA e_24 (.tmp 0)) ∧ (evA e (.tmp 8) = evA e_24 (.tmp 8)) ∧ (evA e (.tmp 16) = evA e_24 (.tmp 16)) ∧ (evA e (.tmp 18) = evA e_24 (.tmp 18)) ∧ (evA e (.tmp 143) = evA e_24 (.tmp 143)) ∧ (evA e (.tmp 144) = evA e_24 (.tmp 144)) ∧ (mem[3]? = some (.box 40 [mA lo, mA hi])) ∧ (mem[2]? = m_22[2]?) ∧ (mem[1]? = m_22[1]?) ∧ (mem[0]? = m_22[0]?) ∧ (∃ n, mem.length = n ∧ 4 ≤ n) ∧ ((0 ≤ i ∧ i ≤ l.js.length ∧ lo = devS loF (wtsL l L p j) l.js i.toNat ∧ hi = devS hiF (wtsL l L p j) l.js i.toNat))) (fun s => match s with | ⟨i, lo, hi⟩ => (l.js.length - i).toNat) ⟨_, _, _⟩ ⟨s145_24, rfl, rfl, rfl, rfl, rfl, rfl, mo3_22, rfl, rfl, rfl, ⟨_, ml_22, Nat.le_refl _⟩, ?_⟩ ?_
  · (exact ⟨by omega, by omega, rfl, rfl⟩)
  · rintro ⟨i, lo, hi⟩ e_25 m_25 ⟨s145_25, k0_25, k8_25, k16_25, k18_25, k143_25, k144_25, mo3_25, mk2_25, mk1_25, mk0_25, ⟨n_25, ml_25, hn_25⟩, hinv⟩
    have s0_25 := k0_25.trans s0_24
    have s8_25 := k8_25.trans s8_24
    have s16_25 := k16_25.trans s16_24
    have s18_25 := k18_25.trans s18_24
    have s143_25 := k143_25.trans s143_24
    have s144_25 := k144_25.trans s144_24
    have mo2_25 := mk2_25.trans mo2_22
    have mo1_25 := mk1_25.trans mo1_22
    have mo0_25 := mk0_25.trans mo0_22
    (obtain ⟨q1, q2, q3, q4⟩ := hinv)
    refine aw_seq ?_
    refine aw_text (by kernel_rfl) ?_
    refine al_ro' (ro_lss s145_25 s144_25) trivial rfl ?_
    refine al_end (fun e_26 he_26 => ?_)
    have s0_26 := ef 0 he_26 (up_m rfl s0_25)
    have s8_26 := ef 8 he_26 (up_m rfl s8_25)
    have s16_26 := ef 16 he_26 (up_m rfl s16_25)
    have s18_26 := ef 18 he_26 (up_m rfl s18_25)
    have s143_26 := ef 143 he_26 (up_m rfl s143_25)
    have s144_26 := ef 144 he_26 (up_m rfl s144_25)
    have s145_26 := ef 145 he_26 (up_m rfl s145_25)
    have s146_26 := ef 146 he_26 up_h
    clear he_26 s0_25 s143_25 s144_25 s145_25 s16_25 s18_25 s8_25
    refine then_n ?_
    refine aw_seq ?_
    refine aw_case s146_26 (fun hq_27 => ?_) (fun hq_27 => ?_)
    ·replace hq_27 := bt hq_27
     (have j2 := h.jnt i.toNat (by omega); have w1 := absP_get (ws := wtsL l L p j) (n := l.js.length) (i := i.toNat) (by omega); obtain ⟨f1, f2, f3, f4, f5⟩ := fF_bd (w := (wtsL l L p j).getD i.toNat default) (j := l.js.getD i.toNat default) (Nat.le_trans w1 s5) j2.1 ⟨j2.2.2.1, j2.2.2.2.1, j2.2.2.2.2⟩; clear w1; replace f3 := nat2 f3; replace f4 := nat2 f4; replace f5 := nat2 f5; clear f1 f2; have w2 := dev_in h (.inl rfl) s5 (n := i.toNat) (by omega); have w3 := dev_in h (.inr rfl) s5 (n := i.toNat) (by omega))
     refine aw_skip ?_
     refine then_n ?_
     refine aw_seq ?_
     refine aw_block ?_
     refine aw_seq ?_
     refine aw_text (by kernel_rfl) ?_
     refine al_ro' (ro_move s145_26) trivial rfl ?_
     refine al_ro' (ro_ix_own y25_sl60 mo2_25 (up_m rfl s143_26) (up_m rfl s145_26) (by omega) (by simp only [lnS] <;> omega)) trivial rfl ?_
     refine al_ro' (ro_eq (ro_ld_el y25_ty3 rfl mo2_25 up_h (by exact Nat.le_of_ble_eq_true rfl) (by first | (refine idx_map ?_; first | omega | (simp only [lnS]; omega)) | (refine idx_mapI ?_; first | omega | (simp only [lnS]; omega)) | (refine idx_mapN ?_; first | omega | (simp only [lnS]; omega)) | rfl)) (by simp only [packA_t, packA_f, iE, bE, setAt, cellsA, Value.cells, map_vc, map_vn, Nat.reduceAdd, qS, jnE, beE, Int.toNat_natCast, toNat_suc, rep_iE, set_iE, hgj, addAt_f, subAt_f, devD_f, wts1_f, wts2_f, wts3_f, wts4_f, wtsL_f] <;> rfl)) trivial rfl ?_
     refine al_ro' (ro_assign (u2 rfl up_h)) trivial rfl ?_
     refine al_ro' (ro_assign (up_m rfl up_h)) trivial rfl ?_
     refine al_end (fun e_28 he_28 => ?_)
     have s0_28 := ef 0 he_28 (up_m rfl (u4 rfl s0_26))
     have s8_28 := ef 8 he_28 (up_m rfl (u4 rfl s8_26))
     have s16_28 := ef 16 he_28 (up_m rfl (u4 rfl s16_26))
     have s18_28 := ef 18 he_28 (up_m rfl (u4 rfl s18_26))
     have s19_28 := ef 19 he_28 (up_m rfl up_h)
     have s20_28 := ef 20 he_28 up_h
     have s143_28 := ef 143 he_28 (up_m rfl (u4 rfl s143_26))
     have s144_28 := ef 144 he_28 (up_m rfl (u4 rfl s144_26))
     have s145_28 := ef 145 he_28 (up_m rfl (u4 rfl s145_26))
     clear he_28 s0_26 s143_26 s144_26 s145_26 s146_26 s16_26 s18_26 s8_26
     refine then_n ?_
     refine aw_seq ?_
     refine aw_text (by kernel_rfl) ?_
     refine al_ro' (ro_move s0_28) trivial rfl ?_
     refine al_ro' (ro_nilR up_h) trivial rfl ?_
     refine al_ro' (ro_eq (ro_fld_ref y25_fl116_0 rfl up_h) (by simp only [packA_t, packA_f, iE, bE, setAt, cellsA, Value.cells, map_vc, map_vn, Nat.reduceAdd, qS, jnE, beE, Int.toNat_natCast, toNat_suc, rep_iE, set_iE, hgj, addAt_f, subAt_f, devD_f, wts1_f, wts2_f, wts3_f, wts4_f, wtsL_f] <;> rfl)) trivial rfl ?_
     refine al_ro' (ro_eq (ro_fld_ref y25_fl26_1 rfl up_h) (by simp only [packA_t, packA_f, iE, bE, setAt, cellsA, Value.cells, map_vc, map_vn, Nat.reduceAdd, qS, jnE, beE, Int.toNat_natCast, toNat_suc, rep_iE, set_iE, hgj, addAt_f, subAt_f, devD_f, wts1_f, wts2_f, wts3_f, wts4_f, wtsL_f] <;> rfl)) trivial rfl ?_
     refine al_ro' (ro_eq (ro_ld_ref y25_ty22 rfl up_h (by exact Nat.le_of_ble_eq_true rfl)) (by simp only [packA_t, packA_f, iE, bE, setAt, cellsA, Value.cells, map_vc, map_vn, Nat.reduceAdd, qS, jnE, beE, Int.toNat_natCast, toNat_suc, rep_iE, set_iE, hgj, addAt_f, subAt_f, devD_f, wts1_f, wts2_f, wts3_f, wts4_f, wtsL_f] <;> rfl)) trivial rfl ?_
     refine al_ro' (ro_move (up_m rfl (u4 rfl s19_28))) trivial rfl ?_
     refine al_ro' (ro_eq (ro_ix y25_sl22 (up_m rfl up_h) up_h (by omega) (by first | (refine idx_map ?_; first | omega | (simp only [lnS]; omega)) | (refine idx_mapI ?_; first | omega | (simp only [lnS]; omega)) | (refine idx_mapN ?_; first | omega | (simp only [lnS]; omega)) | rfl)) (by simp only [packA_t, packA_f, iE, bE, setAt, cellsA, Value.cells, map_vc, map_vn, Nat.reduceAdd, qS, jnE, beE, Int.toNat_natCast, toNat_suc, rep_iE, set_iE, hgj, addAt_f, subAt_f, devD_f, wts1_f, wts2_f, wts3_f, wts4_f, wtsL_f] <;> rfl)) trivial rfl ?_
     refine al_ro' (ro_eq (ro_ld_ref y25_ty42 rfl up_h (by exact Nat.le_of_ble_eq_true rfl)) (by simp only [packA_t, packA_f, iE, bE, setAt, cellsA, Value.cells, map_vc, map_vn, Nat.reduceAdd, qS, jnE, beE, Int.toNat_natCast, toNat_suc, rep_iE, set_iE, hgj, addAt_f, subAt_f, devD_f, wts1_f, wts2_f, wts3_f, wts4_f, wtsL_f] <;> rfl)) trivial rfl ?_
     refine al_stm (st_alloc y25_az42 rfl ml_25) trivial rfl (fun m_29 hm_29 => ?_)
     have mon_25_29 := m_push hm_29 ml_25
     simp only [packA_t, packA_f, iE, bE, setAt, cellsA, Value.cells, map_vc, map_vn, Nat.reduceAdd, qS, jnE, beE, Int.toNat_natCast, toNat_suc, rep_iE, set_iE, hgj, addAt_f, subAt_f, devD_f, wts1_f, wts2_f, wts3_f, wts4_f, wtsL_f] at mon_25_29
     have mo3_29 := m_push_o hm_29 mo3_25
     have mo2_29 := m_push_o hm_29 mo2_25
     have mo1_29 := m_push_o hm_29 mo1_25
     have mo0_29 := m_push_o hm_29 mo0_25
     have ml_29 := m_push_l hm_29 ml_25
     clear hm_29 mo3_25 mo2_25 mo1_25 mo0_25
     refine al_stm (st_store up_h (up_m rfl up_h) rfl rfl mon_25_29 y25_sz42 rfl (by exact Nat.le_of_ble_eq_true rfl)) trivial rfl (fun m_30 hm_30 => ?_)
     have mon_25_30 := m_set hm_30 mon_25_29
     simp only [packA_t, packA_f, iE, bE, setAt, cellsA, Value.cells, map_vc, map_vn, Nat.reduceAdd, qS, jnE, beE, Int.toNat_natCast, toNat_suc, rep_iE, set_iE, hgj, addAt_f, subAt_f, devD_f, wts1_f, wts2_f, wts3_f, wts4_f, wtsL_f] at mon_25_30
     have mo3_30 := m_set_o hm_30 mo3_29 (by omega)
     have mo2_30 := m_set_o hm_30 mo2_29 (by omega)
     have mo1_30 := m_set_o hm_30 mo1_29 (by omega)
     have mo0_30 := m_set_o hm_30 mo0_29 (by omega)
     have ml_30 := m_set_l hm_30 ml_29
     clear hm_30 mon_25_29 mo3_29 mo2_29 mo1_29 mo0_29
     refine al_end (fun e_31 he_31 => ?_)
     have s0_31 := ef 0 he_31 (up_n (up_m rfl (u8 rfl s0_28)))
     have s8_31 := ef 8 he_31 (up_n (up_m rfl (u8 rfl s8_28)))
     have s16_31 := ef 16 he_31 (up_n (up_m rfl (u8 rfl s16_28)))
     have s18_31 := ef 18 he_31 (up_n (up_m rfl (u8 rfl s18_28)))
     have s20_31 := ef 20 he_31 (up_n (up_m rfl (u8 rfl s20_28)))
     have s21_31 := ef 21 he_31 (up_n up_h)
     have s143_31 := ef 143 he_31 (up_n (up_m rfl (u8 rfl s143_28)))
     have s144_31 := ef 144 he_31 (up_n (up_m rfl (u8 rfl s144_28)))
     have s145_31 := ef 145 he_31 (up_n (up_m rfl (u8 rfl s145_28)))
     clear he_31 s0_28 s143_28 s144_28 s145_28 s16_28 s18_28 s19_28 s20_28 s8_28
     refine then_n ?_
     refine aw_seq ?_
     refine aw_draw 12 (by kernel_rfl) (by kernel_rfl) (by kernel_rfl) (by kernel_rfl) ?_
     refine ds_ro' (ro_move s20_31) trivial rfl ?_
     refine ds_ro' (ro_fld_ptr y25_fl42_2 rfl (up_m rfl s21_31)) trivial rfl ?_
     refine ds_ro' (ro_fld_ptr y25_fl40_0 rfl up_h) trivial rfl ?_
     refine ds_ro' (ro_eq (ro_ld_ptr y25_ty3 rfl mon_25_30 up_h (by exact Nat.le_of_ble_eq_true rfl)) (by simp only [packA_t, packA_f, iE, bE, setAt, cellsA, Value.cells, map_vc, map_vn, Nat.reduceAdd, qS, jnE, beE, Int.toNat_natCast, toNat_suc, rep_iE, set_iE, hgj, addAt_f, subAt_f, devD_f, wts1_f, wts2_f, wts3_f, wts4_f, wtsL_f] <;> rfl)) trivial rfl ?_
     (refine ds_ro' (ro_mul' (up_m rfl (u2 rfl up_h)) up_h ?_) trivial rfl ?_; · (unfold In64; omega))
     refine ds_ro' (ro_move (up_m rfl (u4 rfl s20_31))) trivial rfl ?_
     refine ds_ro' (ro_fld_ptr y25_fl42_2 rfl (u2 rfl (u4 rfl s21_31))) trivial rfl ?_
     refine ds_ro' (ro_fld_ptr y25_fl40_1 rfl up_h) trivial rfl ?_
     refine ds_ro' (ro_eq (ro_ld_ptr y25_ty3 rfl mon_25_30 up_h (by exact Nat.le_of_ble_eq_true rfl)) (by simp only [packA_t, packA_f, iE, bE, setAt, cellsA, Value.cells, map_vc, map_vn, Nat.reduceAdd, qS, jnE, beE, Int.toNat_natCast, toNat_suc, rep_iE, set_iE, hgj, addAt_f, subAt_f, devD_f, wts1_f, wts2_f, wts3_f, wts4_f, wtsL_f] <;> rfl)) trivial rfl ?_
     (refine ds_ro' (ro_mul' (up_m rfl (u2 rfl up_h)) up_h ?_) trivial rfl ?_; · (unfold In64; omega))
     refine ds_ro' (ro_assign (up_m rfl (u4 rfl up_h))) trivial rfl ?_
     refine ds_ro' (ro_assign (up_m rfl up_h)) trivial rfl ?_
     refine ds_nil ?_
     refine al_end (fun e_32 he_32 => ?_)
     have s0_32 := ef 0 he_32 (u4 rfl (u8 rfl s0_31))
     have s8_32 := ef 8 he_32 (u4 rfl (u8 rfl s8_31))
     have s16_32 := ef 16 he_32 (u4 rfl (u8 rfl s16_31))
     have s18_32 := ef 18 he_32 (u4 rfl (u8 rfl s18_31))
     have s20_32 := ef 20 he_32 (u4 rfl (u8 rfl s20_31))
     have s21_32 := ef 21 he_32 (u4 rfl (u8 rfl s21_31))
     have s22_32 := ef 22 he_32 (up_m rfl up_h)
     have s23_32 := ef 23 he_32 up_h
     have s143_32 := ef 143 he_32 (u4 rfl (u8 rfl s143_31))
     have s144_32 := ef 144 he_32 (u4 rfl (u8 rfl s144_31))
     have s145_32 := ef 145 he_32 (u4 rfl (u8 rfl s145_31))
     clear he_32 s0_31 s143_31 s144_31 s145_31 s16_31 s18_31 s20_31 s21_31 s8_31
     refine then_n ?_
     refine aw_seq ?_
     refine aw_text (by kernel_rfl) ?_
     refine al_ro' (ro_fld_ptr y25_fl40_0 rfl s18_32) trivial rfl ?_
     refine al_ro' (ro_eq (ro_ld_ptr y25_ty3 rfl mo3_30 up_h (by exact Nat.le_of_ble_eq_true rfl)) (by simp only [packA_t, packA_f, iE, bE, setAt, cellsA, Value.cells, map_vc, map_vn, Nat.reduceAdd, qS, jnE, beE, Int.toNat_natCast, toNat_suc, rep_iE, set_iE, hgj, addAt_f, subAt_f, devD_f, wts1_f, wts2_f, wts3_f, wts4_f, wtsL_f] <;> rfl)) trivial rfl ?_
     refine al_ro' (ro_move (u2 rfl s20_32)) trivial rfl ?_
     refine al_ro' (ro_fld_ptr y25_fl42_0 rfl (up_m rfl (u2 rfl s21_32))) trivial rfl ?_
     refine al_ro' (ro_eq (ro_ld_ptr y25_ty3 rfl mon_25_30 up_h (by exact Nat.le_of_ble_eq_true rfl)) (by simp only [packA_t, packA_f, iE, bE, setAt, cellsA, Value.cells, map_vc, map_vn, Nat.reduceAdd, qS, jnE, beE, Int.toNat_natCast, toNat_suc, rep_iE, set_iE, hgj, addAt_f, subAt_f, devD_f, wts1_f, wts2_f, wts3_f, wts4_f, wtsL_f] <;> rfl)) trivial rfl ?_
     (refine al_ro' (ro_mul' (u2 rfl up_h) up_h ?_) trivial rfl ?_; · (unfold In64; omega))
     refine al_ro' (ro_move (u2 rfl (u4 rfl s22_32))) trivial rfl ?_
     refine al_ro' (ro_move (up_m rfl (u2 rfl (u4 rfl s23_32)))) trivial rfl ?_
     refine al_ro' (ro_min (up_m rfl up_h) up_h) trivial rfl ?_
     (refine al_ro' (ro_add' (up_m rfl (u2 rfl up_h)) up_h ?_) trivial rfl ?_; · (unfold In64; omega))
     (refine al_ro' (ro_add' (u8 rfl up_h) up_h ?_) trivial rfl ?_; · (unfold In64; omega))
     refine al_ro' (ro_fld_ptr y25_fl40_0 rfl (up_m rfl (u2 rfl (u8 rfl s18_32)))) trivial rfl ?_
     refine al_stm (st_store up_h (up_m rfl up_h) rfl rfl mo3_30 y25_sz3 rfl (by exact Nat.le_of_ble_eq_true rfl)) trivial rfl (fun m_33 hm_33 => ?_)
     have mo3_33 := m_set hm_33 mo3_30
     simp only [packA_t, packA_f, iE, bE, setAt, cellsA, Value.cells, map_vc, map_vn, Nat.reduceAdd, qS, jnE, beE, Int.toNat_natCast, toNat_suc, rep_iE, set_iE, hgj, addAt_f, subAt_f, devD_f, wts1_f, wts2_f, wts3_f, wts4_f, wtsL_f] at mo3_33
     have mon_25_33 := m_set_o hm_33 mon_25_30 (by omega)
     have mo2_33 := m_set_o hm_33 mo2_30 (by decide)
     have mo1_33 := m_set_o hm_33 mo1_30 (by decide)
     have mo0_33 := m_set_o hm_33 mo0_30 (by decide)
     have ml_33 := m_set_l hm_33 ml_30
     clear hm_33 mon_25_30 mo3_30 mo2_30 mo1_30 mo0_30
     refine al_end (fun e_34 he_34 => ?_)
     have s0_34 := ef 0 he_34 (up_n (u4 rfl (u8 rfl s0_32)))
     have s8_34 := ef 8 he_34 (up_n (u4 rfl (u8 rfl s8_32)))
     have s16_34 := ef 16 he_34 (up_n (u4 rfl (u8 rfl s16_32)))
     have s18_34 := ef 18 he_34 (up_n (u4 rfl (u8 rfl s18_32)))
     have s20_34 := ef 20 he_34 (up_n (u4 rfl (u8 rfl s20_32)))
     have s21_34 := ef 21 he_34 (up_n (u4 rfl (u8 rfl s21_32)))
     have s22_34 := ef 22 he_34 (up_n (u4 rfl (u8 rfl s22_32)))
     have s23_34 := ef 23 he_34 (up_n (u4 rfl (u8 rfl s23_32)))
     have s143_34 := ef 143 he_34 (up_n (u4 rfl (u8 rfl s143_32)))
     have s144_34 := ef 144 he_34 (up_n (u4 rfl (u8 rfl s144_32)))
     have s145_34 := ef 145 he_34 (up_n (u4 rfl (u8 rfl s145_32)))
     clear he_34 s0_32 s143_32 s144_32 s145_32 s16_32 s18_32 s20_32 s21_32 s22_32 s23_32 s8_32
     refine then_n ?_
     refine aw_text (by kernel_rfl) ?_
     refine al_ro' (ro_fld_ptr y25_fl40_1 rfl s18_34) trivial rfl ?_
     refine al_ro' (ro_eq (ro_ld_ptr y25_ty3 rfl mo3_33 up_h (by exact Nat.le_of_ble_eq_true rfl)) (by simp only [packA_t, packA_f, iE, bE, setAt, cellsA, Value.cells, map_vc, map_vn, Nat.reduceAdd, qS, jnE, beE, Int.toNat_natCast, toNat_suc, rep_iE, set_iE, hgj, addAt_f, subAt_f, devD_f, wts1_f, wts2_f, wts3_f, wts4_f, wtsL_f] <;> rfl)) trivial rfl ?_
     refine al_ro' (ro_move (u2 rfl s20_34)) trivial rfl ?_
     refine al_ro' (ro_fld_ptr y25_fl42_0 rfl (up_m rfl (u2 rfl s21_34))) trivial rfl ?_
     refine al_ro' (ro_eq (ro_ld_ptr y25_ty3 rfl mon_25_33 up_h (by exact Nat.le_of_ble_eq_true rfl)) (by simp only [packA_t, packA_f, iE, bE, setAt, cellsA, Value.cells, map_vc, map_vn, Nat.reduceAdd, qS, jnE, beE, Int.toNat_natCast, toNat_suc, rep_iE, set_iE, hgj, addAt_f, subAt_f, devD_f, wts1_f, wts2_f, wts3_f, wts4_f, wtsL_f] <;> rfl)) trivial rfl ?_
     (refine al_ro' (ro_mul' (u2 rfl up_h) up_h ?_) trivial rfl ?_; · (unfold In64; omega))
     refine al_ro' (ro_move (u2 rfl (u4 rfl s22_34))) trivial rfl ?_
     refine al_ro' (ro_move (up_m rfl (u2 rfl (u4 rfl s23_34)))) trivial rfl ?_
     refine al_ro' (ro_max (up_m rfl up_h) up_h) trivial rfl ?_
     (refine al_ro' (ro_add' (up_m rfl (u2 rfl up_h)) up_h ?_) trivial rfl ?_; · (unfold In64; omega))
     (refine al_ro' (ro_add' (u8 rfl up_h) up_h ?_) trivial rfl ?_; · (unfold In64; omega))
     refine al_ro' (ro_fld_ptr y25_fl40_1 rfl (up_m rfl (u2 rfl (u8 rfl s18_34)))) trivial rfl ?_
     refine al_stm (st_store up_h (up_m rfl up_h) rfl rfl mo3_33 y25_sz3 rfl (by exact Nat.le_of_ble_eq_true rfl)) trivial rfl (fun m_35 hm_35 => ?_)
     have mo3_35 := m_set hm_35 mo3_33
     simp only [packA_t, packA_f, iE, bE, setAt, cellsA, Value.cells, map_vc, map_vn, Nat.reduceAdd, qS, jnE, beE, Int.toNat_natCast, toNat_suc, rep_iE, set_iE, hgj, addAt_f, subAt_f, devD_f, wts1_f, wts2_f, wts3_f, wts4_f, wtsL_f] at mo3_35
     have mon_25_35 := m_set_o hm_35 mon_25_33 (by omega)
     have mo2_35 := m_set_o hm_35 mo2_33 (by decide)
     have mo1_35 := m_set_o hm_35 mo1_33 (by decide)
     have mo0_35 := m_set_o hm_35 mo0_33 (by decide)
     have ml_35 := m_set_l hm_35 ml_33
     clear hm_35 mo3_33 mon_25_33 mo2_33 mo1_33 mo0_33
     refine al_end (fun e_36 he_36 => ?_)
     have s0_36 := ef 0 he_36 (up_n (u4 rfl (u8 rfl s0_34)))
     have s8_36 := ef 8 he_36 (up_n (u4 rfl (u8 rfl s8_34)))
     have s16_36 := ef 16 he_36 (up_n (u4 rfl (u8 rfl s16_34)))
     have s18_36 := ef 18 he_36 (up_n (u4 rfl (u8 rfl s18_34)))
     have s143_36 := ef 143 he_36 (up_n (u4 rfl (u8 rfl s143_34)))
     have s144_36 := ef 144 he_36 (up_n (u4 rfl (u8 rfl s144_34)))
     have s145_36 := ef 145 he_36 (up_n (u4 rfl (u8 rfl s145_34)))
     clear he_36 s0_34 s143_34 s144_34 s145_34 s16_34 s18_34 s20_34 s21_34 s22_34 s23_34 s8_34
     refine block_n ?_
     refine then_n ?_
     refine aw_text (by kernel_rfl) ?_
     (refine al_ro' (ro_add' s145_36 ev_c ?_) trivial rfl ?_; · (unfold In64; omega))
     refine al_ro' (ro_move up_h) trivial rfl ?_
     refine al_end (fun e_37 he_37 => ?_)
     have s0_37 := ef 0 he_37 (u2 rfl s0_36)
     have s8_37 := ef 8 he_37 (u2 rfl s8_36)
     have s16_37 := ef 16 he_37 (u2 rfl s16_36)
     have s18_37 := ef 18 he_37 (u2 rfl s18_36)
     have s143_37 := ef 143 he_37 (u2 rfl s143_36)
     have s144_37 := ef 144 he_37 (u2 rfl s144_36)
     have s145_37 := ef 145 he_37 up_h
     clear he_37 s0_36 s143_36 s144_36 s145_36 s16_36 s18_36 s8_36
     refine then_n ?_
     refine ⟨⟨_, _, _⟩, ⟨s145_37, (s0_37.trans s0_24.symm), (s8_37.trans s8_24.symm), (s16_37.trans s16_24.symm), (s18_37.trans s18_24.symm), (s143_37.trans s143_24.symm), (s144_37.trans s144_24.symm), mo3_35, (mo2_35.trans mo2_22.symm), (mo1_35.trans mo1_22.symm), (mo0_35.trans mo0_22.symm), ⟨_, ml_35, by omega⟩, ?_⟩, ?_⟩
     · (refine ⟨by omega, by omega, ?_, ?_⟩ <;> (rw [show (i + 1).toNat = i.toNat + 1 by omega]; first | (rw [q3]; rfl) | (rw [q4]; rfl)))
     · ((try dsimp only); omega)
    replace hq_27 := bf hq_27
    (have hi' : i.toNat = l.js.length := (by omega); rw [hi'] at q3 q4; have w2 := dev_in h (.inl rfl) s5 (n := l.js.length) (Nat.le_refl _); have w3 := dev_in h (.inr rfl) s5 (n := l.js.length) (Nat.le_refl _); have w5 := ediv_bd (n := -hi) d0 (by omega))
    refine aw_exit ?_
    refine then_x ?_
    refine then_x ?_
    refine block_hit ?_
    refine then_n ?_
    refine aw_seq ?_
    refine aw_draw 11 (by kernel_rfl) (by kernel_rfl) (by kernel_rfl) (by kernel_rfl) ?_
    refine ds_ro' (ro_fld_ptr y25_fl40_0 rfl s18_26) trivial rfl ?_
    refine ds_ro' (ro_eq (ro_ld_ptr y25_ty3 rfl mo3_25 up_h (by exact Nat.le_of_ble_eq_true rfl)) (by simp only [packA_t, packA_f, iE, bE, setAt, cellsA, Value.cells, map_vc, map_vn, Nat.reduceAdd, qS, jnE, beE, Int.toNat_natCast, toNat_suc, rep_iE, set_iE, hgj, addAt_f, subAt_f, devD_f, wts1_f, wts2_f, wts3_f, wts4_f, wtsL_f] <;> rfl)) trivial rfl ?_
    refine ds_ro' (ro_move (u2 rfl s16_26)) trivial rfl ?_
    refine ds_ro' (ro_call (evL_cons (up_m rfl up_h) (evL_cons up_h evL_nil)) rfl (yFloor_ok _ _ d0 (by omega)) y25_hcf116) trivial rfl ?_
    refine ds_ro' (ro_fld_ptr y25_fl40_1 rfl (u4 rfl s18_26)) trivial rfl ?_
    refine ds_ro' (ro_eq (ro_ld_ptr y25_ty3 rfl mo3_25 up_h (by exact Nat.le_of_ble_eq_true rfl)) (by simp only [packA_t, packA_f, iE, bE, setAt, cellsA, Value.cells, map_vc, map_vn, Nat.reduceAdd, qS, jnE, beE, Int.toNat_natCast, toNat_suc, rep_iE, set_iE, hgj, addAt_f, subAt_f, devD_f, wts1_f, wts2_f, wts3_f, wts4_f, wtsL_f] <;> rfl)) trivial rfl ?_
    (refine ds_ro' (ro_neg' up_h ?_) trivial rfl ?_; · (unfold In64; omega))
    refine ds_ro' (ro_move (up_m rfl (u2 rfl (u4 rfl s16_26)))) trivial rfl ?_
    refine ds_ro' (ro_call (evL_cons (up_m rfl up_h) (evL_cons up_h evL_nil)) rfl (yFloor_ok _ _ d0 (by omega)) y25_hcf116) trivial rfl ?_
    refine ds_ro' (ro_neg up_h) trivial rfl ?_
    refine ds_ro' (ro_build (evP_cons (u2 rfl (u4 rfl up_h)) (evP_cons up_h evP_nil)) y25_bz40 y25_bu40 y25_bp40 rfl) trivial rfl ?_
    refine ds_nil ?_
    refine al_stm (st_store (up_m rfl (u2 rfl (u8 rfl s8_26))) up_h rfl rfl mo1_25 y25_sz40 rfl (by exact Nat.le_of_ble_eq_true rfl)) trivial rfl (fun m_38 hm_38 => ?_)
    have mo1_38 := m_set hm_38 mo1_25
    simp only [packA_t, packA_f, iE, bE, setAt, cellsA, Value.cells, map_vc, map_vn, Nat.reduceAdd, qS, jnE, beE, Int.toNat_natCast, toNat_suc, rep_iE, set_iE, hgj, addAt_f, subAt_f, devD_f, wts1_f, wts2_f, wts3_f, wts4_f, wtsL_f] at mo1_38
    have mo3_38 := m_set_o hm_38 mo3_25 (by decide)
    have mo2_38 := m_set_o hm_38 mo2_25 (by decide)
    have mo0_38 := m_set_o hm_38 mo0_25 (by decide)
    have ml_38 := m_set_l hm_38 ml_25
    clear hm_38 mo3_25 mo2_25 mo1_25 mo0_25
    refine al_end (fun e_39 he_39 => ?_)
    have s8_39 := ef 8 he_39 (up_n (up_m rfl (u2 rfl (u8 rfl s8_26))))
    clear he_39 s0_26 s143_26 s144_26 s145_26 s146_26 s16_26 s18_26 s8_26
    refine then_n ?_
    refine aw_ret ?_
    refine ret1 (.inr rfl) (by kernel_rfl) (resV_cell s8_39 mo1_38 y25_ty40 (by exact Nat.le_of_ble_eq_true rfl) (by simp)) (vw_r (.ro _ rfl)) ?_
    clear s8_39 mo1_38 mo3_38 mo2_38 mo0_38 ml_38
    (rw [q4] at w5; rw [q3, q4, wrap_in (by unfold In64; omega)]; rfl)
end Go.Proofs.Ytknclifdncmgpaa

/- Contracts of chapter 1: the joints beneath a pose; the deviation at one. No conditions on a program. -/
namespace Go.Proofs.Ytknclifdncmgpaa
open Go Go.RowKit Go.Proofs
set_option linter.unusedSimpArgs false
set_option linter.unusedVariables false
theorem y26_az111 : (Try.prog.info? 111).bind (·.zero) = some (.pointer none) := by kernel_rfl
theorem y26_az30 : (Try.prog.info? 30).bind (·.zero) = some (.int .i64 0) := by kernel_rfl
theorem y26_az40 : (Try.prog.info? 40).bind (·.zero) = some (.agg #[.int .i64 0, .int .i64 0]) := by kernel_rfl
theorem y26_ar53 : ArIs Try.prog 53 2 1 := ⟨by kernel_rfl, by kernel_rfl⟩
theorem y26_bz40 : (Try.prog.info? 40).bind (·.zero) = some (.agg #[.int .i64 0, .int .i64 0]) := by kernel_rfl
theorem y26_bu40 : Try.prog.underlying 40 = some (.struct (fsOf Try.prog 40)) := by kernel_rfl
theorem y26_bp40 : ∀ w, ((fsOf Try.prog 40).mapM fun f => Prod.mk f.offset <$> sizeOf f.type : Sem (Array (Nat × Nat))).run Try.prog w = .ok (#[(0, 1), (1, 1)]) w := fun _ => by kernel_rfl
theorem y26_fl116_1 : FldIs Try.prog 116 1 4 false 1 := by unfold FldIs; kernel_rfl
theorem y26_fl52_0 : FldIs Try.prog 52 0 0 false 1 := by unfold FldIs; kernel_rfl
theorem y26_hcf115 : ∀ args w, (callFunc 115 args).run Try.prog w = .ok (.enter 115 args) w := fun _ _ => by kernel_rfl
theorem y26_hcf78 : ∀ args w, (callFunc 78 args).run Try.prog w = .ok (.enter 78 args) w := fun _ _ => by kernel_rfl
theorem y26_hcf79 : ∀ args w, (callFunc 79 args).run Try.prog w = .ok (.enter 79 args) w := fun _ _ => by kernel_rfl
theorem y26_hcf80 : ∀ args w, (callFunc 80 args).run Try.prog w = .ok (.enter 80 args) w := fun _ _ => by kernel_rfl
theorem y26_sl60 : SlIs Try.prog 60 3 1 8 (.int .i64 0) := ⟨by kernel_rfl, by kernel_rfl, by kernel_rfl⟩
theorem y26_sz111 : (Try.prog.info? 111).map (·.size) = some 1 := by kernel_rfl
theorem y26_sz30 : (Try.prog.info? 30).map (·.size) = some 1 := by kernel_rfl
theorem y26_sz40 : (Try.prog.info? 40).map (·.size) = some 2 := by kernel_rfl
theorem y26_ty111 : TyIs Try.prog 111 false 1 := ⟨by kernel_rfl, by kernel_rfl⟩
theorem y26_ty26 : TyIs Try.prog 26 true 4 := ⟨by kernel_rfl, by kernel_rfl⟩
theorem y26_ty3 : TyIs Try.prog 3 false 1 := ⟨by kernel_rfl, by kernel_rfl⟩
theorem y26_ty30 : TyIs Try.prog 30 false 1 := ⟨by kernel_rfl, by kernel_rfl⟩
theorem y26_ty40 : TyIs Try.prog 40 true 2 := ⟨by kernel_rfl, by kernel_rfl⟩
theorem y26_ty52 : TyIs Try.prog 52 true 3 := ⟨by kernel_rfl, by kernel_rfl⟩
theorem y26_ty60 : TyIs Try.prog 60 false 1 := ⟨by kernel_rfl, by kernel_rfl⟩

theorem filt_at {p : Nat → Bool} {i : Nat} (hp : p i = true) : ∀ {n : Nat}, i < n → ((List.range n).filter p)[((List.range i).filter p).length]? = some i
  | n + 1, hi => by
    rw [List.range_succ, List.filter_append]
    by_cases h : i = n
    · subst h
      rw [List.getElem?_append_right (Nat.le_refl _)]
      simp [hp]
    · have ih := filt_at hp (n := n) (by omega)
      rw [List.getElem?_append_left (List.getElem?_eq_some_iff.1 ih).1]; exact ih
theorem filt_succ {p : Nat → Bool} {i : Nat} : ((List.range (i + 1)).filter p).length = ((List.range i).filter p).length + if p i then 1 else 0 := by
  rw [List.range_succ, List.filter_append, List.length_append]
  cases h : p i <;> simp [h]
/-- A joint beneath a pose. -/
def benB (l : Lin) (L p : Int) (i : Nat) : Bool := decide (p < plaP l.bs i) && decide (plaP l.bs i < p + L)
def benL (l : Lin) (L p : Int) : List Nat := (List.range l.js.length).filter (benB l L p)
def benY (l : Lin) (L p : Int) : List (List AV) := (benL l L p).map fun (i : Nat) => [mA (i : Int)]
theorem benY_len (l : Lin) (L p : Int) : (benY l L p).length = (benL l L p).length := by simp [benY]
theorem benY_one {l : Lin} {L p : Int} : ∀ y ∈ benY l L p, y.length = 1 := by
  intro y hy
  obtain ⟨_, _, rfl⟩ := List.mem_map.1 hy; rfl
theorem benY_at {l : Lin} {L p j : Int} {i : Nat} (h0 : 0 ≤ j) (hj : j < l.js.length) (h1 : p < plaP l.bs j.toNat) (h2 : plaP l.bs j.toNat < p + L) (hi : i = ((List.range j.toNat).filter (benB l L p)).length) : (benY l L p)[i]? = some [.v (.int .i64 j)] := by
  subst hi
  unfold benY benL
  rw [List.getElem?_map, filt_at (by unfold benB; simp [h1, h2]) (by omega)]
  simp; omega
theorem benY_yes {l : Lin} {L p j : Int} (h0 : 0 ≤ j) (h1 : p < plaP l.bs j.toNat) (h2 : plaP l.bs j.toNat < p + L) : ((List.range (j + 1).toNat).filter (benB l L p)).length = ((List.range j.toNat).filter (benB l L p)).length + 1 := by
  rw [show (j + 1).toNat = j.toNat + 1 by omega, filt_succ, if_pos]
  unfold benB; simp [h1, h2]
theorem benY_no {l : Lin} {L p j : Int} (h0 : 0 ≤ j) (h : ¬ (p < plaP l.bs j.toNat ∧ plaP l.bs j.toNat < p + L)) : ((List.range (j + 1).toNat).filter (benB l L p)).length = ((List.range j.toNat).filter (benB l L p)).length := by
  rw [show (j + 1).toNat = j.toNat + 1 by omega, filt_succ, if_neg]; rfl
  unfold benB; simp; omega
theorem benY_of {l : Lin} {L p : Int} {i : Nat} {y : AV} (h : (benY l L p)[i]? = some [y]) : ∃ s : Nat, (benL l L p)[i]? = some s ∧ y = mA (s : Int) ∧ s < l.js.length ∧ p < plaP l.bs s ∧ plaP l.bs s < p + L := by
  unfold benY at h
  rw [List.getElem?_map] at h
  cases hs : (benL l L p)[i]? with
  | none => rw [hs] at h; cases h
  | some s =>
    rw [hs] at h
    simp only [Option.map_some, Option.some.injEq, List.cons.injEq, and_true] at h
    have hm := List.mem_of_getElem? hs
    unfold benL at hm
    rw [List.mem_filter] at hm
    obtain ⟨h1, h2⟩ := hm
    unfold benB at h2
    simp at h1 h2
    exact ⟨s, rfl, h.symm, h1, h2.1, h2.2⟩
set_option maxRecDepth 100000 in
set_option maxHeartbeats 4000000 in
theorem beneath1_gen (l : Lin) (h : Rgt l) (L c s p : Int) (hL : 1000 ≤ L ∧ L ≤ 30000) (hp : 0 ≤ p ∧ p ≤ 1200000) : GenOk Try.prog 115 [] [.ref [tkA l], .ref [mA p], .ref [mA L, mA c, mA s]] (benY l L p) := by
  refine gen_of (fn := Try.f115) 35 (by kernel_rfl) rfl (by kernel_rfl) (Nat.le_of_ble_eq_true rfl) (fun _ _ => ⟨.tuple #[], by kernel_rfl⟩) ?_
  intro lb_ e_0 hA
  have s0_0 : evA e_0 (.tmp 0) = _ := hA 0 _ rfl
  have s1_0 : evA e_0 (.tmp 1) = _ := hA 1 _ rfl
  have s2_0 : evA e_0 (.tmp 2) = _ := hA 2 _ rfl
  have s3_0 : evA e_0 (.tmp 3) = _ := hA 3 _ rfl
  clear hA
  have hn1 := h.n1; have hn0 := h.n0; have hjs := h.js; have hpl := plaL_len (bs := l.bs) (n := l.bs.length)
  refine iw_seq ?_
  refine iw_text ?_
  refine il_ro (fun _ => (ro_eq (ro_ld_ref y26_ty111 rfl s1_0 (by exact Nat.le_of_ble_eq_true rfl)) (by simp only [packA_t, packA_f, iE, bE, setAt, cellsA, Value.cells, map_vc, map_vn, Nat.reduceAdd, qS] <;> rfl))) trivial rfl ?_
  refine il_ro (fun _ => (ro_nilR up_h)) trivial rfl ?_
  refine il_ro (fun _ => (ro_eq (ro_fld_ref y26_fl116_1 rfl up_h) (by simp only [packA_t, packA_f, iE, bE, setAt, cellsA, Value.cells, map_vc, map_vn, Nat.reduceAdd, qS] <;> rfl))) trivial rfl ?_
  refine il_ro (fun _ => (ro_eq (ro_ld_ref y26_ty60 rfl up_h (by exact Nat.le_of_ble_eq_true rfl)) (by simp only [packA_t, packA_f, iE, bE, setAt, cellsA, Value.cells, map_vc, map_vn, Nat.reduceAdd, qS] <;> rfl))) trivial rfl ?_
  refine il_ro (fun _ => (ro_eq (ro_len_row up_h rfl y26_sl60.1) (by simp only [lnS] <;> rfl))) trivial rfl ?_
  refine il_ro (fun _ => (ro_move ev_c)) trivial rfl ?_
  refine il_end (fun e_1 he_1 => ?_)
  have s0_1 := ef 0 he_1 (u2 rfl (u4 rfl s0_0))
  have s2_1 := ef 2 he_1 (u2 rfl (u4 rfl s2_0))
  have s3_1 := ef 3 he_1 (u2 rfl (u4 rfl s3_0))
  have s10_1 := ef 10 he_1 (u2 rfl up_h)
  have s11_1 := ef 11 he_1 (up_m rfl up_h)
  have s12_1 := ef 12 he_1 up_h
  clear he_1 s0_0 s1_0 s2_0 s3_0
  refine theni_n ?_
  refine iw_block ?_
  refine iw_loop (S := Int) (fun j e b i => (evA e (.tmp 12) = .v (.int .i64 j)) ∧ (evA e (.tmp 0) = evA e_1 (.tmp 0)) ∧ (evA e (.tmp 2) = evA e_1 (.tmp 2)) ∧ (evA e (.tmp 3) = evA e_1 (.tmp 3)) ∧ (evA e (.tmp 10) = evA e_1 (.tmp 10)) ∧ (evA e (.tmp 11) = evA e_1 (.tmp 11)) ∧ (b = true) ∧ (i = ((List.range j.toNat).filter (benB l L p)).length) ∧ ((0 ≤ j ∧ j ≤ l.js.length))) (fun j => (l.js.length - j).toNat) _ ⟨s12_1, rfl, rfl, rfl, rfl, rfl, rfl, (by rfl), ?_⟩ ?_
  · (exact ⟨by omega, by omega⟩)
  · rintro j e_2 _ i_2 ⟨s12_2, k0_2, k2_2, k3_2, k10_2, k11_2, rfl, hix, hinv⟩
    have s0_2 := k0_2.trans s0_1
    have s2_2 := k2_2.trans s2_1
    have s3_2 := k3_2.trans s3_1
    have s10_2 := k10_2.trans s10_1
    have s11_2 := k11_2.trans s11_1
    (have p1 := hinv.1; have p2 := hinv.2)
    refine iw_seq ?_
    refine iw_text ?_
    refine il_ro (fun _ => (ro_lss s12_2 s11_2)) trivial rfl ?_
    refine il_end (fun e_3 he_3 => ?_)
    have s0_3 := ef 0 he_3 (up_m rfl s0_2)
    have s2_3 := ef 2 he_3 (up_m rfl s2_2)
    have s3_3 := ef 3 he_3 (up_m rfl s3_2)
    have s10_3 := ef 10 he_3 (up_m rfl s10_2)
    have s11_3 := ef 11 he_3 (up_m rfl s11_2)
    have s12_3 := ef 12 he_3 (up_m rfl s12_2)
    have s13_3 := ef 13 he_3 up_h
    clear he_3 s0_2 s10_2 s11_2 s12_2 s2_2 s3_2
    refine theni_n ?_
    refine iw_seq ?_
    refine iw_case s13_3 (fun hq_4 => ?_) (fun hq_4 => ?_)
    ·replace hq_4 := bt hq_4
     (have hgj := plaL_get (bs := l.bs) (n := l.bs.length) (j := j.toNat) (by omega))
     refine iw_skip ?_
     refine theni_n ?_
     refine iw_seq ?_
     refine iw_block ?_
     refine iw_seq ?_
     refine iw_text ?_
     refine il_ro (fun _ => (ro_move s12_3)) trivial rfl ?_
     refine il_ro (fun _ => (ro_eq (ro_ix y26_sl60 (up_m rfl s10_3) (up_m rfl s12_3) (by omega) (by first | (refine idx_map ?_; first | omega | (simp only [lnS]; omega)) | (refine idx_mapI ?_; first | omega | (simp only [lnS]; omega)) | (refine idx_mapN ?_; first | omega | (simp only [lnS]; omega)) | rfl)) (by simp only [packA_t, packA_f, iE, bE, setAt, cellsA, Value.cells, map_vc, map_vn, Nat.reduceAdd, qS] <;> rfl))) trivial rfl ?_
     refine il_ro (fun _ => (ro_eq (ro_ld_ref y26_ty3 rfl up_h (by exact Nat.le_of_ble_eq_true rfl)) (by simp only [packA_t, packA_f, iE, bE, setAt, cellsA, Value.cells, map_vc, map_vn, Nat.reduceAdd, qS] <;> rfl))) trivial rfl ?_
     refine il_ro (fun _ => (ro_assign (u2 rfl up_h))) trivial rfl ?_
     refine il_ro (fun _ => (ro_assign (up_m rfl up_h))) trivial rfl ?_
     refine il_end (fun e_5 he_5 => ?_)
     have s0_5 := ef 0 he_5 (up_m rfl (u4 rfl s0_3))
     have s2_5 := ef 2 he_5 (up_m rfl (u4 rfl s2_3))
     have s3_5 := ef 3 he_5 (up_m rfl (u4 rfl s3_3))
     have s5_5 := ef 5 he_5 (up_m rfl up_h)
     have s6_5 := ef 6 he_5 up_h
     have s10_5 := ef 10 he_5 (up_m rfl (u4 rfl s10_3))
     have s11_5 := ef 11 he_5 (up_m rfl (u4 rfl s11_3))
     have s12_5 := ef 12 he_5 (up_m rfl (u4 rfl s12_3))
     clear he_5 s0_3 s10_3 s11_3 s12_3 s13_3 s2_3 s3_3
     refine theni_n ?_
     refine iw_seq ?_
     refine iw_text ?_
     refine il_ro (fun _ => (ro_move s6_5)) trivial rfl ?_
     refine il_ro (fun _ => (ro_eq (ro_ld_ref y26_ty3 rfl (up_m rfl s2_5) (by exact Nat.le_of_ble_eq_true rfl)) (by simp only [packA_t, packA_f, iE, bE, setAt, cellsA, Value.cells, map_vc, map_vn, Nat.reduceAdd, qS] <;> rfl))) trivial rfl ?_
     refine il_ro (fun _ => (ro_gtr (up_m rfl up_h) up_h)) trivial rfl ?_
     refine il_ro (fun _ => (ro_move up_h)) trivial rfl ?_
     refine il_case up_h (fun hb_6 hq_6 => ?_) (fun hb_6 hq_6 => ?_)
     ·replace hq_6 := bt hq_6
      refine il_ro (fun _ => (ro_move (u4 rfl s6_5))) ⟨_, rfl, hb_6⟩ rfl ?_
      refine il_ro (fun _ => (ro_eq (ro_ld_ref y26_ty3 rfl (up_m rfl (u4 rfl s2_5)) (by exact Nat.le_of_ble_eq_true rfl)) (by simp only [packA_t, packA_f, iE, bE, setAt, cellsA, Value.cells, map_vc, map_vn, Nat.reduceAdd, qS] <;> rfl))) ⟨_, rfl, (up_m rfl hb_6)⟩ rfl ?_
      refine il_ro (fun _ => (ro_eq (ro_fld_ref y26_fl52_0 rfl (u2 rfl (u4 rfl s3_5))) (by simp only [packA_t, packA_f, iE, bE, setAt, cellsA, Value.cells, map_vc, map_vn, Nat.reduceAdd, qS] <;> rfl))) ⟨_, rfl, (u2 rfl hb_6)⟩ rfl ?_
      refine il_ro (fun _ => (ro_eq (ro_ld_ref y26_ty3 rfl up_h (by exact Nat.le_of_ble_eq_true rfl)) (by simp only [packA_t, packA_f, iE, bE, setAt, cellsA, Value.cells, map_vc, map_vn, Nat.reduceAdd, qS] <;> rfl))) ⟨_, rfl, (up_m rfl (u2 rfl hb_6))⟩ rfl ?_
      (refine il_ro (fun _ => (ro_add' (u2 rfl up_h) up_h ?_)) ⟨_, rfl, (u4 rfl hb_6)⟩ rfl ?_; · (unfold In64; omega))
      refine il_ro (fun _ => (ro_lss (u4 rfl up_h) up_h)) ⟨_, rfl, (up_m rfl (u4 rfl hb_6))⟩ rfl ?_
      refine il_ro (fun _ => (ro_pickT (u2 rfl (u4 rfl hb_6)) up_h)) trivial rfl ?_
      refine il_ro (fun _ => (ro_move up_h)) trivial rfl ?_
      refine il_case up_h (fun hb_7 hq_7 => ?_) (fun hb_7 hq_7 => ?_)
      ·replace hq_7 := bt hq_7
       refine il_ro (fun _ => (ro_move (u4 rfl (u8 rfl s0_5)))) ⟨_, rfl, hb_7⟩ rfl ?_
       refine il_ro (fun _ => (ro_move (up_m rfl (u4 rfl (u8 rfl s5_5))))) ⟨_, rfl, (up_m rfl hb_7)⟩ rfl ?_
       refine il_yield2 (up_m rfl up_h) (evL_cons up_h evL_nil) rfl ⟨_, rfl, (u2 rfl hb_7)⟩ rfl (by exact benY_at p1 (by omega) (by omega) (by omega) hix) ?_ ?_
       ·
         refine il_ro (fun _ => (ro_not up_h)) ⟨_, rfl, (up_m rfl (u2 rfl hb_7))⟩ rfl ?_
         refine il_ro (fun _ => (ro_pickT (u4 rfl hb_7) up_h)) trivial rfl ?_
         refine il_end (fun e_8 he_8 => ?_)
         have s0_8 := ef 0 he_8 (up_m rfl (u16 rfl s0_5))
         have s2_8 := ef 2 he_8 (up_m rfl (u16 rfl s2_5))
         have s3_8 := ef 3 he_8 (up_m rfl (u16 rfl s3_5))
         have s10_8 := ef 10 he_8 (up_m rfl (u16 rfl s10_5))
         have s11_8 := ef 11 he_8 (up_m rfl (u16 rfl s11_5))
         have s12_8 := ef 12 he_8 (up_m rfl (u16 rfl s12_5))
         have s33_8 := ef 33 he_8 up_h
         clear he_8 hb_6 hb_7 s0_5 s10_5 s11_5 s12_5 s2_5 s3_5 s5_5 s6_5
         refine theni_n ?_
         refine iw_false s33_8 ?_
         refine iw_skip ?_
         refine blocki_n ?_
         refine theni_n ?_
         refine iw_text ?_
         (refine il_ro (fun _ => (ro_add' s12_8 ev_c ?_)) trivial rfl ?_; · (unfold In64; omega))
         refine il_ro (fun _ => (ro_move up_h)) trivial rfl ?_
         refine il_end (fun e_10 he_10 => ?_)
         have s0_10 := ef 0 he_10 (u2 rfl s0_8)
         have s2_10 := ef 2 he_10 (u2 rfl s2_8)
         have s3_10 := ef 3 he_10 (u2 rfl s3_8)
         have s10_10 := ef 10 he_10 (u2 rfl s10_8)
         have s11_10 := ef 11 he_10 (u2 rfl s11_8)
         have s12_10 := ef 12 he_10 up_h
         clear he_10 s0_8 s10_8 s11_8 s12_8 s2_8 s33_8 s3_8
         refine theni_n ?_
         refine ⟨_, ⟨s12_10, (s0_10.trans s0_1.symm), (s2_10.trans s2_1.symm), (s3_10.trans s3_1.symm), (s10_10.trans s10_1.symm), (s11_10.trans s11_1.symm), rfl, (by first | (rw [hix, benY_yes hinv.1 (by omega) (by omega)]; done) | (rw [hix, benY_no hinv.1 (by omega)]; done)), ?_⟩, ?_⟩
         · (exact ⟨by omega, by omega⟩)
         · ((try dsimp only); omega)
       ·
         refine il_ro (fun _ => (ro_not up_h)) ⟨_, rfl, (up_m rfl (u2 rfl hb_7))⟩ rfl ?_
         refine il_ro (fun _ => (ro_pickT (u4 rfl hb_7) up_h)) trivial rfl ?_
         refine il_end (fun e_11 he_11 => ?_)
         have s0_11 := ef 0 he_11 (up_m rfl (u16 rfl s0_5))
         have s2_11 := ef 2 he_11 (up_m rfl (u16 rfl s2_5))
         have s3_11 := ef 3 he_11 (up_m rfl (u16 rfl s3_5))
         have s10_11 := ef 10 he_11 (up_m rfl (u16 rfl s10_5))
         have s11_11 := ef 11 he_11 (up_m rfl (u16 rfl s11_5))
         have s12_11 := ef 12 he_11 (up_m rfl (u16 rfl s12_5))
         have s33_11 := ef 33 he_11 up_h
         clear he_11 hb_6 hb_7 s0_5 s10_5 s11_5 s12_5 s2_5 s3_5 s5_5 s6_5
         refine theni_n ?_
         refine iw_true s33_11 ?_
         refine iw_ret ?_
         refine blocki_r ?_
         refine theni_r ?_
         refine theni_r ?_
         refine blocki_r ?_
         refine gen_r (fun hb_ => (by cases hb_))
      replace hq_7 := bf hq_7
      refine il_skip ⟨_, rfl, .inl hb_7⟩ rfl ?_
      refine il_skip ⟨_, rfl, .inl (up_m rfl hb_7)⟩ rfl ?_
      refine il_skip ⟨_, rfl, .inl (u2 rfl hb_7)⟩ rfl ?_
      refine il_skip ⟨_, rfl, .inl (up_m rfl (u2 rfl hb_7))⟩ rfl ?_
      refine il_ro (fun _ => (ro_pickF (u4 rfl hb_7) ev_c)) trivial rfl ?_
      refine il_end (fun e_13 he_13 => ?_)
      have s0_13 := ef 0 he_13 (up_m rfl (u16 rfl s0_5))
      have s2_13 := ef 2 he_13 (up_m rfl (u16 rfl s2_5))
      have s3_13 := ef 3 he_13 (up_m rfl (u16 rfl s3_5))
      have s10_13 := ef 10 he_13 (up_m rfl (u16 rfl s10_5))
      have s11_13 := ef 11 he_13 (up_m rfl (u16 rfl s11_5))
      have s12_13 := ef 12 he_13 (up_m rfl (u16 rfl s12_5))
      have s33_13 := ef 33 he_13 up_h
      clear he_13 hb_6 hb_7 s0_5 s10_5 s11_5 s12_5 s2_5 s3_5 s5_5 s6_5
      refine theni_n ?_
      refine iw_false s33_13 ?_
      refine iw_skip ?_
      refine blocki_n ?_
      refine theni_n ?_
      refine iw_text ?_
      (refine il_ro (fun _ => (ro_add' s12_13 ev_c ?_)) trivial rfl ?_; · (unfold In64; omega))
      refine il_ro (fun _ => (ro_move up_h)) trivial rfl ?_
      refine il_end (fun e_15 he_15 => ?_)
      have s0_15 := ef 0 he_15 (u2 rfl s0_13)
      have s2_15 := ef 2 he_15 (u2 rfl s2_13)
      have s3_15 := ef 3 he_15 (u2 rfl s3_13)
      have s10_15 := ef 10 he_15 (u2 rfl s10_13)
      have s11_15 := ef 11 he_15 (u2 rfl s11_13)
      have s12_15 := ef 12 he_15 up_h
      clear he_15 s0_13 s10_13 s11_13 s12_13 s2_13 s33_13 s3_13
      refine theni_n ?_
      refine ⟨_, ⟨s12_15, (s0_15.trans s0_1.symm), (s2_15.trans s2_1.symm), (s3_15.trans s3_1.symm), (s10_15.trans s10_1.symm), (s11_15.trans s11_1.symm), rfl, (by first | (rw [hix, benY_yes hinv.1 (by omega) (by omega)]; done) | (rw [hix, benY_no hinv.1 (by omega)]; done)), ?_⟩, ?_⟩
      · (exact ⟨by omega, by omega⟩)
      · ((try dsimp only); omega)
     replace hq_6 := bf hq_6
     refine il_skip ⟨_, rfl, .inl hb_6⟩ rfl ?_
     refine il_skip ⟨_, rfl, .inl (up_m rfl hb_6)⟩ rfl ?_
     refine il_skip ⟨_, rfl, .inl (u2 rfl hb_6)⟩ rfl ?_
     refine il_skip ⟨_, rfl, .inl (up_m rfl (u2 rfl hb_6))⟩ rfl ?_
     refine il_skip ⟨_, rfl, .inl (u4 rfl hb_6)⟩ rfl ?_
     refine il_skip ⟨_, rfl, .inl (up_m rfl (u4 rfl hb_6))⟩ rfl ?_
     refine il_ro (fun _ => (ro_pickF (u2 rfl (u4 rfl hb_6)) ev_c)) trivial rfl ?_
     refine il_ro (fun _ => (ro_move up_h)) trivial rfl ?_
     refine il_skip ⟨_, rfl, .inl up_h⟩ rfl ?_
     refine il_skip ⟨_, rfl, .inl (up_m rfl up_h)⟩ rfl ?_
     refine il_skip ⟨_, rfl, .inl (u2 rfl up_h)⟩ rfl ?_
     refine il_skip ⟨_, rfl, .inl (up_m rfl (u2 rfl up_h))⟩ rfl ?_
     refine il_ro (fun _ => (ro_pickF (u4 rfl up_h) ev_c)) trivial rfl ?_
     refine il_end (fun e_16 he_16 => ?_)
     have s0_16 := ef 0 he_16 (up_m rfl (u16 rfl s0_5))
     have s2_16 := ef 2 he_16 (up_m rfl (u16 rfl s2_5))
     have s3_16 := ef 3 he_16 (up_m rfl (u16 rfl s3_5))
     have s10_16 := ef 10 he_16 (up_m rfl (u16 rfl s10_5))
     have s11_16 := ef 11 he_16 (up_m rfl (u16 rfl s11_5))
     have s12_16 := ef 12 he_16 (up_m rfl (u16 rfl s12_5))
     have s33_16 := ef 33 he_16 up_h
     clear he_16 hb_6 s0_5 s10_5 s11_5 s12_5 s2_5 s3_5 s5_5 s6_5
     refine theni_n ?_
     refine iw_false s33_16 ?_
     refine iw_skip ?_
     refine blocki_n ?_
     refine theni_n ?_
     refine iw_text ?_
     (refine il_ro (fun _ => (ro_add' s12_16 ev_c ?_)) trivial rfl ?_; · (unfold In64; omega))
     refine il_ro (fun _ => (ro_move up_h)) trivial rfl ?_
     refine il_end (fun e_18 he_18 => ?_)
     have s0_18 := ef 0 he_18 (u2 rfl s0_16)
     have s2_18 := ef 2 he_18 (u2 rfl s2_16)
     have s3_18 := ef 3 he_18 (u2 rfl s3_16)
     have s10_18 := ef 10 he_18 (u2 rfl s10_16)
     have s11_18 := ef 11 he_18 (u2 rfl s11_16)
     have s12_18 := ef 12 he_18 up_h
     clear he_18 s0_16 s10_16 s11_16 s12_16 s2_16 s33_16 s3_16
     refine theni_n ?_
     refine ⟨_, ⟨s12_18, (s0_18.trans s0_1.symm), (s2_18.trans s2_1.symm), (s3_18.trans s3_1.symm), (s10_18.trans s10_1.symm), (s11_18.trans s11_1.symm), rfl, (by first | (rw [hix, benY_yes hinv.1 (by omega) (by omega)]; done) | (rw [hix, benY_no hinv.1 (by omega)]; done)), ?_⟩, ?_⟩
     · (exact ⟨by omega, by omega⟩)
     · ((try dsimp only); omega)
    replace hq_4 := bf hq_4
    refine iw_exit ?_
    refine theni_x ?_
    refine theni_x ?_
    refine blocki_hit ?_
    refine gen_n (fun hb_ => ?_)
    (first | (rw [hix, benY_len]; unfold benL; rw [show j.toNat = l.js.length by omega]; done))
set_option maxRecDepth 100000 in
set_option maxHeartbeats 4000000 in
theorem beneath_ok (l : Lin) (L c s p : Int) : FnOk Try.prog 79 [tkA l, vehA L c s, mA p] (fun q => q = .clo (.func 115) [] [.ref [tkA l], .ref [mA p], .ref [mA L, mA c, mA s]]) := by
  refine fnOk_of (fn := Try.f79) 8 (by kernel_rfl) rfl (by kernel_rfl) (Nat.le_of_ble_eq_true rfl) ?_
  intro e_0 m_0 hA hm_0
  have s0_0 : evA e_0 (.tmp 0) = _ := hA 0 _ rfl
  have s1_0 : evA e_0 (.tmp 1) = _ := hA 1 _ rfl
  have s2_0 : evA e_0 (.tmp 2) = _ := hA 2 _ rfl
  have ml_0 : m_0.length = 0 := by rw [hm_0]; rfl
  clear hA hm_0
  refine aw_seq ?_
  refine aw_text (by kernel_rfl) ?_
  refine al_stm (st_box s0_0 rfl ml_0) trivial rfl (fun m_1 hm_1 => ?_)
  have mo0_1 := m_push hm_1 ml_0
  (first | (simp only [packA_t, packA_f, iE, bE, setAt, cellsA, Value.cells, map_vc, map_vn, Nat.reduceAdd, qS] at mo0_1; trace "W2.N.1.1") | skip)
  have ml_1 := m_push_l hm_1 ml_0
  have ml_1 : _ = 1 := ml_1
  clear hm_1
  refine al_stm (st_box (up_m rfl s1_0) rfl ml_1) trivial rfl (fun m_2 hm_2 => ?_)
  have mo1_2 := m_push hm_2 ml_1
  (first | (simp only [packA_t, packA_f, iE, bE, setAt, cellsA, Value.cells, map_vc, map_vn, Nat.reduceAdd, qS] at mo1_2; trace "W2.N.2.1") | skip)
  have mo0_2 := m_push_o hm_2 mo0_1
  have ml_2 := m_push_l hm_2 ml_1
  have ml_2 : _ = 2 := ml_2
  clear hm_2 mo0_1
  refine al_stm (st_box (u2 rfl s2_0) rfl ml_2) trivial rfl (fun m_3 hm_3 => ?_)
  have mo2_3 := m_push hm_3 ml_2
  (first | (simp only [packA_t, packA_f, iE, bE, setAt, cellsA, Value.cells, map_vc, map_vn, Nat.reduceAdd, qS] at mo2_3; trace "W2.N.3.1") | skip)
  have mo1_3 := m_push_o hm_3 mo1_2
  have mo0_3 := m_push_o hm_3 mo0_2
  have ml_3 := m_push_l hm_3 ml_2
  have ml_3 : _ = 3 := ml_3
  clear hm_3 mo1_2 mo0_2
  refine al_ro' (ro_assign ev_c) trivial rfl ?_
  refine al_end (fun e_4 he_4 => ?_)
  have s3_4 := ef 3 he_4 (up_m rfl (u2 rfl up_h))
  have s4_4 := ef 4 he_4 (u2 rfl up_h)
  have s5_4 := ef 5 he_4 (up_m rfl up_h)
  clear he_4 s0_0 s1_0 s2_0
  refine then_n ?_
  refine aw_seq ?_
  refine aw_text (by kernel_rfl) ?_
  refine al_ro' (ro_makeFunc evL_nil (evL_cons s3_4 (evL_cons s5_4 (evL_cons s4_4 evL_nil)))) trivial rfl ?_
  refine al_ro' (ro_assign up_h) trivial rfl ?_
  refine al_end (fun e_5 he_5 => ?_)
  have s6_5 := ef 6 he_5 up_h
  clear he_5 s3_4 s4_4 s5_4
  refine then_n ?_
  refine aw_ret ?_
  refine ret1 (.inr rfl) (by kernel_rfl) (resV_tmp s6_5) (vw_clo vwl_nil (vwl_cons (vw_ptr mo0_3 (vwl_cons (.ro _ rfl) vwl_nil)) (vwl_cons (vw_ptr mo2_3 (vwl_cons (.ro _ rfl) vwl_nil)) (vwl_cons (vw_ptr mo1_3 (vwl_cons (.ro _ rfl) (vwl_cons (.ro _ rfl) (vwl_cons (.ro _ rfl) vwl_nil)))) vwl_nil)))) ?_
  clear s6_5 mo2_3 mo1_3 mo0_3 ml_3
  rfl
/-- Whether a joint is beneath a pose. -/
def benI (l : Lin) (L p j : Int) : Bool := decide (0 ≤ j) && decide (j < l.js.length) && benB l L p j.toNat
/-- A joint is none of the first ones beneath. -/
def Non (l : Lin) (L p j : Int) (i : Nat) : Prop := ∀ k : Nat, k < i → ∀ n : Nat, (benL l L p)[k]? = some n → (n : Int) ≠ j
theorem Non.step {l : Lin} {L p j : Int} {i n : Nat} (h : Non l L p j i) (hn : (benL l L p)[i]? = some n) (hne : ¬ (n : Int) = j) : Non l L p j (i + 1) := fun k hk m hm => by
  by_cases hki : k = i
  · subst hki; rw [hn] at hm; cases hm; exact hne
  · exact h k (by omega) m hm
theorem benI_yes {l : Lin} {L p j : Int} {n : Nat} (hj : (n : Int) = j) (n1 : n < l.js.length) (n2 : p < plaP l.bs n) (n3 : plaP l.bs n < p + L) : benI l L p j = true := by
  subst hj
  simp [benI, benB, n1, n2, n3]
theorem benI_no {l : Lin} {L p j : Int} (h : Non l L p j (benY l L p).length) : benI l L p j = false := by
  cases hb : benI l L p j with
  | false => rfl
  | true =>
    unfold benI at hb
    simp only [Bool.and_eq_true, decide_eq_true_eq] at hb
    obtain ⟨⟨h0, h1⟩, h2⟩ := hb
    have hm : j.toNat ∈ benL l L p := by
      unfold benL
      rw [List.mem_filter]
      exact ⟨List.mem_range.2 (by omega), h2⟩
    obtain ⟨k, hk⟩ := List.mem_iff_getElem?.1 hm
    have hlt := (List.getElem?_eq_some_iff.1 hk).1
    exact absurd (show ((j.toNat : Nat) : Int) = j by omega) (h k (by rw [benY_len]; exact hlt) _ hk)
set_option maxRecDepth 100000 in
set_option maxHeartbeats 4000000 in
theorem deviationAt_good (l : Lin) (hl : Sho l) (hg : (linM l).2 = 0) (L c s p j : Int) (hv : vehE L c s = 0) (hp : posE l L s p = 0) : FnOk Try.prog 27 [lnA l, vehA L c s, .agg [mA p, mA j]] (fun q => q = if benI l L p j then .tuple [.agg [mA (devLo l L p j.toNat), mA (devHi l L p j.toNat)], mA 0] else .tuple [.agg [mA 0, mA 0], mA 6]) := by
  refine fnOk_of (fn := Try.f27) 40 (by kernel_rfl) rfl (by kernel_rfl) (Nat.le_of_ble_eq_true rfl) ?_
  intro e_0 m_0 hA hm_0
  have s0_0 : evA e_0 (.tmp 0) = _ := hA 0 _ rfl
  have s1_0 : evA e_0 (.tmp 1) = _ := hA 1 _ rfl
  have s2_0 : evA e_0 (.tmp 2) = _ := hA 2 _ rfl
  have ml_0 : m_0.length = 0 := by rw [hm_0]; rfl
  clear hA hm_0
  have h := rgt_of hg; have hv2 := vehE_z.1 hv; have hp2 := posE_z.1 hp; have hpb := h.pla (n := l.bs.length) (Nat.le_refl _)
  refine aw_seq ?_
  refine aw_text (by kernel_rfl) ?_
  refine al_stm (st_box s0_0 rfl ml_0) trivial rfl (fun m_1 hm_1 => ?_)
  have mo0_1 := m_push hm_1 ml_0
  have ml_1 := m_push_l hm_1 ml_0
  have ml_1 : _ = 1 := ml_1
  clear hm_1
  refine al_stm (st_box (up_m rfl s1_0) rfl ml_1) trivial rfl (fun m_2 hm_2 => ?_)
  have mo1_2 := m_push hm_2 ml_1
  have mo0_2 := m_push_o hm_2 mo0_1
  have ml_2 := m_push_l hm_2 ml_1
  have ml_2 : _ = 2 := ml_2
  clear hm_2 mo0_1
  refine al_stm (st_box (u2 rfl s2_0) rfl ml_2) trivial rfl (fun m_3 hm_3 => ?_)
  have mo2_3 := m_push hm_3 ml_2
  have mo1_3 := m_push_o hm_3 mo1_2
  have mo0_3 := m_push_o hm_3 mo0_2
  have ml_3 := m_push_l hm_3 ml_2
  have ml_3 : _ = 3 := ml_3
  clear hm_3 mo1_2 mo0_2
  refine al_stm (st_alloc y26_az40 rfl ml_3) trivial rfl (fun m_4 hm_4 => ?_)
  have mo3_4 := m_push hm_4 ml_3
  simp only [packA_t, packA_f, iE, bE, setAt, cellsA, Value.cells, map_vc, map_vn, Nat.reduceAdd, qS] at mo3_4
  have mo2_4 := m_push_o hm_4 mo2_3
  have mo1_4 := m_push_o hm_4 mo1_3
  have mo0_4 := m_push_o hm_4 mo0_3
  have ml_4 := m_push_l hm_4 ml_3
  have ml_4 : _ = 4 := ml_4
  clear hm_4 mo2_3 mo1_3 mo0_3
  refine al_stm (st_alloc y26_az30 rfl ml_4) trivial rfl (fun m_5 hm_5 => ?_)
  have mo4_5 := m_push hm_5 ml_4
  simp only [packA_t, packA_f, iE, bE, setAt, cellsA, Value.cells, map_vc, map_vn, Nat.reduceAdd, qS] at mo4_5
  have mo3_5 := m_push_o hm_5 mo3_4
  have mo2_5 := m_push_o hm_5 mo2_4
  have mo1_5 := m_push_o hm_5 mo1_4
  have mo0_5 := m_push_o hm_5 mo0_4
  have ml_5 := m_push_l hm_5 ml_4
  have ml_5 : _ = 5 := ml_5
  clear hm_5 mo3_4 mo2_4 mo1_4 mo0_4
  refine al_end (fun e_6 he_6 => ?_)
  have s3_6 := ef 3 he_6 (u4 rfl up_h)
  have s4_6 := ef 4 he_6 (up_m rfl (u2 rfl up_h))
  have s5_6 := ef 5 he_6 (u2 rfl up_h)
  have s6_6 := ef 6 he_6 (up_m rfl up_h)
  have s7_6 := ef 7 he_6 up_h
  clear he_6 s0_0 s1_0 s2_0
  refine then_n ?_
  refine aw_seq ?_
  refine aw_text (by kernel_rfl) ?_
  refine al_ro' (ro_eq (ro_ld_ptr y26_ty26 rfl mo0_5 s3_6 (by exact Nat.le_of_ble_eq_true rfl)) (by simp only [packA_t, packA_f, iE, bE, setAt, cellsA, Value.cells, map_vc, map_vn, Nat.reduceAdd, qS] <;> rfl)) trivial rfl ?_
  refine al_ro' (ro_eq (ro_ld_ptr y26_ty52 rfl mo1_5 (up_m rfl s4_6) (by exact Nat.le_of_ble_eq_true rfl)) (by simp only [packA_t, packA_f, iE, bE, setAt, cellsA, Value.cells, map_vc, map_vn, Nat.reduceAdd, qS] <;> rfl)) trivial rfl ?_
  refine al_ro' (ro_ixa y26_ar53 (u2 rfl s5_6) ev_c rfl) trivial rfl ?_
  refine al_ro' (ro_eq (ro_ld_ptr y26_ty3 rfl mo2_5 up_h (by exact Nat.le_of_ble_eq_true rfl)) (by simp only [packA_t, packA_f, iE, bE, setAt, cellsA, Value.cells, map_vc, map_vn, Nat.reduceAdd, qS] <;> rfl)) trivial rfl ?_
  refine al_ro' (ro_call (evL_cons (up_m rfl (u2 rfl up_h)) (evL_cons (u2 rfl up_h) (evL_cons up_h evL_nil))) rfl (openPose_good l hl hg L c s p hv) y26_hcf78) trivial rfl ?_
  refine al_ro' (ro_move up_h) trivial rfl ?_
  refine al_ro' (ro_extract up_h rfl) trivial rfl ?_
  refine al_ro' (ro_extract (up_m rfl up_h) rfl) trivial rfl ?_
  refine al_stm (st_alloc y26_az111 rfl ml_5) trivial rfl (fun m_7 hm_7 => ?_)
  have mo5_7 := m_push hm_7 ml_5
  simp only [packA_t, packA_f, iE, bE, setAt, cellsA, Value.cells, map_vc, map_vn, Nat.reduceAdd, qS] at mo5_7
  have mo4_7 := m_push_o hm_7 mo4_5
  have mo3_7 := m_push_o hm_7 mo3_5
  have mo2_7 := m_push_o hm_7 mo2_5
  have mo1_7 := m_push_o hm_7 mo1_5
  have mo0_7 := m_push_o hm_7 mo0_5
  have ml_7 := m_push_l hm_7 ml_5
  have ml_7 : _ = 6 := ml_7
  clear hm_7 mo4_5 mo3_5 mo2_5 mo1_5 mo0_5
  refine al_stm (st_store up_h (u2 rfl up_h) rfl rfl mo5_7 y26_sz111 rfl (by exact Nat.le_of_ble_eq_true rfl)) trivial rfl (fun m_8 hm_8 => ?_)
  have mo5_8 := m_set hm_8 mo5_7
  simp only [packA_t, packA_f, iE, bE, setAt, cellsA, Value.cells, map_vc, map_vn, Nat.reduceAdd, qS] at mo5_8
  have mo4_8 := m_set_o hm_8 mo4_7 (by decide)
  have mo3_8 := m_set_o hm_8 mo3_7 (by decide)
  have mo2_8 := m_set_o hm_8 mo2_7 (by decide)
  have mo1_8 := m_set_o hm_8 mo1_7 (by decide)
  have mo0_8 := m_set_o hm_8 mo0_7 (by decide)
  have ml_8 := m_set_l hm_8 ml_7
  clear hm_8 mo5_7 mo4_7 mo3_7 mo2_7 mo1_7 mo0_7
  refine al_ro' (ro_assign (up_n (up_m rfl up_h))) trivial rfl ?_
  refine al_end (fun e_9 he_9 => ?_)
  have s4_9 := ef 4 he_9 (up_m rfl (up_n (up_m rfl (u8 rfl s4_6))))
  have s5_9 := ef 5 he_9 (up_m rfl (up_n (up_m rfl (u8 rfl s5_6))))
  have s6_9 := ef 6 he_9 (up_m rfl (up_n (up_m rfl (u8 rfl s6_6))))
  have s7_9 := ef 7 he_9 (up_m rfl (up_n (up_m rfl (u8 rfl s7_6))))
  have s8_9 := ef 8 he_9 (up_m rfl (up_n up_h))
  have s9_9 := ef 9 he_9 up_h
  clear he_9 s3_6 s4_6 s5_6 s6_6 s7_6
  refine then_n ?_
  refine aw_seq ?_
  refine aw_seq ?_
  refine aw_text (by kernel_rfl) ?_
  refine al_ro' (ro_move s9_9) trivial rfl ?_
  refine al_ro' (ro_neq up_h ev_c) trivial rfl ?_
  refine al_end (fun e_10 he_10 => ?_)
  have s4_10 := ef 4 he_10 (u2 rfl s4_9)
  have s5_10 := ef 5 he_10 (u2 rfl s5_9)
  have s6_10 := ef 6 he_10 (u2 rfl s6_9)
  have s7_10 := ef 7 he_10 (u2 rfl s7_9)
  have s8_10 := ef 8 he_10 (u2 rfl s8_9)
  have s9_10 := ef 9 he_10 (u2 rfl s9_9)
  have s20_10 := ef 20 he_10 up_h
  clear he_10 s4_9 s5_9 s6_9 s7_9 s8_9 s9_9
  refine then_n ?_
  refine aw_case s20_10 (fun hq_11 => ?_) (fun hq_11 => ?_)
  · replace hq_11 := bnt hq_11; exfalso; omega
  replace hq_11 := bnf hq_11
  refine aw_skip ?_
  refine then_n ?_
  refine aw_seq ?_
  refine aw_seq ?_
  refine aw_text (by kernel_rfl) ?_
  refine al_ro' (ro_eq (ro_ld_ptr y26_ty111 rfl mo5_8 s8_10 (by exact Nat.le_of_ble_eq_true rfl)) (by simp only [packA_t, packA_f, iE, bE, setAt, cellsA, Value.cells, map_vc, map_vn, Nat.reduceAdd, qS] <;> rfl)) trivial rfl ?_
  refine al_ro' (ro_eq (ro_ld_ptr y26_ty52 rfl mo1_8 (up_m rfl s4_10) (by exact Nat.le_of_ble_eq_true rfl)) (by simp only [packA_t, packA_f, iE, bE, setAt, cellsA, Value.cells, map_vc, map_vn, Nat.reduceAdd, qS] <;> rfl)) trivial rfl ?_
  refine al_ro' (ro_ixa y26_ar53 (u2 rfl s5_10) ev_c rfl) trivial rfl ?_
  refine al_ro' (ro_eq (ro_ld_ptr y26_ty3 rfl mo2_8 up_h (by exact Nat.le_of_ble_eq_true rfl)) (by simp only [packA_t, packA_f, iE, bE, setAt, cellsA, Value.cells, map_vc, map_vn, Nat.reduceAdd, qS] <;> rfl)) trivial rfl ?_
  refine al_ro' (ro_call (evL_cons (up_m rfl (u2 rfl up_h)) (evL_cons (u2 rfl up_h) (evL_cons up_h evL_nil))) rfl (beneath_ok l L c s p) y26_hcf79) trivial rfl ?_
  refine al_end (fun e_15 he_15 => ?_)
  have s4_15 := ef 4 he_15 (up_m rfl (u4 rfl s4_10))
  have s5_15 := ef 5 he_15 (up_m rfl (u4 rfl s5_10))
  have s6_15 := ef 6 he_15 (up_m rfl (u4 rfl s6_10))
  have s7_15 := ef 7 he_15 (up_m rfl (u4 rfl s7_10))
  have s8_15 := ef 8 he_15 (up_m rfl (u4 rfl s8_10))
  have s27_15 := ef 27 he_15 up_h
  clear he_15 s20_10 s4_10 s5_10 s6_10 s7_10 s8_10 s9_10
  refine then_n ?_
  refine aw_block ?_
  refine aw_range1 s27_15 (beneath1_gen l h L c s p hv2.1 (by omega)) y26_hcf115 (by exact benY_one) (Nat.le_of_ble_eq_true rfl) (fun i mem => (mem[5]? = m_8[5]?) ∧ (mem[4]? = m_8[4]?) ∧ (mem[3]? = m_8[3]?) ∧ (mem[2]? = m_8[2]?) ∧ (mem[1]? = m_8[1]?) ∧ (mem[0]? = m_8[0]?) ∧ (mem.length = 6) ∧ ((Non l L p j i))) ⟨rfl, rfl, rfl, rfl, rfl, rfl, ml_8, ?_⟩ ?_ ?_
  · (intro k hk; omega)
  · rintro i_16 y0_16 m_16 hy_16 ⟨mk5_16, mk4_16, mk3_16, mk2_16, mk1_16, mk0_16, ml_16, hinv⟩
    (obtain ⟨n, hn, rfl, n1, n2, n3⟩ := benY_of hy_16; have hq : Pos l L p n := ⟨by omega, by omega, by omega, by omega, by omega, by omega, n1⟩)
    have mo5_16 := mk5_16.trans mo5_8
    have mo4_16 := mk4_16.trans mo4_8
    have mo3_16 := mk3_16.trans mo3_8
    have mo2_16 := mk2_16.trans mo2_8
    have mo1_16 := mk1_16.trans mo1_8
    have mo0_16 := mk0_16.trans mo0_8
    refine aw_env (fun e_16 he_16 => ?_)
    have s4_16 := ef 4 he_16 (up_m rfl s4_15)
    have s5_16 := ef 5 he_16 (up_m rfl s5_15)
    have s6_16 := ef 6 he_16 (up_m rfl s6_15)
    have s7_16 := ef 7 he_16 (up_m rfl s7_15)
    have s8_16 := ef 8 he_16 (up_m rfl s8_15)
    have s27_16 := ef 27 he_16 (up_m rfl s27_15)
    have s28_16 := ef 28 he_16 up_h
    clear he_16
    refine aw_text (by kernel_rfl) ?_
    refine al_ro' (ro_assign s28_16) trivial rfl ?_
    refine al_end (fun e_17 he_17 => ?_)
    have s4_17 := ef 4 he_17 (up_m rfl s4_16)
    have s5_17 := ef 5 he_17 (up_m rfl s5_16)
    have s6_17 := ef 6 he_17 (up_m rfl s6_16)
    have s7_17 := ef 7 he_17 (up_m rfl s7_16)
    have s8_17 := ef 8 he_17 (up_m rfl s8_16)
    have s10_17 := ef 10 he_17 up_h
    clear he_17 s27_16 s28_16 s4_16 s5_16 s6_16 s7_16 s8_16
    refine fallb_n ?_
    refine aw_block ?_
    refine aw_seq ?_
    refine aw_text (by kernel_rfl) ?_
    refine al_ro' (ro_move s10_17) trivial rfl ?_
    refine al_ro' (ro_ixa y26_ar53 (up_m rfl s5_17) ev_c rfl) trivial rfl ?_
    refine al_ro' (ro_eq (ro_ld_ptr y26_ty3 rfl mo2_16 up_h (by exact Nat.le_of_ble_eq_true rfl)) (by simp only [packA_t, packA_f, iE, bE, setAt, cellsA, Value.cells, map_vc, map_vn, Nat.reduceAdd, qS] <;> rfl)) trivial rfl ?_
    refine al_ro' (ro_eql (u2 rfl up_h) up_h) trivial rfl ?_
    refine al_end (fun e_18 he_18 => ?_)
    have s4_18 := ef 4 he_18 (u4 rfl s4_17)
    have s5_18 := ef 5 he_18 (u4 rfl s5_17)
    have s6_18 := ef 6 he_18 (u4 rfl s6_17)
    have s7_18 := ef 7 he_18 (u4 rfl s7_17)
    have s8_18 := ef 8 he_18 (u4 rfl s8_17)
    have s10_18 := ef 10 he_18 (u4 rfl s10_17)
    have s32_18 := ef 32 he_18 up_h
    clear he_18 s10_17 s4_17 s5_17 s6_17 s7_17 s8_17
    refine then_n ?_
    refine aw_case s32_18 (fun hq_19 => ?_) (fun hq_19 => ?_)
    ·replace hq_19 := bt hq_19
     refine aw_seq ?_
     refine aw_text (by kernel_rfl) ?_
     refine al_ro' (ro_eq (ro_ld_ptr y26_ty111 rfl mo5_16 s8_18 (by exact Nat.le_of_ble_eq_true rfl)) (by simp only [packA_t, packA_f, iE, bE, setAt, cellsA, Value.cells, map_vc, map_vn, Nat.reduceAdd, qS] <;> rfl)) trivial rfl ?_
     refine al_ro' (ro_eq (ro_ld_ptr y26_ty52 rfl mo1_16 (up_m rfl s4_18) (by exact Nat.le_of_ble_eq_true rfl)) (by simp only [packA_t, packA_f, iE, bE, setAt, cellsA, Value.cells, map_vc, map_vn, Nat.reduceAdd, qS] <;> rfl)) trivial rfl ?_
     refine al_ro' (ro_ixa y26_ar53 (u2 rfl s5_18) ev_c rfl) trivial rfl ?_
     refine al_ro' (ro_eq (ro_ld_ptr y26_ty3 rfl mo2_16 up_h (by exact Nat.le_of_ble_eq_true rfl)) (by simp only [packA_t, packA_f, iE, bE, setAt, cellsA, Value.cells, map_vc, map_vn, Nat.reduceAdd, qS] <;> rfl)) trivial rfl ?_
     refine al_ro' (ro_move (u4 rfl s10_18)) trivial rfl ?_
     refine al_ro' (ro_call (evL_cons (u4 rfl up_h) (evL_cons (up_m rfl (u2 rfl up_h)) (evL_cons (up_m rfl up_h) (evL_cons up_h evL_nil)))) rfl (deviation_ok l h L c s p n hq) y26_hcf80) trivial rfl ?_
     refine al_stm (st_store (u2 rfl (u4 rfl s6_18)) up_h rfl rfl mo3_16 y26_sz40 rfl (by exact Nat.le_of_ble_eq_true rfl)) trivial rfl (fun m_20 hm_20 => ?_)
     have mo3_20 := m_set hm_20 mo3_16
     simp only [packA_t, packA_f, iE, bE, setAt, cellsA, Value.cells, map_vc, map_vn, Nat.reduceAdd, qS] at mo3_20
     have mo5_20 := m_set_o hm_20 mo5_16 (by decide)
     have mo4_20 := m_set_o hm_20 mo4_16 (by decide)
     have mo2_20 := m_set_o hm_20 mo2_16 (by decide)
     have mo1_20 := m_set_o hm_20 mo1_16 (by decide)
     have mo0_20 := m_set_o hm_20 mo0_16 (by decide)
     have ml_20 := m_set_l hm_20 ml_16
     clear hm_20 mo5_16 mo4_16 mo3_16 mo2_16 mo1_16 mo0_16
     refine al_stm (st_store (up_n (u2 rfl (u4 rfl s7_18))) ev_c rfl rfl mo4_20 y26_sz30 rfl (by exact Nat.le_of_ble_eq_true rfl)) trivial rfl (fun m_21 hm_21 => ?_)
     have mo4_21 := m_set hm_21 mo4_20
     simp only [packA_t, packA_f, iE, bE, setAt, cellsA, Value.cells, map_vc, map_vn, Nat.reduceAdd, qS] at mo4_21
     have mo3_21 := m_set_o hm_21 mo3_20 (by decide)
     have mo5_21 := m_set_o hm_21 mo5_20 (by decide)
     have mo2_21 := m_set_o hm_21 mo2_20 (by decide)
     have mo1_21 := m_set_o hm_21 mo1_20 (by decide)
     have mo0_21 := m_set_o hm_21 mo0_20 (by decide)
     have ml_21 := m_set_l hm_21 ml_20
     clear hm_21 mo3_20 mo5_20 mo4_20 mo2_20 mo1_20 mo0_20
     refine al_end (fun e_22 he_22 => ?_)
     have s6_22 := ef 6 he_22 (up_n (up_n (u2 rfl (u4 rfl s6_18))))
     have s7_22 := ef 7 he_22 (up_n (up_n (u2 rfl (u4 rfl s7_18))))
     clear he_22 s10_18 s32_18 s4_18 s5_18 s6_18 s7_18 s8_18
     refine then_n ?_
     refine aw_ret ?_
     refine block_r ?_
     refine rnd_r ?_
     refine block_r ?_
     refine then_r ?_
     refine ret2 (.inr rfl) (by kernel_rfl) (resV_cell s6_15 mo3_21 y26_ty40 (by exact Nat.le_of_ble_eq_true rfl) (by simp)) (resV_cell s7_15 mo4_21 y26_ty30 (by exact Nat.le_of_ble_eq_true rfl) (by simp)) (vw_r (.ro _ rfl)) (vw_c (.ro _ rfl)) ?_
     clear s27_15 s4_15 s5_15 s6_15 s7_15 s8_15 mo4_21 mo3_21 mo5_21 mo2_21 mo1_21 mo0_21 ml_21
     (have hj : (n : Int) = j := (by assumption); rw [if_pos (benI_yes hj n1 n2 n3), ← hj]; rfl)
    replace hq_19 := bf hq_19
    refine aw_skip ?_
    refine block_n ?_
    refine rnd_n ⟨(mo5_16.trans mo5_8.symm), (mo4_16.trans mo4_8.symm), (mo3_16.trans mo3_8.symm), (mo2_16.trans mo2_8.symm), (mo1_16.trans mo1_8.symm), (mo0_16.trans mo0_8.symm), ml_16, ?_⟩
    (exact hinv.step hn (by assumption))
  · rintro m_16 ⟨mk5_16, mk4_16, mk3_16, mk2_16, mk1_16, mk0_16, ml_16, hinv⟩
    have mo5_16 := mk5_16.trans mo5_8
    have mo4_16 := mk4_16.trans mo4_8
    have mo3_16 := mk3_16.trans mo3_8
    have mo2_16 := mk2_16.trans mo2_8
    have mo1_16 := mk1_16.trans mo1_8
    have mo0_16 := mk0_16.trans mo0_8
    refine block_n ?_
    refine then_n ?_
    refine aw_seq ?_
    refine aw_text (by kernel_rfl) ?_
    refine al_ro' (ro_build evP_nil y26_bz40 y26_bu40 y26_bp40 rfl) trivial rfl ?_
    refine al_stm (st_store (up_m rfl s6_15) up_h rfl rfl mo3_16 y26_sz40 rfl (by exact Nat.le_of_ble_eq_true rfl)) trivial rfl (fun m_23 hm_23 => ?_)
    have mo3_23 := m_set hm_23 mo3_16
    simp only [packA_t, packA_f, iE, bE, setAt, cellsA, Value.cells, map_vc, map_vn, Nat.reduceAdd, qS] at mo3_23
    have mo5_23 := m_set_o hm_23 mo5_16 (by decide)
    have mo4_23 := m_set_o hm_23 mo4_16 (by decide)
    have mo2_23 := m_set_o hm_23 mo2_16 (by decide)
    have mo1_23 := m_set_o hm_23 mo1_16 (by decide)
    have mo0_23 := m_set_o hm_23 mo0_16 (by decide)
    have ml_23 := m_set_l hm_23 ml_16
    clear hm_23 mo5_16 mo4_16 mo3_16 mo2_16 mo1_16 mo0_16
    refine al_stm (st_store (up_n (up_m rfl s7_15)) ev_c rfl rfl mo4_23 y26_sz30 rfl (by exact Nat.le_of_ble_eq_true rfl)) trivial rfl (fun m_24 hm_24 => ?_)
    have mo4_24 := m_set hm_24 mo4_23
    simp only [packA_t, packA_f, iE, bE, setAt, cellsA, Value.cells, map_vc, map_vn, Nat.reduceAdd, qS] at mo4_24
    have mo3_24 := m_set_o hm_24 mo3_23 (by decide)
    have mo5_24 := m_set_o hm_24 mo5_23 (by decide)
    have mo2_24 := m_set_o hm_24 mo2_23 (by decide)
    have mo1_24 := m_set_o hm_24 mo1_23 (by decide)
    have mo0_24 := m_set_o hm_24 mo0_23 (by decide)
    have ml_24 := m_set_l hm_24 ml_23
    clear hm_24 mo3_23 mo5_23 mo4_23 mo2_23 mo1_23 mo0_23
    refine al_end (fun e_25 he_25 => ?_)
    have s6_25 := ef 6 he_25 (up_n (up_n (up_m rfl s6_15)))
    have s7_25 := ef 7 he_25 (up_n (up_n (up_m rfl s7_15)))
    clear he_25 s27_15 s4_15 s5_15 s6_15 s7_15 s8_15
    refine then_n ?_
    refine aw_ret ?_
    refine ret2 (.inr rfl) (by kernel_rfl) (resV_cell s6_25 mo3_24 y26_ty40 (by exact Nat.le_of_ble_eq_true rfl) (by simp)) (resV_cell s7_25 mo4_24 y26_ty30 (by exact Nat.le_of_ble_eq_true rfl) (by simp)) (vw_r (.ro _ rfl)) (vw_c (.ro _ rfl)) ?_
    clear s6_25 s7_25 mo4_24 mo3_24 mo5_24 mo2_24 mo1_24 mo0_24 ml_24
    (rw [if_neg (by rw [benI_no hinv]; decide)]; rfl)
end Go.Proofs.Ytknclifdncmgpaa

/- Contracts of chapter 1: deviations, as the document has them. No conditions on a program. -/
namespace Go.Proofs.Ytknclifdncmgpaa
open Go Go.RowKit Go.Proofs
set_option linter.unusedSimpArgs false
set_option linter.unusedVariables false
theorem y36_fl26_1 : FldIs Try.prog 26 1 1 false 1 := by unfold FldIs; kernel_rfl
theorem y36_fl52_0 : FldIs Try.prog 52 0 0 false 1 := by unfold FldIs; kernel_rfl
theorem y36_fl52_1 : FldIs Try.prog 52 1 1 false 1 := by unfold FldIs; kernel_rfl
theorem y36_fl52_2 : FldIs Try.prog 52 2 2 false 1 := by unfold FldIs; kernel_rfl
theorem y36_hcf22 : ∀ args w, (callFunc 22 args).run Try.prog w = .ok (.enter 22 args) w := fun _ _ => by kernel_rfl
theorem y36_hcf81 : ∀ args w, (callFunc 81 args).run Try.prog w = .ok (.enter 81 args) w := fun _ _ => by kernel_rfl
theorem y36_sl22 : SlIs Try.prog 22 42 4 32 (.agg #[.int .i64 0, .int .i64 0, .int .i64 0, .int .i64 0]) := ⟨by kernel_rfl, by kernel_rfl, by kernel_rfl⟩
theorem y36_sl60 : SlIs Try.prog 60 3 1 8 (.int .i64 0) := ⟨by kernel_rfl, by kernel_rfl, by kernel_rfl⟩
theorem y36_ty22 : TyIs Try.prog 22 false 1 := ⟨by kernel_rfl, by kernel_rfl⟩
theorem y36_ty26 : TyIs Try.prog 26 true 4 := ⟨by kernel_rfl, by kernel_rfl⟩
theorem y36_ty3 : TyIs Try.prog 3 false 1 := ⟨by kernel_rfl, by kernel_rfl⟩
set_option maxRecDepth 100000 in
set_option maxHeartbeats 4000000 in
theorem rVehicleErr_ok (L c s : Int) : FnOk Try.prog 28 [vehA L c s] (fun q => q = mA (vehE L c s)) := by
  refine fnOk_of (fn := Try.f28) 19 (by kernel_rfl) rfl (by kernel_rfl) (Nat.le_of_ble_eq_true rfl) ?_
  intro e_0 m_0 hA hm_0
  have s0_0 : evA e_0 (.tmp 0) = _ := hA 0 _ rfl
  have ml_0 : m_0.length = 0 := by rw [hm_0]; rfl
  clear hA hm_0
  refine aw_seq ?_
  refine aw_text (by kernel_rfl) ?_
  refine al_stm (st_box s0_0 rfl ml_0) trivial rfl (fun m_1 hm_1 => ?_)
  have mo0_1 := m_push hm_1 ml_0
  have ml_1 := m_push_l hm_1 ml_0
  have ml_1 : _ = 1 := ml_1
  clear hm_1
  refine al_ro' (ro_assign ev_c) trivial rfl ?_
  refine al_end (fun e_2 he_2 => ?_)
  have s1_2 := ef 1 he_2 (up_m rfl up_h)
  clear he_2 s0_0
  refine then_n ?_
  refine aw_seq ?_
  refine aw_seq ?_
  refine aw_text (by kernel_rfl) ?_
  refine al_ro' (ro_fld_ptr y36_fl52_0 rfl s1_2) trivial rfl ?_
  refine al_ro' (ro_eq (ro_ld_ptr y36_ty3 rfl mo0_1 up_h (by exact Nat.le_of_ble_eq_true rfl)) (by simp only [packA_t, packA_f, iE, bE, setAt, cellsA, Value.cells, map_vc, map_vn, Nat.reduceAdd, qS] <;> rfl)) trivial rfl ?_
  refine al_ro' (ro_call (evL_cons up_h (evL_cons ev_c (evL_cons ev_c evL_nil))) rfl (bWithin_ok _ _ _) y36_hcf22) trivial rfl ?_
  refine al_ro' (ro_not up_h) trivial rfl ?_
  refine al_ro' (ro_move up_h) trivial rfl ?_
  refine al_case up_h (fun hb_3 hq_3 => ?_) (fun hb_3 hq_3 => ?_)
  ·replace hq_3 := bt' hq_3
   refine al_skip' ⟨_, rfl, .inl hb_3⟩ rfl ?_
   refine al_skip' ⟨_, rfl, .inl (up_m rfl hb_3)⟩ rfl ?_
   refine al_skip' ⟨_, rfl, .inl (u2 rfl hb_3)⟩ rfl ?_
   refine al_skip' ⟨_, rfl, .inl (up_m rfl (u2 rfl hb_3))⟩ rfl ?_
   refine al_ro' (ro_pickT (u4 rfl hb_3) ev_c) trivial rfl ?_
   refine al_ro' (ro_move up_h) trivial rfl ?_
   refine al_skip' ⟨_, rfl, .inl up_h⟩ rfl ?_
   refine al_skip' ⟨_, rfl, .inl (up_m rfl up_h)⟩ rfl ?_
   refine al_skip' ⟨_, rfl, .inl (u2 rfl up_h)⟩ rfl ?_
   refine al_skip' ⟨_, rfl, .inl (up_m rfl (u2 rfl up_h))⟩ rfl ?_
   refine al_ro' (ro_pickT (u4 rfl up_h) ev_c) trivial rfl ?_
   refine al_end (fun e_4 he_4 => ?_)
   have s18_4 := ef 18 he_4 up_h
   clear he_4 hb_3 s1_2
   refine then_n ?_
   refine aw_true s18_4 ?_
   refine aw_seq ?_
   refine aw_text (by kernel_rfl) ?_
   refine al_ro' (ro_assign ev_c) trivial rfl ?_
   refine al_end (fun e_6 he_6 => ?_)
   have s2_6 := ef 2 he_6 up_h
   clear he_6 s18_4
   refine then_n ?_
   refine aw_ret ?_
   refine then_r ?_
   refine ret1 (.inr rfl) (by kernel_rfl) (resV_tmp s2_6) (.ro _ rfl) ?_
   clear s2_6 mo0_1 ml_1
   (unfold vehE unlessE; simp_all)
  replace hq_3 := bf' hq_3
  refine al_ro' (ro_fld_ptr y36_fl52_1 rfl (up_m rfl (u4 rfl s1_2))) ⟨_, rfl, hb_3⟩ rfl ?_
  refine al_ro' (ro_eq (ro_ld_ptr y36_ty3 rfl mo0_1 up_h (by exact Nat.le_of_ble_eq_true rfl)) (by simp only [packA_t, packA_f, iE, bE, setAt, cellsA, Value.cells, map_vc, map_vn, Nat.reduceAdd, qS] <;> rfl)) ⟨_, rfl, (up_m rfl hb_3)⟩ rfl ?_
  refine al_ro' (ro_call (evL_cons up_h (evL_cons ev_c (evL_cons ev_c evL_nil))) rfl (bWithin_ok _ _ _) y36_hcf22) ⟨_, rfl, (u2 rfl hb_3)⟩ rfl ?_
  refine al_ro' (ro_not up_h) ⟨_, rfl, (up_m rfl (u2 rfl hb_3))⟩ rfl ?_
  refine al_ro' (ro_pickF (u4 rfl hb_3) up_h) trivial rfl ?_
  refine al_ro' (ro_move up_h) trivial rfl ?_
  refine al_case up_h (fun hb_7 hq_7 => ?_) (fun hb_7 hq_7 => ?_)
  ·replace hq_7 := bt' hq_7
   refine al_skip' ⟨_, rfl, .inl hb_7⟩ rfl ?_
   refine al_skip' ⟨_, rfl, .inl (up_m rfl hb_7)⟩ rfl ?_
   refine al_skip' ⟨_, rfl, .inl (u2 rfl hb_7)⟩ rfl ?_
   refine al_skip' ⟨_, rfl, .inl (up_m rfl (u2 rfl hb_7))⟩ rfl ?_
   refine al_ro' (ro_pickT (u4 rfl hb_7) ev_c) trivial rfl ?_
   refine al_end (fun e_8 he_8 => ?_)
   have s18_8 := ef 18 he_8 up_h
   clear he_8 hb_3 hb_7 s1_2
   refine then_n ?_
   refine aw_true s18_8 ?_
   refine aw_seq ?_
   refine aw_text (by kernel_rfl) ?_
   refine al_ro' (ro_assign ev_c) trivial rfl ?_
   refine al_end (fun e_10 he_10 => ?_)
   have s2_10 := ef 2 he_10 up_h
   clear he_10 s18_8
   refine then_n ?_
   refine aw_ret ?_
   refine then_r ?_
   refine ret1 (.inr rfl) (by kernel_rfl) (resV_tmp s2_10) (.ro _ rfl) ?_
   clear s2_10 mo0_1 ml_1
   (unfold vehE unlessE; simp_all)
  replace hq_7 := bf' hq_7
  refine al_ro' (ro_fld_ptr y36_fl52_2 rfl (up_m rfl (u2 rfl (u8 rfl s1_2)))) ⟨_, rfl, hb_7⟩ rfl ?_
  refine al_ro' (ro_eq (ro_ld_ptr y36_ty3 rfl mo0_1 up_h (by exact Nat.le_of_ble_eq_true rfl)) (by simp only [packA_t, packA_f, iE, bE, setAt, cellsA, Value.cells, map_vc, map_vn, Nat.reduceAdd, qS] <;> rfl)) ⟨_, rfl, (up_m rfl hb_7)⟩ rfl ?_
  refine al_ro' (ro_call (evL_cons up_h (evL_cons ev_c (evL_cons ev_c evL_nil))) rfl (bWithin_ok _ _ _) y36_hcf22) ⟨_, rfl, (u2 rfl hb_7)⟩ rfl ?_
  refine al_ro' (ro_not up_h) ⟨_, rfl, (up_m rfl (u2 rfl hb_7))⟩ rfl ?_
  refine al_ro' (ro_pickF (u4 rfl hb_7) up_h) trivial rfl ?_
  refine al_end (fun e_11 he_11 => ?_)
  have s18_11 := ef 18 he_11 up_h
  clear he_11 hb_3 hb_7 s1_2
  refine then_n ?_
  refine aw_case s18_11 (fun hq_12 => ?_) (fun hq_12 => ?_)
  ·replace hq_12 := bt' hq_12
   refine aw_seq ?_
   refine aw_text (by kernel_rfl) ?_
   refine al_ro' (ro_assign ev_c) trivial rfl ?_
   refine al_end (fun e_13 he_13 => ?_)
   have s2_13 := ef 2 he_13 up_h
   clear he_13 s18_11
   refine then_n ?_
   refine aw_ret ?_
   refine then_r ?_
   refine ret1 (.inr rfl) (by kernel_rfl) (resV_tmp s2_13) (.ro _ rfl) ?_
   clear s2_13 mo0_1 ml_1
   (unfold vehE unlessE; simp_all)
  replace hq_12 := bf' hq_12
  refine aw_skip ?_
  refine then_n ?_
  refine aw_seq ?_
  refine aw_text (by kernel_rfl) ?_
  refine al_ro' (ro_assign ev_c) trivial rfl ?_
  refine al_end (fun e_14 he_14 => ?_)
  have s2_14 := ef 2 he_14 up_h
  clear he_14 s18_11
  refine then_n ?_
  refine aw_ret ?_
  refine ret1 (.inr rfl) (by kernel_rfl) (resV_tmp s2_14) (.ro _ rfl) ?_
  clear s2_14 mo0_1 ml_1
  (unfold vehE unlessE; simp_all)
/-- The joints beneath a pose, of the first n. -/
def benP (l : Lin) (L p : Int) (n : Nat) : List Int := ((List.range n).filter (benB l L p)).map fun (i : Nat) => (i : Int)
theorem benP_yes {l : Lin} {L p k : Int} (hk : 0 ≤ k) (h : benB l L p k.toNat = true) : benP l L p (k + 1).toNat = benP l L p k.toNat ++ [k] := by
  rw [show (k + 1).toNat = k.toNat + 1 by omega]
  unfold benP
  rw [List.range_succ, List.filter_append, List.map_append]
  simp [h]; omega
theorem benP_no {l : Lin} {L p k : Int} (hk : 0 ≤ k) (h : benB l L p k.toNat = false) : benP l L p (k + 1).toNat = benP l L p k.toNat := by
  rw [show (k + 1).toNat = k.toNat + 1 by omega]
  unfold benP
  rw [List.range_succ, List.filter_append, List.map_append]
  simp [h]
theorem benP_len {l : Lin} {L p : Int} {n : Nat} : (benP l L p n).length ≤ n := by
  unfold benP
  rw [List.length_map]
  have := List.length_filter_le (benB l L p) (List.range n)
  simpa using this
theorem benB_w {l : Lin} {L p : Int} {k : Nat} : withinB (plaP l.bs k) (p + 1) (p + L - 1) = benB l L p k := by
  unfold withinB benB
  congr 1 <;> (rw [decide_eq_decide]; omega)
set_option maxRecDepth 100000 in
set_option maxHeartbeats 4000000 in
theorem rBeneath_ok (l : Lin) (h : Rgt l) (L c s p : Int) (hL : 0 ≤ L ∧ L ≤ 1000000) (hp : 0 ≤ p ∧ p ≤ 10000000) : FnOk Try.prog 31 [lnA l, vehA L c s, mA p] (fun q => q = .row 1 ((benP l L p l.js.length).map iE)) := by
  refine fnOk_of (fn := Try.f31) 32 (by kernel_rfl) rfl (by kernel_rfl) (Nat.le_of_ble_eq_true rfl) ?_
  intro e_0 m_0 hA hm_0
  have s0_0 : evA e_0 (.tmp 0) = _ := hA 0 _ rfl
  have s1_0 : evA e_0 (.tmp 1) = _ := hA 1 _ rfl
  have s2_0 : evA e_0 (.tmp 2) = _ := hA 2 _ rfl
  have ml_0 : m_0.length = 0 := by rw [hm_0]; rfl
  clear hA hm_0
  have hn1 := h.n1; have hjs := h.js
  refine aw_seq ?_
  refine aw_text (by kernel_rfl) ?_
  refine al_stm (st_box s0_0 rfl ml_0) trivial rfl (fun m_1 hm_1 => ?_)
  have mo0_1 := m_push hm_1 ml_0
  have ml_1 := m_push_l hm_1 ml_0
  have ml_1 : _ = 1 := ml_1
  clear hm_1
  refine al_stm (st_box (up_m rfl s1_0) rfl ml_1) trivial rfl (fun m_2 hm_2 => ?_)
  have mo1_2 := m_push hm_2 ml_1
  have mo0_2 := m_push_o hm_2 mo0_1
  have ml_2 := m_push_l hm_2 ml_1
  have ml_2 : _ = 2 := ml_2
  clear hm_2 mo0_1
  refine al_ro' (ro_assign ev_c) trivial rfl ?_
  refine al_end (fun e_3 he_3 => ?_)
  have s2_3 := ef 2 he_3 (up_m rfl (u2 rfl s2_0))
  have s3_3 := ef 3 he_3 (u2 rfl up_h)
  have s4_3 := ef 4 he_3 (up_m rfl up_h)
  clear he_3 s0_0 s1_0 s2_0
  refine then_n ?_
  refine aw_seq ?_
  refine aw_text (by kernel_rfl) ?_
  refine al_ro' (ro_assign ev_c) trivial rfl ?_
  refine al_end (fun e_4 he_4 => ?_)
  have s2_4 := ef 2 he_4 (up_m rfl s2_3)
  have s3_4 := ef 3 he_4 (up_m rfl s3_3)
  have s4_4 := ef 4 he_4 (up_m rfl s4_3)
  have s7_4 := ef 7 he_4 up_h
  clear he_4 s2_3 s3_3 s4_3
  refine then_n ?_
  refine aw_seq ?_
  refine aw_seq ?_
  refine aw_text (by kernel_rfl) ?_
  refine al_ro' (ro_assign ev_c) trivial rfl ?_
  refine al_end (fun e_5 he_5 => ?_)
  have s2_5 := ef 2 he_5 (up_m rfl s2_4)
  have s3_5 := ef 3 he_5 (up_m rfl s3_4)
  have s4_5 := ef 4 he_5 (up_m rfl s4_4)
  have s7_5 := ef 7 he_5 (up_m rfl s7_4)
  have s8_5 := ef 8 he_5 up_h
  clear he_5 s2_4 s3_4 s4_4 s7_4
  refine then_n ?_
  refine aw_block ?_
  refine aw_adopt 3 1 s7_5 ml_2 (fun m_6 e_6 hm_6 he_6 => ?_)
  have mo2_6 := m_push hm_6 ml_2
  have mo1_6 := m_push_o hm_6 mo1_2
  have mo0_6 := m_push_o hm_6 mo0_2
  have ml_6 := m_push_l hm_6 ml_2
  have ml_6 : _ = 3 := ml_6
  have s2_6 : evA e_6 (.tmp 2) = _ := (congrArg (fun q => evA q (.tmp 2)) he_6).trans (up_m rfl s2_5)
  have s3_6 : evA e_6 (.tmp 3) = _ := (congrArg (fun q => evA q (.tmp 3)) he_6).trans (up_m rfl s3_5)
  have s4_6 : evA e_6 (.tmp 4) = _ := (congrArg (fun q => evA q (.tmp 4)) he_6).trans (up_m rfl s4_5)
  have s7_6 : evA e_6 (.tmp 7) = _ := (congrArg (fun q => evA q (.tmp 7)) he_6).trans up_h
  have s8_6 : evA e_6 (.tmp 8) = _ := (congrArg (fun q => evA q (.tmp 8)) he_6).trans (up_m rfl s8_5)
  clear hm_6 he_6
  refine aw_loop (S := (Int × List Int)) (fun s e mem => match s with | ⟨k, xs⟩ => (evA e (.tmp 8) = .v (.int .i64 k)) ∧ (evA e (.tmp 2) = evA e_6 (.tmp 2)) ∧ (evA e (.tmp 3) = evA e_6 (.tmp 3)) ∧ (evA e (.tmp 4) = evA e_6 (.tmp 4)) ∧ (mem[1]? = m_6[1]?) ∧ (mem[0]? = m_6[0]?) ∧ (∃ j, evA e (.tmp 7) = .own j ∧ mem[j]? = some (.row 3 1 (xs.map iE)) ∧ j ≠ 1 ∧ j ≠ 0) ∧ (∃ n, mem.length = n ∧ 3 ≤ n) ∧ ((0 ≤ k ∧ k ≤ l.js.length ∧ xs = benP l L p k.toNat))) (fun s => match s with | ⟨k, xs⟩ => (l.js.length - k).toNat) ⟨_, []⟩ ⟨s8_6, rfl, rfl, rfl, rfl, rfl, ⟨_, s7_6, mo2_6, (by decide), (by decide)⟩, ⟨_, ml_6, Nat.le_refl _⟩, ?_⟩ ?_
  · (exact ⟨by omega, by omega, rfl⟩)
  · rintro ⟨k, xs⟩ e_7 m_7 ⟨s8_7, k2_7, k3_7, k4_7, mk1_7, mk0_7, ⟨j7_7, s7_7, mo_j7_7, nj7_1_7, nj7_0_7⟩, ⟨n_7, ml_7, hn_7⟩, hinv⟩
    have s2_7 := k2_7.trans s2_6
    have s3_7 := k3_7.trans s3_6
    have s4_7 := k4_7.trans s4_6
    have mo1_7 := mk1_7.trans mo1_6
    have mo0_7 := mk0_7.trans mo0_6
    have jl7_7 := m_lt mo_j7_7 ml_7
    (obtain ⟨p1, p2, p3⟩ := hinv; have hxl : xs.length ≤ 1000000 := (by rw [p3]; have := benP_len (l := l) (L := L) (p := p) (n := k.toNat); omega))
    refine aw_seq ?_
    refine aw_seq ?_
    refine aw_text (by kernel_rfl) ?_
    refine al_ro' (ro_move s8_7) trivial rfl ?_
    refine al_ro' (ro_fld_ptr y36_fl26_1 rfl (up_m rfl s3_7)) trivial rfl ?_
    refine al_ro' (ro_eq (ro_ld_ptr y36_ty22 rfl mo0_7 up_h (by exact Nat.le_of_ble_eq_true rfl)) (by simp only [packA_t, packA_f, iE, bE, setAt, cellsA, Value.cells, map_vc, map_vn, Nat.reduceAdd, qS, one_iE, app_m] <;> rfl)) trivial rfl ?_
    refine al_ro' (ro_eq (ro_len_row up_h rfl y36_sl22.1) (by simp only [lnS] <;> rfl)) trivial rfl ?_
    refine al_ro' (ro_lss (up_m rfl (u2 rfl up_h)) up_h) trivial rfl ?_
    refine al_end (fun e_8 he_8 => ?_)
    have s2_8 := ef 2 he_8 (up_m rfl (u4 rfl s2_7))
    have s3_8 := ef 3 he_8 (up_m rfl (u4 rfl s3_7))
    have s4_8 := ef 4 he_8 (up_m rfl (u4 rfl s4_7))
    have s7_8 := ef 7 he_8 (up_m rfl (u4 rfl s7_7))
    have s8_8 := ef 8 he_8 (up_m rfl (u4 rfl s8_7))
    have s13_8 := ef 13 he_8 up_h
    clear he_8 s2_7 s3_7 s4_7 s7_7 s8_7
    refine then_n ?_
    refine aw_case s13_8 (fun hq_9 => ?_) (fun hq_9 => ?_)
    ·replace hq_9 := bt hq_9
     refine aw_skip ?_
     refine then_n ?_
     refine aw_seq ?_
     refine aw_block ?_
     refine aw_seq ?_
     refine aw_draw 11 (by kernel_rfl) (by kernel_rfl) (by kernel_rfl) (by kernel_rfl) ?_
     refine ds_ro' (ro_eq (ro_ld_ptr y36_ty26 rfl mo0_7 s3_8 (by exact Nat.le_of_ble_eq_true rfl)) (by simp only [packA_t, packA_f, iE, bE, setAt, cellsA, Value.cells, map_vc, map_vn, Nat.reduceAdd, qS, one_iE, app_m] <;> rfl)) trivial rfl ?_
     refine ds_ro' (ro_move (up_m rfl s8_8)) trivial rfl ?_
     refine ds_ro' (ro_call (evL_cons (up_m rfl up_h) (evL_cons up_h evL_nil)) rfl (rPlaceOf_ok l (by omega) h.len k (by omega)) y36_hcf81) trivial rfl ?_
     refine ds_ro' (ro_move (up_m rfl (u2 rfl s2_8))) trivial rfl ?_
     (refine ds_ro' (ro_add' up_h ev_c ?_) trivial rfl ?_; · (unfold In64; omega))
     refine ds_ro' (ro_move (up_m rfl (u4 rfl s2_8))) trivial rfl ?_
     refine ds_ro' (ro_fld_ptr y36_fl52_0 rfl (u2 rfl (u4 rfl s4_8))) trivial rfl ?_
     refine ds_ro' (ro_eq (ro_ld_ptr y36_ty3 rfl mo1_7 up_h (by exact Nat.le_of_ble_eq_true rfl)) (by simp only [packA_t, packA_f, iE, bE, setAt, cellsA, Value.cells, map_vc, map_vn, Nat.reduceAdd, qS, one_iE, app_m] <;> rfl)) trivial rfl ?_
     (refine ds_ro' (ro_add' (u2 rfl up_h) up_h ?_) trivial rfl ?_; · (unfold In64; omega))
     (refine ds_ro' (ro_sub' up_h ev_c ?_) trivial rfl ?_; · (unfold In64; omega))
     refine ds_ro' (ro_call (evL_cons (up_m rfl (u2 rfl (u4 rfl up_h))) (evL_cons (up_m rfl (u4 rfl up_h)) (evL_cons up_h evL_nil))) rfl ((bWithin_ok _ _ _).mono (fun q h => show q = tbA (benB l L p k.toNat) from h.trans (by rw [benB_w]))) y36_hcf22) trivial rfl ?_
     refine ds_nil ?_
     refine al_end (fun e_10 he_10 => ?_)
     have s2_10 := ef 2 he_10 (up_m rfl (u2 rfl (u8 rfl s2_8)))
     have s3_10 := ef 3 he_10 (up_m rfl (u2 rfl (u8 rfl s3_8)))
     have s4_10 := ef 4 he_10 (up_m rfl (u2 rfl (u8 rfl s4_8)))
     have s7_10 := ef 7 he_10 (up_m rfl (u2 rfl (u8 rfl s7_8)))
     have s8_10 := ef 8 he_10 (up_m rfl (u2 rfl (u8 rfl s8_8)))
     have s26_10 := ef 26 he_10 up_h
     clear he_10 s13_8 s2_8 s3_8 s4_8 s7_8 s8_8
     refine then_n ?_
     refine aw_case s26_10 (fun hq_11 => ?_) (fun hq_11 => ?_)
     ·skip
      refine aw_text (by kernel_rfl) ?_
      refine al_ro' (ro_move s7_10) trivial rfl ?_
      refine al_ro' (ro_move (up_m rfl s8_10)) trivial rfl ?_
      refine al_ro' (ro_lit y36_sl60 (evP_cons up_h evP_nil) rfl rfl rfl rfl) trivial rfl ?_
      refine al_stm (st_app y36_sl60 rfl ml_7 mo_j7_7 (u2 rfl up_h) up_h (by rfl) (by simp only [lnS] <;> omega)) trivial rfl (fun m_12 hm_12 => ?_)
      have mon_7_12 := m_swap hm_12 ml_7
      simp only [packA_t, packA_f, iE, bE, setAt, cellsA, Value.cells, map_vc, map_vn, Nat.reduceAdd, qS, one_iE, app_m] at mon_7_12
      have mo1_12 := m_swap_o hm_12 mo1_7 (by omega)
      have mo0_12 := m_swap_o hm_12 mo0_7 (by omega)
      have ml_12 := m_swap_l hm_12 ml_7
      clear hm_12 mo1_7 mo0_7 mo_j7_7
      refine al_ro' (ro_assign up_h) trivial rfl ?_
      refine al_end (fun e_13 he_13 => ?_)
      have s2_13 := ef 2 he_13 (up_m rfl (u4 rfl s2_10))
      have s3_13 := ef 3 he_13 (up_m rfl (u4 rfl s3_10))
      have s4_13 := ef 4 he_13 (up_m rfl (u4 rfl s4_10))
      have s7_13 := ef 7 he_13 up_h
      have s8_13 := ef 8 he_13 (up_m rfl (u4 rfl s8_10))
      clear he_13 s26_10 s2_10 s3_10 s4_10 s7_10 s8_10
      refine block_n ?_
      refine then_n ?_
      refine aw_text (by kernel_rfl) ?_
      refine al_ro' (ro_move s8_13) trivial rfl ?_
      (refine al_ro' (ro_add' up_h ev_c ?_) trivial rfl ?_; · (unfold In64; omega))
      refine al_ro' (ro_assign up_h) trivial rfl ?_
      refine al_end (fun e_14 he_14 => ?_)
      have s2_14 := ef 2 he_14 (up_m rfl (u2 rfl s2_13))
      have s3_14 := ef 3 he_14 (up_m rfl (u2 rfl s3_13))
      have s4_14 := ef 4 he_14 (up_m rfl (u2 rfl s4_13))
      have s7_14 := ef 7 he_14 (up_m rfl (u2 rfl s7_13))
      have s8_14 := ef 8 he_14 up_h
      clear he_14 s2_13 s3_13 s4_13 s7_13 s8_13
      refine then_n ?_
      refine ⟨⟨_, _⟩, ⟨s8_14, (s2_14.trans s2_6.symm), (s3_14.trans s3_6.symm), (s4_14.trans s4_6.symm), (mo1_12.trans mo1_6.symm), (mo0_12.trans mo0_6.symm), ⟨_, s7_14, mon_7_12, (by omega), (by omega)⟩, ⟨_, ml_12, by omega⟩, ?_⟩, ?_⟩
      · (refine ⟨by omega, by omega, ?_⟩; rw [p3]; first | (rw [benP_yes p1 (by assumption)]; done) | (rw [benP_no p1 (by first | assumption | (simpa using ‹¬ _ = true›))]; done))
      · ((try dsimp only); omega)
     refine aw_skip ?_
     refine block_n ?_
     refine then_n ?_
     refine aw_text (by kernel_rfl) ?_
     refine al_ro' (ro_move s8_10) trivial rfl ?_
     (refine al_ro' (ro_add' up_h ev_c ?_) trivial rfl ?_; · (unfold In64; omega))
     refine al_ro' (ro_assign up_h) trivial rfl ?_
     refine al_end (fun e_15 he_15 => ?_)
     have s2_15 := ef 2 he_15 (up_m rfl (u2 rfl s2_10))
     have s3_15 := ef 3 he_15 (up_m rfl (u2 rfl s3_10))
     have s4_15 := ef 4 he_15 (up_m rfl (u2 rfl s4_10))
     have s7_15 := ef 7 he_15 (up_m rfl (u2 rfl s7_10))
     have s8_15 := ef 8 he_15 up_h
     clear he_15 s26_10 s2_10 s3_10 s4_10 s7_10 s8_10
     refine then_n ?_
     refine ⟨⟨_, _⟩, ⟨s8_15, (s2_15.trans s2_6.symm), (s3_15.trans s3_6.symm), (s4_15.trans s4_6.symm), (mo1_7.trans mo1_6.symm), (mo0_7.trans mo0_6.symm), ⟨_, s7_15, mo_j7_7, nj7_1_7, nj7_0_7⟩, ⟨_, ml_7, by omega⟩, ?_⟩, ?_⟩
     · (refine ⟨by omega, by omega, ?_⟩; rw [p3]; first | (rw [benP_yes p1 (by assumption)]; done) | (rw [benP_no p1 (by first | assumption | (simpa using ‹¬ _ = true›))]; done))
     · ((try dsimp only); omega)
    replace hq_9 := bf hq_9
    refine aw_exit ?_
    refine then_x ?_
    refine then_x ?_
    refine block_hit ?_
    refine then_n ?_
    refine aw_seq ?_
    refine aw_text (by kernel_rfl) ?_
    refine al_ro' (ro_move s7_8) trivial rfl ?_
    refine al_ro' (ro_assign up_h) trivial rfl ?_
    refine al_end (fun e_16 he_16 => ?_)
    have s6_16 := ef 6 he_16 up_h
    clear he_16 s13_8 s2_8 s3_8 s4_8 s7_8 s8_8
    refine then_n ?_
    refine aw_ret ?_
    refine ret1 (.inr rfl) (by kernel_rfl) (resV_tmp s6_16) (.own _ _ _ _ mo_j7_7) ?_
    clear s6_16 mo1_7 mo0_7 mo_j7_7 ml_7
    (rw [p3, show k.toNat = l.js.length by omega])
end Go.Proofs.Ytknclifdncmgpaa

/- Contracts of chapter 1: the places of all poses; whether a pose is clear. No conditions on a program. -/
namespace Go.Proofs.Ytknclifdncmgpaa
open Go Go.RowKit Go.Proofs
set_option linter.unusedSimpArgs false
set_option linter.unusedVariables false
theorem y39_az111 : (Try.prog.info? 111).bind (·.zero) = some (.pointer none) := by kernel_rfl
theorem y39_az3 : (Try.prog.info? 3).bind (·.zero) = some (.int .i64 0) := by kernel_rfl
theorem y39_fl40_0 : FldIs Try.prog 40 0 0 false 1 := by unfold FldIs; kernel_rfl
theorem y39_fl40_1 : FldIs Try.prog 40 1 1 false 1 := by unfold FldIs; kernel_rfl
theorem y39_fl52_1 : FldIs Try.prog 52 1 1 false 1 := by unfold FldIs; kernel_rfl
theorem y39_hcf115 : ∀ args w, (callFunc 115 args).run Try.prog w = .ok (.enter 115 args) w := fun _ _ => by kernel_rfl
theorem y39_hcf78 : ∀ args w, (callFunc 78 args).run Try.prog w = .ok (.enter 78 args) w := fun _ _ => by kernel_rfl
theorem y39_hcf79 : ∀ args w, (callFunc 79 args).run Try.prog w = .ok (.enter 79 args) w := fun _ _ => by kernel_rfl
theorem y39_hcf80 : ∀ args w, (callFunc 80 args).run Try.prog w = .ok (.enter 80 args) w := fun _ _ => by kernel_rfl
theorem y39_hcf85 : ∀ args w, (callFunc 85 args).run Try.prog w = .ok (.enter 85 args) w := fun _ _ => by kernel_rfl
theorem y39_sz111 : (Try.prog.info? 111).map (·.size) = some 1 := by kernel_rfl
theorem y39_sz3 : (Try.prog.info? 3).map (·.size) = some 1 := by kernel_rfl
theorem y39_ty111 : TyIs Try.prog 111 false 1 := ⟨by kernel_rfl, by kernel_rfl⟩
theorem y39_ty26 : TyIs Try.prog 26 true 4 := ⟨by kernel_rfl, by kernel_rfl⟩
theorem y39_ty3 : TyIs Try.prog 3 false 1 := ⟨by kernel_rfl, by kernel_rfl⟩
theorem y39_ty52 : TyIs Try.prog 52 true 3 := ⟨by kernel_rfl, by kernel_rfl⟩

/-- Whether a deviation is clear: 2 yes, 1 maybe, 0 no. -/
def ansV (c lo hi : Int) : Int := if -c ≤ lo ∧ hi ≤ c then 2 else if hi < -c ∨ c < lo then 0 else 1
set_option maxRecDepth 100000 in
set_option maxHeartbeats 4000000 in
theorem answer_ok (L c u lo hi : Int) (hc : 0 ≤ c ∧ c ≤ 1000) : FnOk Try.prog 85 [vehA L c u, .agg [mA lo, mA hi]] (fun q => q = mA (ansV c lo hi)) := by
  refine fnOk_of (fn := Try.f85) 31 (by kernel_rfl) rfl (by kernel_rfl) (Nat.le_of_ble_eq_true rfl) ?_
  intro e_0 m_0 hA hm_0
  have s0_0 : evA e_0 (.tmp 0) = _ := hA 0 _ rfl
  have s1_0 : evA e_0 (.tmp 1) = _ := hA 1 _ rfl
  have ml_0 : m_0.length = 0 := by rw [hm_0]; rfl
  clear hA hm_0
  refine aw_seq ?_
  refine aw_text (by kernel_rfl) ?_
  refine al_stm (st_box s0_0 rfl ml_0) trivial rfl (fun m_1 hm_1 => ?_)
  have mo0_1 := m_push hm_1 ml_0
  have ml_1 := m_push_l hm_1 ml_0
  have ml_1 : _ = 1 := ml_1
  clear hm_1
  refine al_stm (st_box (up_m rfl s1_0) rfl ml_1) trivial rfl (fun m_2 hm_2 => ?_)
  have mo1_2 := m_push hm_2 ml_1
  have mo0_2 := m_push_o hm_2 mo0_1
  have ml_2 := m_push_l hm_2 ml_1
  have ml_2 : _ = 2 := ml_2
  clear hm_2 mo0_1
  refine al_ro' (ro_assign ev_c) trivial rfl ?_
  refine al_end (fun e_3 he_3 => ?_)
  have s2_3 := ef 2 he_3 (u2 rfl up_h)
  have s3_3 := ef 3 he_3 (up_m rfl up_h)
  clear he_3 s0_0 s1_0
  refine then_n ?_
  refine aw_seq ?_
  refine aw_block ?_
  refine aw_seq ?_
  refine aw_text (by kernel_rfl) ?_
  refine al_ro' (ro_fld_ptr y39_fl40_0 rfl s3_3) trivial rfl ?_
  refine al_ro' (ro_eq (ro_ld_ptr y39_ty3 rfl mo1_2 up_h (by exact Nat.le_of_ble_eq_true rfl)) (by simp only [packA_t, packA_f, iE, bE, setAt, cellsA, Value.cells, map_vc, map_vn, Nat.reduceAdd, qS] <;> rfl)) trivial rfl ?_
  refine al_ro' (ro_fld_ptr y39_fl52_1 rfl (u2 rfl s2_3)) trivial rfl ?_
  refine al_ro' (ro_eq (ro_ld_ptr y39_ty3 rfl mo0_2 up_h (by exact Nat.le_of_ble_eq_true rfl)) (by simp only [packA_t, packA_f, iE, bE, setAt, cellsA, Value.cells, map_vc, map_vn, Nat.reduceAdd, qS] <;> rfl)) trivial rfl ?_
  (refine al_ro' (ro_neg' up_h ?_) trivial rfl ?_; · (unfold In64; omega))
  refine al_ro' (ro_geq (up_m rfl (u2 rfl up_h)) up_h) trivial rfl ?_
  refine al_ro' (ro_move up_h) trivial rfl ?_
  refine al_case up_h (fun hb_4 hq_4 => ?_) (fun hb_4 hq_4 => ?_)
  ·replace hq_4 := bt hq_4
   refine al_ro' (ro_fld_ptr y39_fl40_1 rfl (up_m rfl (u2 rfl (u4 rfl s3_3)))) ⟨_, rfl, hb_4⟩ rfl ?_
   refine al_ro' (ro_eq (ro_ld_ptr y39_ty3 rfl mo1_2 up_h (by exact Nat.le_of_ble_eq_true rfl)) (by simp only [packA_t, packA_f, iE, bE, setAt, cellsA, Value.cells, map_vc, map_vn, Nat.reduceAdd, qS] <;> rfl)) ⟨_, rfl, (up_m rfl hb_4)⟩ rfl ?_
   refine al_ro' (ro_fld_ptr y39_fl52_1 rfl (up_m rfl (u8 rfl s2_3))) ⟨_, rfl, (u2 rfl hb_4)⟩ rfl ?_
   refine al_ro' (ro_eq (ro_ld_ptr y39_ty3 rfl mo0_2 up_h (by exact Nat.le_of_ble_eq_true rfl)) (by simp only [packA_t, packA_f, iE, bE, setAt, cellsA, Value.cells, map_vc, map_vn, Nat.reduceAdd, qS] <;> rfl)) ⟨_, rfl, (up_m rfl (u2 rfl hb_4))⟩ rfl ?_
   refine al_ro' (ro_leq (u2 rfl up_h) up_h) ⟨_, rfl, (u4 rfl hb_4)⟩ rfl ?_
   refine al_ro' (ro_pickT (up_m rfl (u4 rfl hb_4)) up_h) trivial rfl ?_
   refine al_ro' (ro_assign up_h) trivial rfl ?_
   refine al_end (fun e_5 he_5 => ?_)
   have s2_5 := ef 2 he_5 (u2 rfl (u4 rfl (u8 rfl s2_3)))
   have s3_5 := ef 3 he_5 (u2 rfl (u4 rfl (u8 rfl s3_3)))
   have s5_5 := ef 5 he_5 up_h
   clear he_5 hb_4 s2_3 s3_3
   refine then_n ?_
   refine aw_case s5_5 (fun hq_6 => ?_) (fun hq_6 => ?_)
   ·replace hq_6 := bt hq_6
    refine aw_seq ?_
    refine aw_text (by kernel_rfl) ?_
    refine al_ro' (ro_assign ev_c) trivial rfl ?_
    refine al_end (fun e_7 he_7 => ?_)
    have s4_7 := ef 4 he_7 up_h
    clear he_7 s2_5 s3_5 s5_5
    refine then_n ?_
    refine aw_ret ?_
    refine block_r ?_
    refine then_r ?_
    refine ret1 (.inr rfl) (by kernel_rfl) (resV_tmp s4_7) (.ro _ rfl) ?_
    clear s4_7 mo1_2 mo0_2 ml_2
    (refine avj ?_; unfold ansV; (repeat' split) <;> first | rfl | omega)
   replace hq_6 := bf hq_6
   refine aw_seq ?_
   refine aw_seq ?_
   refine aw_text (by kernel_rfl) ?_
   refine al_ro' (ro_fld_ptr y39_fl40_1 rfl s3_5) trivial rfl ?_
   refine al_ro' (ro_eq (ro_ld_ptr y39_ty3 rfl mo1_2 up_h (by exact Nat.le_of_ble_eq_true rfl)) (by simp only [packA_t, packA_f, iE, bE, setAt, cellsA, Value.cells, map_vc, map_vn, Nat.reduceAdd, qS] <;> rfl)) trivial rfl ?_
   refine al_ro' (ro_fld_ptr y39_fl52_1 rfl (u2 rfl s2_5)) trivial rfl ?_
   refine al_ro' (ro_eq (ro_ld_ptr y39_ty3 rfl mo0_2 up_h (by exact Nat.le_of_ble_eq_true rfl)) (by simp only [packA_t, packA_f, iE, bE, setAt, cellsA, Value.cells, map_vc, map_vn, Nat.reduceAdd, qS] <;> rfl)) trivial rfl ?_
   (refine al_ro' (ro_neg' up_h ?_) trivial rfl ?_; · (unfold In64; omega))
   refine al_ro' (ro_lss (up_m rfl (u2 rfl up_h)) up_h) trivial rfl ?_
   refine al_ro' (ro_assign up_h) trivial rfl ?_
   refine al_end (fun e_8 he_8 => ?_)
   have s2_8 := ef 2 he_8 (up_m rfl (u2 rfl (u4 rfl s2_5)))
   have s3_8 := ef 3 he_8 (up_m rfl (u2 rfl (u4 rfl s3_5)))
   have s19_8 := ef 19 he_8 up_h
   clear he_8 s2_5 s3_5 s5_5
   refine then_n ?_
   refine aw_case s19_8 (fun hq_9 => ?_) (fun hq_9 => ?_)
   · replace hq_9 := bt hq_9; exfalso; omega
   replace hq_9 := bf hq_9
   refine aw_text (by kernel_rfl) ?_
   refine al_ro' (ro_fld_ptr y39_fl40_0 rfl s3_8) trivial rfl ?_
   refine al_ro' (ro_eq (ro_ld_ptr y39_ty3 rfl mo1_2 up_h (by exact Nat.le_of_ble_eq_true rfl)) (by simp only [packA_t, packA_f, iE, bE, setAt, cellsA, Value.cells, map_vc, map_vn, Nat.reduceAdd, qS] <;> rfl)) trivial rfl ?_
   refine al_ro' (ro_fld_ptr y39_fl52_1 rfl (u2 rfl s2_8)) trivial rfl ?_
   refine al_ro' (ro_eq (ro_ld_ptr y39_ty3 rfl mo0_2 up_h (by exact Nat.le_of_ble_eq_true rfl)) (by simp only [packA_t, packA_f, iE, bE, setAt, cellsA, Value.cells, map_vc, map_vn, Nat.reduceAdd, qS] <;> rfl)) trivial rfl ?_
   refine al_ro' (ro_gtr (u2 rfl up_h) up_h) trivial rfl ?_
   refine al_ro' (ro_assign up_h) trivial rfl ?_
   refine al_end (fun e_13 he_13 => ?_)
   have s19_13 := ef 19 he_13 up_h
   clear he_13 s19_8 s2_8 s3_8
   refine then_n ?_
   refine aw_case s19_13 (fun hq_14 => ?_) (fun hq_14 => ?_)
   ·replace hq_14 := bt hq_14
    refine aw_seq ?_
    refine aw_text (by kernel_rfl) ?_
    refine al_ro' (ro_assign ev_c) trivial rfl ?_
    refine al_end (fun e_15 he_15 => ?_)
    have s4_15 := ef 4 he_15 up_h
    clear he_15 s19_13
    refine then_n ?_
    refine aw_ret ?_
    refine block_r ?_
    refine then_r ?_
    refine ret1 (.inr rfl) (by kernel_rfl) (resV_tmp s4_15) (.ro _ rfl) ?_
    clear s4_15 mo1_2 mo0_2 ml_2
    (refine avj ?_; unfold ansV; (repeat' split) <;> first | rfl | omega)
   replace hq_14 := bf hq_14
   refine aw_skip ?_
   refine block_n ?_
   refine then_n ?_
   refine aw_seq ?_
   refine aw_text (by kernel_rfl) ?_
   refine al_ro' (ro_assign ev_c) trivial rfl ?_
   refine al_end (fun e_16 he_16 => ?_)
   have s4_16 := ef 4 he_16 up_h
   clear he_16 s19_13
   refine then_n ?_
   refine aw_ret ?_
   refine ret1 (.inr rfl) (by kernel_rfl) (resV_tmp s4_16) (.ro _ rfl) ?_
   clear s4_16 mo1_2 mo0_2 ml_2
   (refine avj ?_; unfold ansV; (repeat' split) <;> first | rfl | omega)
  replace hq_4 := bf hq_4
  refine al_skip' ⟨_, rfl, .inl hb_4⟩ rfl ?_
  refine al_skip' ⟨_, rfl, .inl (up_m rfl hb_4)⟩ rfl ?_
  refine al_skip' ⟨_, rfl, .inl (u2 rfl hb_4)⟩ rfl ?_
  refine al_skip' ⟨_, rfl, .inl (up_m rfl (u2 rfl hb_4))⟩ rfl ?_
  refine al_skip' ⟨_, rfl, .inl (u4 rfl hb_4)⟩ rfl ?_
  refine al_ro' (ro_pickF (up_m rfl (u4 rfl hb_4)) ev_c) trivial rfl ?_
  refine al_ro' (ro_assign up_h) trivial rfl ?_
  refine al_end (fun e_17 he_17 => ?_)
  have s2_17 := ef 2 he_17 (u2 rfl (u4 rfl (u8 rfl s2_3)))
  have s3_17 := ef 3 he_17 (u2 rfl (u4 rfl (u8 rfl s3_3)))
  have s5_17 := ef 5 he_17 up_h
  clear he_17 hb_4 s2_3 s3_3
  refine then_n ?_
  refine aw_false s5_17 ?_
  refine aw_seq ?_
  refine aw_seq ?_
  refine aw_text (by kernel_rfl) ?_
  refine al_ro' (ro_fld_ptr y39_fl40_1 rfl s3_17) trivial rfl ?_
  refine al_ro' (ro_eq (ro_ld_ptr y39_ty3 rfl mo1_2 up_h (by exact Nat.le_of_ble_eq_true rfl)) (by simp only [packA_t, packA_f, iE, bE, setAt, cellsA, Value.cells, map_vc, map_vn, Nat.reduceAdd, qS] <;> rfl)) trivial rfl ?_
  refine al_ro' (ro_fld_ptr y39_fl52_1 rfl (u2 rfl s2_17)) trivial rfl ?_
  refine al_ro' (ro_eq (ro_ld_ptr y39_ty3 rfl mo0_2 up_h (by exact Nat.le_of_ble_eq_true rfl)) (by simp only [packA_t, packA_f, iE, bE, setAt, cellsA, Value.cells, map_vc, map_vn, Nat.reduceAdd, qS] <;> rfl)) trivial rfl ?_
  (refine al_ro' (ro_neg' up_h ?_) trivial rfl ?_; · (unfold In64; omega))
  refine al_ro' (ro_lss (up_m rfl (u2 rfl up_h)) up_h) trivial rfl ?_
  refine al_ro' (ro_assign up_h) trivial rfl ?_
  refine al_end (fun e_19 he_19 => ?_)
  have s2_19 := ef 2 he_19 (up_m rfl (u2 rfl (u4 rfl s2_17)))
  have s3_19 := ef 3 he_19 (up_m rfl (u2 rfl (u4 rfl s3_17)))
  have s19_19 := ef 19 he_19 up_h
  clear he_19 s2_17 s3_17 s5_17
  refine then_n ?_
  refine aw_case s19_19 (fun hq_20 => ?_) (fun hq_20 => ?_)
  ·replace hq_20 := bt hq_20
   refine aw_skip ?_
   refine then_n ?_
   refine aw_case s19_19 (fun hq_21 => ?_) (fun hq_21 => ?_)
   ·replace hq_21 := bt hq_21
    refine aw_seq ?_
    refine aw_text (by kernel_rfl) ?_
    refine al_ro' (ro_assign ev_c) trivial rfl ?_
    refine al_end (fun e_22 he_22 => ?_)
    have s4_22 := ef 4 he_22 up_h
    clear he_22 s19_19 s2_19 s3_19
    refine then_n ?_
    refine aw_ret ?_
    refine block_r ?_
    refine then_r ?_
    refine ret1 (.inr rfl) (by kernel_rfl) (resV_tmp s4_22) (.ro _ rfl) ?_
    clear s4_22 mo1_2 mo0_2 ml_2
    (refine avj ?_; unfold ansV; (repeat' split) <;> first | rfl | omega)
   · replace hq_21 := bf hq_21; exfalso; omega
  replace hq_20 := bf hq_20
  refine aw_text (by kernel_rfl) ?_
  refine al_ro' (ro_fld_ptr y39_fl40_0 rfl s3_19) trivial rfl ?_
  refine al_ro' (ro_eq (ro_ld_ptr y39_ty3 rfl mo1_2 up_h (by exact Nat.le_of_ble_eq_true rfl)) (by simp only [packA_t, packA_f, iE, bE, setAt, cellsA, Value.cells, map_vc, map_vn, Nat.reduceAdd, qS] <;> rfl)) trivial rfl ?_
  refine al_ro' (ro_fld_ptr y39_fl52_1 rfl (u2 rfl s2_19)) trivial rfl ?_
  refine al_ro' (ro_eq (ro_ld_ptr y39_ty3 rfl mo0_2 up_h (by exact Nat.le_of_ble_eq_true rfl)) (by simp only [packA_t, packA_f, iE, bE, setAt, cellsA, Value.cells, map_vc, map_vn, Nat.reduceAdd, qS] <;> rfl)) trivial rfl ?_
  refine al_ro' (ro_gtr (u2 rfl up_h) up_h) trivial rfl ?_
  refine al_ro' (ro_assign up_h) trivial rfl ?_
  refine al_end (fun e_24 he_24 => ?_)
  have s19_24 := ef 19 he_24 up_h
  clear he_24 s19_19 s2_19 s3_19
  refine then_n ?_
  refine aw_case s19_24 (fun hq_25 => ?_) (fun hq_25 => ?_)
  · replace hq_25 := bt hq_25; exfalso; omega
  replace hq_25 := bf hq_25
  refine aw_skip ?_
  refine block_n ?_
  refine then_n ?_
  refine aw_seq ?_
  refine aw_text (by kernel_rfl) ?_
  refine al_ro' (ro_assign ev_c) trivial rfl ?_
  refine al_end (fun e_27 he_27 => ?_)
  have s4_27 := ef 4 he_27 up_h
  clear he_27 s19_24
  refine then_n ?_
  refine aw_ret ?_
  refine ret1 (.inr rfl) (by kernel_rfl) (resV_tmp s4_27) (.ro _ rfl) ?_
  clear s4_27 mo1_2 mo0_2 ml_2
  (refine avj ?_; unfold ansV; (repeat' split) <;> first | rfl | omega)
/-- The worst answer at the first joints beneath a pose. -/
def worL (l : Lin) (L c p : Int) : List Nat → Int := List.foldl (fun w n => min w (ansV c (devLo l L p n) (devHi l L p n))) 2
theorem worL_next {l : Lin} {L c p : Int} {js : List Nat} {i n : Nat} (h : js[i]? = some n) : worL l L c p (js.take (i + 1)) = min (worL l L c p (js.take i)) (ansV c (devLo l L p n) (devHi l L p n)) := by
  unfold worL
  rw [List.take_add_one, h]
  simp [List.foldl_append]
theorem ben_pos {l : Lin} {L p : Int} {n : Nat} (hL : 1000 ≤ L ∧ L ≤ 30000) (hp : 0 ≤ p ∧ p + L ≤ plaP l.bs l.bs.length) (n1 : n < l.js.length) (n2 : p < plaP l.bs n) (n3 : plaP l.bs n < p + L) : Pos l L p n := ⟨by omega, by omega, by omega, by omega, by omega, by omega, n1⟩
set_option maxRecDepth 100000 in
set_option maxHeartbeats 4000000 in
theorem clearAt_good (l : Lin) (hl : Sho l) (hg : (linM l).2 = 0) (L c u p : Int) (hv : vehE L c u = 0) (hp : posE l L u p = 0) : FnOk Try.prog 34 [lnA l, vehA L c u, mA p] (fun q => q = .tuple [mA (worL l L c p (benL l L p)), mA 0]) := by
  refine fnOk_of (fn := Try.f34) 37 (by kernel_rfl) rfl (by kernel_rfl) (Nat.le_of_ble_eq_true rfl) ?_
  intro e_0 m_0 hA hm_0
  have s0_0 : evA e_0 (.tmp 0) = _ := hA 0 _ rfl
  have s1_0 : evA e_0 (.tmp 1) = _ := hA 1 _ rfl
  have s2_0 : evA e_0 (.tmp 2) = _ := hA 2 _ rfl
  have ml_0 : m_0.length = 0 := by rw [hm_0]; rfl
  clear hA hm_0
  have h := rgt_of hg; have hv2 := vehE_z.1 hv; have hp2 := posE_z.1 hp; have hpb := h.pla (n := l.bs.length) (Nat.le_refl _)
  refine aw_seq ?_
  refine aw_text (by kernel_rfl) ?_
  refine al_stm (st_box s0_0 rfl ml_0) trivial rfl (fun m_1 hm_1 => ?_)
  have mo0_1 := m_push hm_1 ml_0
  have ml_1 := m_push_l hm_1 ml_0
  have ml_1 : _ = 1 := ml_1
  clear hm_1
  refine al_stm (st_box (up_m rfl s1_0) rfl ml_1) trivial rfl (fun m_2 hm_2 => ?_)
  have mo1_2 := m_push hm_2 ml_1
  have mo0_2 := m_push_o hm_2 mo0_1
  have ml_2 := m_push_l hm_2 ml_1
  have ml_2 : _ = 2 := ml_2
  clear hm_2 mo0_1
  refine al_stm (st_box (u2 rfl s2_0) rfl ml_2) trivial rfl (fun m_3 hm_3 => ?_)
  have mo2_3 := m_push hm_3 ml_2
  have mo1_3 := m_push_o hm_3 mo1_2
  have mo0_3 := m_push_o hm_3 mo0_2
  have ml_3 := m_push_l hm_3 ml_2
  have ml_3 : _ = 3 := ml_3
  clear hm_3 mo1_2 mo0_2
  refine al_ro' (ro_assign ev_c) trivial rfl ?_
  refine al_ro' (ro_assign ev_c) trivial rfl ?_
  refine al_end (fun e_4 he_4 => ?_)
  have s3_4 := ef 3 he_4 (u4 rfl up_h)
  have s4_4 := ef 4 he_4 (up_m rfl (u2 rfl up_h))
  have s5_4 := ef 5 he_4 (u2 rfl up_h)
  clear he_4 s0_0 s1_0 s2_0
  refine then_n ?_
  refine aw_seq ?_
  refine aw_text (by kernel_rfl) ?_
  refine al_ro' (ro_eq (ro_ld_ptr y39_ty26 rfl mo0_3 s3_4 (by exact Nat.le_of_ble_eq_true rfl)) (by simp only [packA_t, packA_f, iE, bE, setAt, cellsA, Value.cells, map_vc, map_vn, Nat.reduceAdd, qS] <;> rfl)) trivial rfl ?_
  refine al_ro' (ro_eq (ro_ld_ptr y39_ty52 rfl mo1_3 (up_m rfl s4_4) (by exact Nat.le_of_ble_eq_true rfl)) (by simp only [packA_t, packA_f, iE, bE, setAt, cellsA, Value.cells, map_vc, map_vn, Nat.reduceAdd, qS] <;> rfl)) trivial rfl ?_
  refine al_ro' (ro_eq (ro_ld_ptr y39_ty3 rfl mo2_3 (u2 rfl s5_4) (by exact Nat.le_of_ble_eq_true rfl)) (by simp only [packA_t, packA_f, iE, bE, setAt, cellsA, Value.cells, map_vc, map_vn, Nat.reduceAdd, qS] <;> rfl)) trivial rfl ?_
  refine al_ro' (ro_call (evL_cons (u2 rfl up_h) (evL_cons (up_m rfl up_h) (evL_cons up_h evL_nil))) rfl (openPose_good l hl hg L c u p hv) y39_hcf78) trivial rfl ?_
  refine al_ro' (ro_move up_h) trivial rfl ?_
  refine al_ro' (ro_extract up_h rfl) trivial rfl ?_
  refine al_ro' (ro_extract (up_m rfl up_h) rfl) trivial rfl ?_
  refine al_stm (st_alloc y39_az111 rfl ml_3) trivial rfl (fun m_5 hm_5 => ?_)
  have mo3_5 := m_push hm_5 ml_3
  simp only [packA_t, packA_f, iE, bE, setAt, cellsA, Value.cells, map_vc, map_vn, Nat.reduceAdd, qS] at mo3_5
  have mo2_5 := m_push_o hm_5 mo2_3
  have mo1_5 := m_push_o hm_5 mo1_3
  have mo0_5 := m_push_o hm_5 mo0_3
  have ml_5 := m_push_l hm_5 ml_3
  have ml_5 : _ = 4 := ml_5
  clear hm_5 mo2_3 mo1_3 mo0_3
  refine al_stm (st_store up_h (u2 rfl up_h) rfl rfl mo3_5 y39_sz111 rfl (by exact Nat.le_of_ble_eq_true rfl)) trivial rfl (fun m_6 hm_6 => ?_)
  have mo3_6 := m_set hm_6 mo3_5
  simp only [packA_t, packA_f, iE, bE, setAt, cellsA, Value.cells, map_vc, map_vn, Nat.reduceAdd, qS] at mo3_6
  have mo2_6 := m_set_o hm_6 mo2_5 (by decide)
  have mo1_6 := m_set_o hm_6 mo1_5 (by decide)
  have mo0_6 := m_set_o hm_6 mo0_5 (by decide)
  have ml_6 := m_set_l hm_6 ml_5
  clear hm_6 mo3_5 mo2_5 mo1_5 mo0_5
  refine al_ro' (ro_assign (up_n (up_m rfl up_h))) trivial rfl ?_
  refine al_end (fun e_7 he_7 => ?_)
  have s4_7 := ef 4 he_7 (up_m rfl (up_n (u8 rfl s4_4)))
  have s5_7 := ef 5 he_7 (up_m rfl (up_n (u8 rfl s5_4)))
  have s8_7 := ef 8 he_7 (up_m rfl (up_n up_h))
  have s9_7 := ef 9 he_7 up_h
  clear he_7 s3_4 s4_4 s5_4
  refine then_n ?_
  refine aw_seq ?_
  refine aw_seq ?_
  refine aw_text (by kernel_rfl) ?_
  refine al_ro' (ro_move s9_7) trivial rfl ?_
  refine al_ro' (ro_neq up_h ev_c) trivial rfl ?_
  refine al_end (fun e_8 he_8 => ?_)
  have s4_8 := ef 4 he_8 (u2 rfl s4_7)
  have s5_8 := ef 5 he_8 (u2 rfl s5_7)
  have s8_8 := ef 8 he_8 (u2 rfl s8_7)
  have s9_8 := ef 9 he_8 (u2 rfl s9_7)
  have s20_8 := ef 20 he_8 up_h
  clear he_8 s4_7 s5_7 s8_7 s9_7
  refine then_n ?_
  refine aw_case s20_8 (fun hq_9 => ?_) (fun hq_9 => ?_)
  · replace hq_9 := bnt hq_9; exfalso; omega
  replace hq_9 := bnf hq_9
  refine aw_skip ?_
  refine then_n ?_
  refine aw_seq ?_
  refine aw_text (by kernel_rfl) ?_
  refine al_stm (st_alloc y39_az3 rfl ml_6) trivial rfl (fun m_10 hm_10 => ?_)
  have mo4_10 := m_push hm_10 ml_6
  simp only [packA_t, packA_f, iE, bE, setAt, cellsA, Value.cells, map_vc, map_vn, Nat.reduceAdd, qS] at mo4_10
  have mo3_10 := m_push_o hm_10 mo3_6
  have mo2_10 := m_push_o hm_10 mo2_6
  have mo1_10 := m_push_o hm_10 mo1_6
  have mo0_10 := m_push_o hm_10 mo0_6
  have ml_10 := m_push_l hm_10 ml_6
  have ml_10 : _ = 5 := ml_10
  clear hm_10 mo3_6 mo2_6 mo1_6 mo0_6
  refine al_stm (st_store up_h ev_c rfl rfl mo4_10 y39_sz3 rfl (by exact Nat.le_of_ble_eq_true rfl)) trivial rfl (fun m_11 hm_11 => ?_)
  have mo4_11 := m_set hm_11 mo4_10
  simp only [packA_t, packA_f, iE, bE, setAt, cellsA, Value.cells, map_vc, map_vn, Nat.reduceAdd, qS] at mo4_11
  have mo3_11 := m_set_o hm_11 mo3_10 (by decide)
  have mo2_11 := m_set_o hm_11 mo2_10 (by decide)
  have mo1_11 := m_set_o hm_11 mo1_10 (by decide)
  have mo0_11 := m_set_o hm_11 mo0_10 (by decide)
  have ml_11 := m_set_l hm_11 ml_10
  clear hm_11 mo4_10 mo3_10 mo2_10 mo1_10 mo0_10
  refine al_end (fun e_12 he_12 => ?_)
  have s4_12 := ef 4 he_12 (up_n (up_m rfl s4_8))
  have s5_12 := ef 5 he_12 (up_n (up_m rfl s5_8))
  have s8_12 := ef 8 he_12 (up_n (up_m rfl s8_8))
  have s10_12 := ef 10 he_12 (up_n up_h)
  clear he_12 s20_8 s4_8 s5_8 s8_8 s9_8
  refine then_n ?_
  refine aw_seq ?_
  refine aw_seq ?_
  refine aw_text (by kernel_rfl) ?_
  refine al_ro' (ro_eq (ro_ld_ptr y39_ty111 rfl mo3_11 s8_12 (by exact Nat.le_of_ble_eq_true rfl)) (by simp only [packA_t, packA_f, iE, bE, setAt, cellsA, Value.cells, map_vc, map_vn, Nat.reduceAdd, qS] <;> rfl)) trivial rfl ?_
  refine al_ro' (ro_eq (ro_ld_ptr y39_ty52 rfl mo1_11 (up_m rfl s4_12) (by exact Nat.le_of_ble_eq_true rfl)) (by simp only [packA_t, packA_f, iE, bE, setAt, cellsA, Value.cells, map_vc, map_vn, Nat.reduceAdd, qS] <;> rfl)) trivial rfl ?_
  refine al_ro' (ro_eq (ro_ld_ptr y39_ty3 rfl mo2_11 (u2 rfl s5_12) (by exact Nat.le_of_ble_eq_true rfl)) (by simp only [packA_t, packA_f, iE, bE, setAt, cellsA, Value.cells, map_vc, map_vn, Nat.reduceAdd, qS] <;> rfl)) trivial rfl ?_
  refine al_ro' (ro_call (evL_cons (u2 rfl up_h) (evL_cons (up_m rfl up_h) (evL_cons up_h evL_nil))) rfl (beneath_ok l L c u p) y39_hcf79) trivial rfl ?_
  refine al_end (fun e_13 he_13 => ?_)
  have s4_13 := ef 4 he_13 (u4 rfl s4_12)
  have s5_13 := ef 5 he_13 (u4 rfl s5_12)
  have s8_13 := ef 8 he_13 (u4 rfl s8_12)
  have s10_13 := ef 10 he_13 (u4 rfl s10_12)
  have s25_13 := ef 25 he_13 up_h
  clear he_13 s10_12 s4_12 s5_12 s8_12
  refine then_n ?_
  refine aw_block ?_
  refine aw_range1 s25_13 (beneath1_gen l h L c u p hv2.1 (by omega)) y39_hcf115 (by exact benY_one) (Nat.le_of_ble_eq_true rfl) (fun i mem => ∃ s : Int, match s with | w => (mem[4]? = some (.box 3 [mA w])) ∧ (mem[3]? = m_11[3]?) ∧ (mem[2]? = m_11[2]?) ∧ (mem[1]? = m_11[1]?) ∧ (mem[0]? = m_11[0]?) ∧ (mem.length = 5) ∧ ((w = worL l L c p ((benL l L p).take i)))) ⟨_, mo4_11, rfl, rfl, rfl, rfl, ml_11, ?_⟩ ?_ ?_
  · rfl
  · rintro i_14 y0_14 m_14 hy_14 ⟨w, mo4_14, mk3_14, mk2_14, mk1_14, mk0_14, ml_14, hinv⟩
    (obtain ⟨n, hn, rfl, n1, n2, n3⟩ := benY_of hy_14; have hq : Pos l L p n := ben_pos hv2.1 (by omega) n1 n2 n3)
    have mo3_14 := mk3_14.trans mo3_11
    have mo2_14 := mk2_14.trans mo2_11
    have mo1_14 := mk1_14.trans mo1_11
    have mo0_14 := mk0_14.trans mo0_11
    refine aw_env (fun e_14 he_14 => ?_)
    have s4_14 := ef 4 he_14 (up_m rfl s4_13)
    have s5_14 := ef 5 he_14 (up_m rfl s5_13)
    have s8_14 := ef 8 he_14 (up_m rfl s8_13)
    have s10_14 := ef 10 he_14 (up_m rfl s10_13)
    have s25_14 := ef 25 he_14 (up_m rfl s25_13)
    have s26_14 := ef 26 he_14 up_h
    clear he_14
    refine aw_text (by kernel_rfl) ?_
    refine al_ro' (ro_assign s26_14) trivial rfl ?_
    refine al_end (fun e_15 he_15 => ?_)
    have s4_15 := ef 4 he_15 (up_m rfl s4_14)
    have s5_15 := ef 5 he_15 (up_m rfl s5_14)
    have s8_15 := ef 8 he_15 (up_m rfl s8_14)
    have s10_15 := ef 10 he_15 (up_m rfl s10_14)
    have s11_15 := ef 11 he_15 up_h
    clear he_15 s10_14 s25_14 s26_14 s4_14 s5_14 s8_14
    refine fallb_n ?_
    refine aw_block ?_
    refine aw_draw 9 (by kernel_rfl) (by kernel_rfl) (by kernel_rfl) (by kernel_rfl) ?_
    refine ds_ro' (ro_eq (ro_ld_ptr y39_ty3 rfl mo4_14 s10_15 (by exact Nat.le_of_ble_eq_true rfl)) (by simp only [packA_t, packA_f, iE, bE, setAt, cellsA, Value.cells, map_vc, map_vn, Nat.reduceAdd, qS] <;> rfl)) trivial rfl ?_
    refine ds_ro' (ro_eq (ro_ld_ptr y39_ty52 rfl mo1_14 (up_m rfl s4_15) (by exact Nat.le_of_ble_eq_true rfl)) (by simp only [packA_t, packA_f, iE, bE, setAt, cellsA, Value.cells, map_vc, map_vn, Nat.reduceAdd, qS] <;> rfl)) trivial rfl ?_
    refine ds_ro' (ro_eq (ro_ld_ptr y39_ty111 rfl mo3_14 (u2 rfl s8_15) (by exact Nat.le_of_ble_eq_true rfl)) (by simp only [packA_t, packA_f, iE, bE, setAt, cellsA, Value.cells, map_vc, map_vn, Nat.reduceAdd, qS] <;> rfl)) trivial rfl ?_
    refine ds_ro' (ro_eq (ro_ld_ptr y39_ty52 rfl mo1_14 (up_m rfl (u2 rfl s4_15)) (by exact Nat.le_of_ble_eq_true rfl)) (by simp only [packA_t, packA_f, iE, bE, setAt, cellsA, Value.cells, map_vc, map_vn, Nat.reduceAdd, qS] <;> rfl)) trivial rfl ?_
    refine ds_ro' (ro_eq (ro_ld_ptr y39_ty3 rfl mo2_14 (u4 rfl s5_15) (by exact Nat.le_of_ble_eq_true rfl)) (by simp only [packA_t, packA_f, iE, bE, setAt, cellsA, Value.cells, map_vc, map_vn, Nat.reduceAdd, qS] <;> rfl)) trivial rfl ?_
    refine ds_ro' (ro_move (up_m rfl (u4 rfl s11_15))) trivial rfl ?_
    refine ds_ro' (ro_call (evL_cons (up_m rfl (u2 rfl up_h)) (evL_cons (u2 rfl up_h) (evL_cons (up_m rfl up_h) (evL_cons up_h evL_nil)))) rfl (deviation_ok l h L c u p n hq) y39_hcf80) trivial rfl ?_
    refine ds_ro' (ro_call (evL_cons (up_m rfl (u4 rfl up_h)) (evL_cons up_h evL_nil)) rfl (answer_ok L c u _ _ hv2.2.1) y39_hcf85) trivial rfl ?_
    refine ds_ro' (ro_min (up_m rfl (u2 rfl (u4 rfl up_h))) up_h) trivial rfl ?_
    refine ds_nil ?_
    refine al_stm (st_store (up_m rfl (u8 rfl s10_15)) up_h rfl rfl mo4_14 y39_sz3 rfl (by exact Nat.le_of_ble_eq_true rfl)) trivial rfl (fun m_16 hm_16 => ?_)
    have mo4_16 := m_set hm_16 mo4_14
    simp only [packA_t, packA_f, iE, bE, setAt, cellsA, Value.cells, map_vc, map_vn, Nat.reduceAdd, qS] at mo4_16
    have mo3_16 := m_set_o hm_16 mo3_14 (by decide)
    have mo2_16 := m_set_o hm_16 mo2_14 (by decide)
    have mo1_16 := m_set_o hm_16 mo1_14 (by decide)
    have mo0_16 := m_set_o hm_16 mo0_14 (by decide)
    have ml_16 := m_set_l hm_16 ml_14
    clear hm_16 mo4_14 mo3_14 mo2_14 mo1_14 mo0_14
    refine al_end (fun e_17 he_17 => ?_)
    have s10_17 := ef 10 he_17 (up_n (up_m rfl (u8 rfl s10_15)))
    clear he_17 s10_15 s11_15 s4_15 s5_15 s8_15
    refine block_n ?_
    refine rnd_n ⟨_, mo4_16, (mo3_16.trans mo3_11.symm), (mo2_16.trans mo2_11.symm), (mo1_16.trans mo1_11.symm), (mo0_16.trans mo0_11.symm), ml_16, ?_⟩
    (rw [hinv, worL_next hn])
  · rintro m_14 ⟨w, mo4_14, mk3_14, mk2_14, mk1_14, mk0_14, ml_14, hinv⟩
    have mo3_14 := mk3_14.trans mo3_11
    have mo2_14 := mk2_14.trans mo2_11
    have mo1_14 := mk1_14.trans mo1_11
    have mo0_14 := mk0_14.trans mo0_11
    (rw [benY_len, List.take_length] at hinv)
    refine block_n ?_
    refine then_n ?_
    refine aw_seq ?_
    refine aw_text (by kernel_rfl) ?_
    refine al_ro' (ro_eq (ro_ld_ptr y39_ty3 rfl mo4_14 s10_13 (by exact Nat.le_of_ble_eq_true rfl)) (by simp only [packA_t, packA_f, iE, bE, setAt, cellsA, Value.cells, map_vc, map_vn, Nat.reduceAdd, qS] <;> rfl)) trivial rfl ?_
    refine al_ro' (ro_assign up_h) trivial rfl ?_
    refine al_ro' (ro_assign ev_c) trivial rfl ?_
    refine al_end (fun e_18 he_18 => ?_)
    have s6_18 := ef 6 he_18 (up_m rfl up_h)
    have s7_18 := ef 7 he_18 up_h
    clear he_18 s10_13 s25_13 s4_13 s5_13 s8_13
    refine then_n ?_
    refine aw_ret ?_
    refine ret2 (.inr rfl) (by kernel_rfl) (resV_tmp s6_18) (resV_tmp s7_18) (.ro _ rfl) (.ro _ rfl) ?_
    clear s6_18 s7_18 mo4_14 mo3_14 mo2_14 mo1_14 mo0_14 ml_14
    (rw [hinv])
end Go.Proofs.Ytknclifdncmgpaa

