/- Texts of this claim, one behind the other: lemmas for the statement. -/
import Derived.Test.YtonjcljnpcmenaaM6
import Derived.Test.YtonjcljnpcmenaaA25
import Derived.Test.YtonjcljnpcmenaaA26
import Derived.Test.YtonjcljnpcmenaaA30
/- Contracts of chapter 1: the deviation at a joint beneath a pose, the walk. No conditions on a program. -/
namespace Go.Proofs.Ytonjcljnpcmenaa
open Go Go.RowKit Go.Proofs
set_option linter.unusedSimpArgs false
set_option linter.unusedVariables false
theorem y25_az39 : (Try.prog.info? 39).bind (·.zero) = some (.agg #[.int .i64 0, .int .i64 0]) := by kernel_rfl
theorem y25_az70 : (Try.prog.info? 70).bind (·.zero) = some (.agg #[.int .i64 0, .int .i64 0, .int .i64 0, .int .i64 0]) := by kernel_rfl
theorem y25_bz39 : (Try.prog.info? 39).bind (·.zero) = some (.agg #[.int .i64 0, .int .i64 0]) := by kernel_rfl
theorem y25_bu39 : Try.prog.underlying 39 = some (.struct (fsOf Try.prog 39)) := by kernel_rfl
theorem y25_bp39 : ∀ w, ((fsOf Try.prog 39).mapM fun f => Prod.mk f.offset <$> sizeOf f.type : Sem (Array (Nat × Nat))).run Try.prog w = .ok (#[(0, 1), (1, 1)]) w := fun _ => by kernel_rfl
theorem y25_fl141_0 : FldIs Try.prog 141 0 0 true 4 := by unfold FldIs; kernel_rfl
theorem y25_fl141_1 : FldIs Try.prog 141 1 4 false 1 := by unfold FldIs; kernel_rfl
theorem y25_fl26_1 : FldIs Try.prog 26 1 1 false 1 := by unfold FldIs; kernel_rfl
theorem y25_fl26_2 : FldIs Try.prog 26 2 2 false 1 := by unfold FldIs; kernel_rfl
theorem y25_fl28_0 : FldIs Try.prog 28 0 0 false 1 := by unfold FldIs; kernel_rfl
theorem y25_fl39_0 : FldIs Try.prog 39 0 0 false 1 := by unfold FldIs; kernel_rfl
theorem y25_fl39_1 : FldIs Try.prog 39 1 1 false 1 := by unfold FldIs; kernel_rfl
theorem y25_fl70_0 : FldIs Try.prog 70 0 0 false 1 := by unfold FldIs; kernel_rfl
theorem y25_fl70_2 : FldIs Try.prog 70 2 2 true 2 := by unfold FldIs; kernel_rfl
theorem y25_fl87_0 : FldIs Try.prog 87 0 0 false 1 := by unfold FldIs; kernel_rfl
theorem y25_hcf131 : ∀ args w, (callFunc 131 args).run Try.prog w = .ok (.enter 131 args) w := fun _ _ => by kernel_rfl
theorem y25_hcf132 : ∀ args w, (callFunc 132 args).run Try.prog w = .ok (.enter 132 args) w := fun _ _ => by kernel_rfl
theorem y25_sl22 : SlIs Try.prog 22 70 4 32 (.agg #[.int .i64 0, .int .i64 0, .int .i64 0, .int .i64 0]) := ⟨by kernel_rfl, by kernel_rfl, by kernel_rfl⟩
theorem y25_sl23 : SlIs Try.prog 23 87 2 16 (.agg #[.int .i64 0, .int .i64 0]) := ⟨by kernel_rfl, by kernel_rfl, by kernel_rfl⟩
theorem y25_sl49 : SlIs Try.prog 49 3 1 8 (.int .i64 0) := ⟨by kernel_rfl, by kernel_rfl, by kernel_rfl⟩
theorem y25_sz3 : (Try.prog.info? 3).map (·.size) = some 1 := by kernel_rfl
theorem y25_sz39 : (Try.prog.info? 39).map (·.size) = some 2 := by kernel_rfl
theorem y25_sz70 : (Try.prog.info? 70).map (·.size) = some 4 := by kernel_rfl
theorem y25_ty22 : TyIs Try.prog 22 false 1 := ⟨by kernel_rfl, by kernel_rfl⟩
theorem y25_ty23 : TyIs Try.prog 23 false 1 := ⟨by kernel_rfl, by kernel_rfl⟩
theorem y25_ty3 : TyIs Try.prog 3 false 1 := ⟨by kernel_rfl, by kernel_rfl⟩
theorem y25_ty39 : TyIs Try.prog 39 true 2 := ⟨by kernel_rfl, by kernel_rfl⟩
theorem y25_ty49 : TyIs Try.prog 49 false 1 := ⟨by kernel_rfl, by kernel_rfl⟩
theorem y25_ty70 : TyIs Try.prog 70 true 4 := ⟨by kernel_rfl, by kernel_rfl⟩

theorem devD_f (l : Lin) (L p : Int) : (l.bs.getD (atI l p) default).len * (l.bs.getD (atI l (p + L)) default).len * L = devD l L p := rfl
theorem wts1_f (l : Lin) (L p : Int) (j : Nat) : addAt (List.replicate l.js.length 0) j (devD l L p) = wts1 l L p j := rfl
theorem wts2_f (l : Lin) (L p : Int) (j : Nat) : subAt (wts1 l L p j) (atI l p) ((L - (plaP l.bs j - p)) * ((l.bs.getD (atI l p) default).len - atD l p) * (l.bs.getD (atI l (p + L)) default).len) = wts2 l L p j := rfl
theorem wts3_f (l : Lin) (L p : Int) (j : Nat) : subAt (wts2 l L p j) (atI l p + 1) ((L - (plaP l.bs j - p)) * atD l p * (l.bs.getD (atI l (p + L)) default).len) = wts3 l L p j := rfl
theorem wts4_f (l : Lin) (L p : Int) (j : Nat) : subAt (wts3 l L p j) (atI l (p + L)) ((plaP l.bs j - p) * ((l.bs.getD (atI l (p + L)) default).len - atD l (p + L)) * (l.bs.getD (atI l p) default).len) = wts4 l L p j := rfl
theorem wtsL_f (l : Lin) (L p : Int) (j : Nat) : subAt (wts4 l L p j) (atI l (p + L) + 1) ((plaP l.bs j - p) * atD l (p + L) * (l.bs.getD (atI l p) default).len) = wtsL l L p j := rfl
theorem nat2 {x : Int} {A : Nat} (h : x.natAbs ≤ A) : -(A : Int) ≤ x ∧ x ≤ A := by omega
theorem ediv_bd {n k : Int} (hk : 1 ≤ k) (hn : -4000000000000000000 ≤ n ∧ n ≤ 4000000000000000000) : -4000000000000000001 ≤ n / k ∧ n / k ≤ 4000000000000000000 := by
  have hb := tdiv_bd hn k
  have hf := fdivF (n := n) hk
  by_cases h : n.tmod k < 0
  · have := hf.1 h; omega
  · have := hf.2 h; omega
theorem dev_in {l : Lin} (h : Rgt l) {f : Int → Jnt → Int} (hf : f = loF ∨ f = hiF) {ws : List Int} {A : Nat} (hw : absP ws l.js.length ≤ A) {n : Nat} (hn : n ≤ l.js.length) : -(20100 * (A : Int)) ≤ devS f ws l.js n ∧ devS f ws l.js n ≤ 20100 * (A : Int) := by
  have h1 := devS_bd h hf (ws := ws) hn
  have h2 := absP_mono (ws := ws) hn
  omega
set_option maxRecDepth 100000 in
set_option maxHeartbeats 4000000 in
theorem deviation_ok (l : Lin) (h : Rgt l) (L c s p : Int) (j : Nat) (q : Pos l L p j) : FnOk Try.prog 74 [tkA l, vehA L c s, mA p, mA j] (fun q => q = .agg [mA (devLo l L p j), mA (devHi l L p j)]) := by
  refine fnOk_of (fn := Try.f74) 204 (by kernel_rfl) rfl (by kernel_rfl) (Nat.le_of_ble_eq_true rfl) ?_
  intro e_0 m_0 hA hm_0
  have s0_0 : evA e_0 (.tmp 0) = _ := hA 0 _ rfl
  have s1_0 : evA e_0 (.tmp 1) = _ := hA 1 _ rfl
  have s2_0 : evA e_0 (.tmp 2) = _ := hA 2 _ rfl
  have s3_0 : evA e_0 (.tmp 3) = _ := hA 3 _ rfl
  have ml_0 : m_0.length = 0 := by rw [hm_0]; rfl
  clear hA hm_0
  have hn1 := h.n1; have hn0 := h.n0; have hjs := h.js; obtain ⟨L0, L1, p0, p1, j0, j1, jn⟩ := id q; obtain ⟨a1, a2, a3⟩ := at_bd h (p := p) ⟨p0, by omega⟩; obtain ⟨b1, b2, b3⟩ := at_bd h (p := p + L) ⟨by omega, p1⟩; have c1 := h.bea _ a1; have c2 := h.bea _ b1; have hpl := plaL_len (bs := l.bs) (n := l.bs.length); have hpb := h.pla (n := l.bs.length) (Nat.le_refl _); have hpj := h.pla (n := j) (by omega); have hgj := plaL_get (bs := l.bs) (n := l.bs.length) (j := j) (by omega); obtain ⟨d0, d1, d2, d3, d4, d5⟩ := q.bd h; replace d2 := nat2 d2; replace d3 := nat2 d3; replace d4 := nat2 d4; replace d5 := nat2 d5; obtain ⟨s1, s2, s3, s4, s5⟩ := q.abs h; have m1 := nat2 (mul_in (x := (l.bs.getD (atI l p) default).len) (y := (l.bs.getD (atI l (p + L)) default).len) 30000 30000 (by omega) (by omega)); have m2 := nat2 (mul_in (x := L - (plaP l.bs j - p)) (y := (l.bs.getD (atI l p) default).len - atD l p) 30000 30000 (by omega) (by omega)); have m3 := nat2 (mul_in (x := L - (plaP l.bs j - p)) (y := atD l p) 30000 30000 (by omega) (by omega)); have m4 := nat2 (mul_in (x := plaP l.bs j - p) (y := (l.bs.getD (atI l (p + L)) default).len - atD l (p + L)) 30000 30000 (by omega) (by omega)); have m5 := nat2 (mul_in (x := plaP l.bs j - p) (y := atD l (p + L)) 30000 30000 (by omega) (by omega)); have hdd : (l.bs.getD (atI l p) default).len * (l.bs.getD (atI l (p + L)) default).len * L = devD l L p := rfl; have g0 : (List.replicate l.js.length (0 : Int)).getD j default = 0 := (by simp [jn]); have g2 := nat2 (Nat.le_trans (absP_get (ws := wts1 l L p j) (n := l.js.length) (i := atI l p) (by omega)) s1); have g3 := nat2 (Nat.le_trans (absP_get (ws := wts2 l L p j) (n := l.js.length) (i := atI l p + 1) (by omega)) s2); have g4 := nat2 (Nat.le_trans (absP_get (ws := wts3 l L p j) (n := l.js.length) (i := atI l (p + L)) (by omega)) s3); have g5 := nat2 (Nat.le_trans (absP_get (ws := wts4 l L p j) (n := l.js.length) (i := atI l (p + L) + 1) (by omega)) s4); have k0 : (List.replicate l.js.length (0 : Int)).length = l.js.length := (by simp); have k1 := len_wts1 (l := l) (L := L) (p := p) (j := j); have k2 := len_wts2 (l := l) (L := L) (p := p) (j := j); have k3 := len_wts3 (l := l) (L := L) (p := p) (j := j); have k4 := len_wts4 (l := l) (L := L) (p := p) (j := j); have k5 := len_wts (l := l) (L := L) (p := p) (j := j)
  refine aw_seq <| at_ <| al_stm (st_box s1_0 rfl ml_0) trivial rfl (fun m_1 hm_1 => ?_)
  have mo0_1 := m_push hm_1 ml_0
  have ml_1 := m_push_l hm_1 ml_0
  have ml_1 : _ = 1 := ml_1
  clear hm_1
  refine al_stm (st_alloc y25_az39 rfl ml_1) trivial rfl (fun m_2 hm_2 => ?_)
  have mo1_2 := m_push hm_2 ml_1
  simp only [pS, Value.cells, Nat.reduceAdd, jnE, beE, Int.toNat_natCast, toNat_suc, rep_iE, set_iE, hgj, addAt_f, subAt_f, devD_f, wts1_f, wts2_f, wts3_f, wts4_f, wtsL_f] at mo1_2
  have mo0_2 := m_push_o hm_2 mo0_1
  have ml_2 := m_push_l hm_2 ml_1
  have ml_2 : _ = 2 := ml_2
  clear hm_2 mo0_1
  refine ae5 (u2 rfl s0_0) (u2 rfl s2_0) (u2 rfl s3_0) (up_m rfl up_h) up_h ?_; clear s0_0 s1_0 s2_0 s3_0; intro e_3 s0_3 s2_3 s3_3 s5_3 s8_3
  refine then_n <| aw_seq <| at_ <| ar (ro_move s0_3) rfl <| ar (ro_move (up_m rfl s2_3)) rfl <| ar (ro_call (evL_cons (up_m rfl up_h) (evL_cons up_h evL_nil)) rfl (atX_ok l h p ⟨p0, by omega⟩) y25_hcf131) rfl ?_
  refine ar (ro_move up_h) rfl <| ar (ro_extract up_h rfl) rfl <| ar (ro_extract (up_m rfl up_h) rfl) rfl <| ar (ro_assign (up_m rfl up_h)) rfl <| ar (ro_assign (up_m rfl up_h)) rfl <| ae7 (u8 rfl s0_3) (u8 rfl s2_3) (u8 rfl s3_3) (u8 rfl s5_3) (u8 rfl s8_3) (up_m rfl up_h) up_h ?_; clear s0_3 s2_3 s3_3 s5_3 s8_3; intro e_4 s0_4 s2_4 s3_4 s5_4 s8_4 s9_4 s10_4
  refine then_n <| aw_seq <| at_ <| ar (ro_move s0_4) rfl <| ar (ro_move (up_m rfl s2_4)) rfl <| ar (ro_fld_ptr y25_fl28_0 rfl (u2 rfl s5_4)) rfl <| ar (ro_eq (ro_ld_ptr y25_ty3 rfl mo0_2 up_h (nle rfl)) (by simp only [pS, Value.cells, Nat.reduceAdd, jnE, beE, Int.toNat_natCast, toNat_suc, rep_iE, set_iE, hgj, addAt_f, subAt_f, devD_f, wts1_f, wts2_f, wts3_f, wts4_f, wtsL_f] <;> rfl)) rfl ?_
  (refine ar (ro_add' (u2 rfl up_h) up_h ?_) rfl ?_; · (unfold In64; omega))
  refine ar (ro_call (evL_cons (u4 rfl up_h) (evL_cons up_h evL_nil)) rfl (atX_ok l h (p + L) ⟨by omega, p1⟩) y25_hcf131) rfl ?_
  refine ar (ro_move up_h) rfl <| ar (ro_extract up_h rfl) rfl <| ar (ro_extract (up_m rfl up_h) rfl) rfl <| ar (ro_assign (up_m rfl up_h)) rfl <| ar (ro_assign (up_m rfl up_h)) rfl <| ae9 (up_m rfl (u2 rfl (u8 rfl s0_4))) (up_m rfl (u2 rfl (u8 rfl s2_4))) (up_m rfl (u2 rfl (u8 rfl s3_4))) (up_m rfl (u2 rfl (u8 rfl s5_4))) (up_m rfl (u2 rfl (u8 rfl s8_4))) (up_m rfl (u2 rfl (u8 rfl s9_4))) (up_m rfl (u2 rfl (u8 rfl s10_4))) (up_m rfl up_h) up_h ?_; clear s0_4 s10_4 s2_4 s3_4 s5_4 s8_4 s9_4; intro e_5 s0_5 s2_5 s3_5 s5_5 s8_5 s9_5 s10_5 s11_5 s12_5
  refine then_n <| aw_seq <| at_ <| ar (ro_move s0_5) rfl <| ar (ro_nilR up_h) rfl <| ar (ro_eq (ro_fld_ref y25_fl141_1 rfl up_h) (by simp only [pS, Value.cells, Nat.reduceAdd, jnE, beE, Int.toNat_natCast, toNat_suc, rep_iE, set_iE, hgj, addAt_f, subAt_f, devD_f, wts1_f, wts2_f, wts3_f, wts4_f, wtsL_f] <;> rfl)) rfl ?_
  refine ar (ro_eq (ro_ld_ref y25_ty49 rfl up_h (nle rfl)) (by simp only [pS, Value.cells, Nat.reduceAdd, jnE, beE, Int.toNat_natCast, toNat_suc, rep_iE, set_iE, hgj, addAt_f, subAt_f, devD_f, wts1_f, wts2_f, wts3_f, wts4_f, wtsL_f] <;> rfl)) rfl ?_
  refine ar (ro_move (u4 rfl s3_5)) rfl <| ar (ro_eq (ro_ix y25_sl49 (up_m rfl up_h) up_h (by omega) (by first | (refine idx_map ?_; first | omega | (simp only [lnS]; omega)) | (refine idx_mapI ?_; first | omega | (simp only [lnS]; omega)) | (refine idx_mapN ?_; first | omega | (simp only [lnS]; omega)) | rfl)) (by simp only [pS, Value.cells, Nat.reduceAdd, jnE, beE, Int.toNat_natCast, toNat_suc, rep_iE, set_iE, hgj, addAt_f, subAt_f, devD_f, wts1_f, wts2_f, wts3_f, wts4_f, wtsL_f] <;> rfl)) rfl ?_
  refine ar (ro_eq (ro_ld_ref y25_ty3 rfl up_h (nle rfl)) (by simp only [pS, Value.cells, Nat.reduceAdd, jnE, beE, Int.toNat_natCast, toNat_suc, rep_iE, set_iE, hgj, addAt_f, subAt_f, devD_f, wts1_f, wts2_f, wts3_f, wts4_f, wtsL_f] <;> rfl)) rfl ?_
  refine ar (ro_move (up_m rfl (u2 rfl (u4 rfl s2_5)))) rfl ?_
  (refine ar (ro_sub' (up_m rfl up_h) up_h ?_) rfl ?_; · (unfold In64; omega))
  refine ar (ro_assign up_h) rfl <| ae9 (u2 rfl (u8 rfl s0_5)) (u2 rfl (u8 rfl s3_5)) (u2 rfl (u8 rfl s5_5)) (u2 rfl (u8 rfl s8_5)) (u2 rfl (u8 rfl s9_5)) (u2 rfl (u8 rfl s10_5)) (u2 rfl (u8 rfl s11_5)) (u2 rfl (u8 rfl s12_5)) up_h ?_; clear s0_5 s10_5 s11_5 s12_5 s2_5 s3_5 s5_5 s8_5 s9_5; intro e_6 s0_6 s3_6 s5_6 s8_6 s9_6 s10_6 s11_6 s12_6 s13_6
  refine then_n <| aw_seq <| aw_draw 20 (by kernel_rfl) (by kernel_rfl) (by kernel_rfl) (by kernel_rfl) ?_
  refine dr (ro_move s0_6) rfl <| dr (ro_nilR up_h) rfl <| dr (ro_eq (ro_fld_ref y25_fl141_0 rfl up_h) (by simp only [pS, Value.cells, Nat.reduceAdd, jnE, beE, Int.toNat_natCast, toNat_suc, rep_iE, set_iE, hgj, addAt_f, subAt_f, devD_f, wts1_f, wts2_f, wts3_f, wts4_f, wtsL_f] <;> rfl)) rfl ?_
  refine dr (ro_eq (ro_fld_ref y25_fl26_2 rfl up_h) (by simp only [pS, Value.cells, Nat.reduceAdd, jnE, beE, Int.toNat_natCast, toNat_suc, rep_iE, set_iE, hgj, addAt_f, subAt_f, devD_f, wts1_f, wts2_f, wts3_f, wts4_f, wtsL_f] <;> rfl)) rfl ?_
  refine dr (ro_eq (ro_ld_ref y25_ty23 rfl up_h (nle rfl)) (by simp only [pS, Value.cells, Nat.reduceAdd, jnE, beE, Int.toNat_natCast, toNat_suc, rep_iE, set_iE, hgj, addAt_f, subAt_f, devD_f, wts1_f, wts2_f, wts3_f, wts4_f, wtsL_f] <;> rfl)) rfl ?_
  refine dr (ro_move (up_m rfl (u4 rfl s9_6))) rfl <| dr (ro_eq (ro_ix y25_sl23 (up_m rfl up_h) up_h (by omega) (by first | (refine idx_map ?_; first | omega | (simp only [lnS]; omega)) | (refine idx_mapI ?_; first | omega | (simp only [lnS]; omega)) | (refine idx_mapN ?_; first | omega | (simp only [lnS]; omega)) | rfl)) (by simp only [pS, Value.cells, Nat.reduceAdd, jnE, beE, Int.toNat_natCast, toNat_suc, rep_iE, set_iE, hgj, addAt_f, subAt_f, devD_f, wts1_f, wts2_f, wts3_f, wts4_f, wtsL_f] <;> rfl)) rfl ?_
  refine dr (ro_eq (ro_fld_ref y25_fl87_0 rfl up_h) (by simp only [pS, Value.cells, Nat.reduceAdd, jnE, beE, Int.toNat_natCast, toNat_suc, rep_iE, set_iE, hgj, addAt_f, subAt_f, devD_f, wts1_f, wts2_f, wts3_f, wts4_f, wtsL_f] <;> rfl)) rfl ?_
  refine dr (ro_eq (ro_ld_ref y25_ty3 rfl up_h (nle rfl)) (by simp only [pS, Value.cells, Nat.reduceAdd, jnE, beE, Int.toNat_natCast, toNat_suc, rep_iE, set_iE, hgj, addAt_f, subAt_f, devD_f, wts1_f, wts2_f, wts3_f, wts4_f, wtsL_f] <;> rfl)) rfl ?_
  refine dr (ro_move (up_m rfl (u8 rfl s0_6))) rfl <| dr (ro_nilR up_h) rfl <| dr (ro_eq (ro_fld_ref y25_fl141_0 rfl up_h) (by simp only [pS, Value.cells, Nat.reduceAdd, jnE, beE, Int.toNat_natCast, toNat_suc, rep_iE, set_iE, hgj, addAt_f, subAt_f, devD_f, wts1_f, wts2_f, wts3_f, wts4_f, wtsL_f] <;> rfl)) rfl ?_
  refine dr (ro_eq (ro_fld_ref y25_fl26_2 rfl up_h) (by simp only [pS, Value.cells, Nat.reduceAdd, jnE, beE, Int.toNat_natCast, toNat_suc, rep_iE, set_iE, hgj, addAt_f, subAt_f, devD_f, wts1_f, wts2_f, wts3_f, wts4_f, wtsL_f] <;> rfl)) rfl ?_
  refine dr (ro_eq (ro_ld_ref y25_ty23 rfl up_h (nle rfl)) (by simp only [pS, Value.cells, Nat.reduceAdd, jnE, beE, Int.toNat_natCast, toNat_suc, rep_iE, set_iE, hgj, addAt_f, subAt_f, devD_f, wts1_f, wts2_f, wts3_f, wts4_f, wtsL_f] <;> rfl)) rfl ?_
  refine dr (ro_move (u2 rfl (u4 rfl (u8 rfl s11_6)))) rfl <| dr (ro_eq (ro_ix y25_sl23 (up_m rfl up_h) up_h (by omega) (by first | (refine idx_map ?_; first | omega | (simp only [lnS]; omega)) | (refine idx_mapI ?_; first | omega | (simp only [lnS]; omega)) | (refine idx_mapN ?_; first | omega | (simp only [lnS]; omega)) | rfl)) (by simp only [pS, Value.cells, Nat.reduceAdd, jnE, beE, Int.toNat_natCast, toNat_suc, rep_iE, set_iE, hgj, addAt_f, subAt_f, devD_f, wts1_f, wts2_f, wts3_f, wts4_f, wtsL_f] <;> rfl)) rfl ?_
  refine dr (ro_eq (ro_fld_ref y25_fl87_0 rfl up_h) (by simp only [pS, Value.cells, Nat.reduceAdd, jnE, beE, Int.toNat_natCast, toNat_suc, rep_iE, set_iE, hgj, addAt_f, subAt_f, devD_f, wts1_f, wts2_f, wts3_f, wts4_f, wtsL_f] <;> rfl)) rfl ?_
  refine dr (ro_eq (ro_ld_ref y25_ty3 rfl up_h (nle rfl)) (by simp only [pS, Value.cells, Nat.reduceAdd, jnE, beE, Int.toNat_natCast, toNat_suc, rep_iE, set_iE, hgj, addAt_f, subAt_f, devD_f, wts1_f, wts2_f, wts3_f, wts4_f, wtsL_f] <;> rfl)) rfl ?_
  refine dr (ro_assign (up_m rfl (u8 rfl up_h))) rfl <| dr (ro_assign (up_m rfl up_h)) rfl <| ds_nil <| ae11 (u4 rfl (u16 rfl s0_6)) (u4 rfl (u16 rfl s3_6)) (u4 rfl (u16 rfl s5_6)) (u4 rfl (u16 rfl s8_6)) (u4 rfl (u16 rfl s9_6)) (u4 rfl (u16 rfl s10_6)) (u4 rfl (u16 rfl s11_6)) (u4 rfl (u16 rfl s12_6)) (u4 rfl (u16 rfl s13_6)) (up_m rfl up_h) up_h ?_; clear s0_6 s10_6 s11_6 s12_6 s13_6 s3_6 s5_6 s8_6 s9_6; intro e_7 s0_7 s3_7 s5_7 s8_7 s9_7 s10_7 s11_7 s12_7 s13_7 s14_7 s15_7
  refine then_n <| aw_seq <| at_ <| ar (ro_move s14_7) rfl <| ar (ro_move (up_m rfl s15_7)) rfl ?_
  (refine ar (ro_mul' (up_m rfl up_h) up_h ?_) rfl ?_; · (unfold In64; omega))
  refine ar (ro_fld_ptr y25_fl28_0 rfl (up_m rfl (u2 rfl s5_7))) rfl <| ar (ro_eq (ro_ld_ptr y25_ty3 rfl mo0_2 up_h (nle rfl)) (by simp only [pS, Value.cells, Nat.reduceAdd, jnE, beE, Int.toNat_natCast, toNat_suc, rep_iE, set_iE, hgj, addAt_f, subAt_f, devD_f, wts1_f, wts2_f, wts3_f, wts4_f, wtsL_f] <;> rfl)) rfl ?_
  (refine ar (ro_mul' (u2 rfl up_h) up_h ?_) rfl ?_; · (unfold In64; omega))
  refine ar (ro_assign up_h) rfl <| ae12 (up_m rfl (u2 rfl (u4 rfl s0_7))) (up_m rfl (u2 rfl (u4 rfl s3_7))) (up_m rfl (u2 rfl (u4 rfl s5_7))) (up_m rfl (u2 rfl (u4 rfl s8_7))) (up_m rfl (u2 rfl (u4 rfl s9_7))) (up_m rfl (u2 rfl (u4 rfl s10_7))) (up_m rfl (u2 rfl (u4 rfl s11_7))) (up_m rfl (u2 rfl (u4 rfl s12_7))) (up_m rfl (u2 rfl (u4 rfl s13_7))) (up_m rfl (u2 rfl (u4 rfl s14_7))) (up_m rfl (u2 rfl (u4 rfl s15_7))) up_h ?_; clear s0_7 s10_7 s11_7 s12_7 s13_7 s14_7 s15_7 s3_7 s5_7 s8_7 s9_7; intro e_8 s0_8 s3_8 s5_8 s8_8 s9_8 s10_8 s11_8 s12_8 s13_8 s14_8 s15_8 s16_8
  refine then_n <| aw_seq <| at_ <| ar (ro_move s0_8) rfl <| ar (ro_nilR up_h) rfl <| ar (ro_eq (ro_fld_ref y25_fl141_0 rfl up_h) (by simp only [pS, Value.cells, Nat.reduceAdd, jnE, beE, Int.toNat_natCast, toNat_suc, rep_iE, set_iE, hgj, addAt_f, subAt_f, devD_f, wts1_f, wts2_f, wts3_f, wts4_f, wtsL_f] <;> rfl)) rfl ?_
  refine ar (ro_eq (ro_fld_ref y25_fl26_1 rfl up_h) (by simp only [pS, Value.cells, Nat.reduceAdd, jnE, beE, Int.toNat_natCast, toNat_suc, rep_iE, set_iE, hgj, addAt_f, subAt_f, devD_f, wts1_f, wts2_f, wts3_f, wts4_f, wtsL_f] <;> rfl)) rfl ?_
  refine ar (ro_eq (ro_ld_ref y25_ty22 rfl up_h (nle rfl)) (by simp only [pS, Value.cells, Nat.reduceAdd, jnE, beE, Int.toNat_natCast, toNat_suc, rep_iE, set_iE, hgj, addAt_f, subAt_f, devD_f, wts1_f, wts2_f, wts3_f, wts4_f, wtsL_f] <;> rfl)) rfl ?_
  refine ar (ro_eq (ro_len_row up_h rfl y25_sl22.1) (by simp only [lnS] <;> rfl)) rfl ?_
  refine al_stm (st_mk y25_sl49 rfl rfl ml_2 up_h up_h (by omega) (by omega)) trivial rfl (fun m_9 hm_9 => ?_)
  have mo2_9 := m_push hm_9 ml_2
  simp only [pS, Value.cells, Nat.reduceAdd, jnE, beE, Int.toNat_natCast, toNat_suc, rep_iE, set_iE, hgj, addAt_f, subAt_f, devD_f, wts1_f, wts2_f, wts3_f, wts4_f, wtsL_f] at mo2_9
  have mo1_9 := m_push_o hm_9 mo1_2
  have mo0_9 := m_push_o hm_9 mo0_2
  have ml_9 := m_push_l hm_9 ml_2
  have ml_9 : _ = 3 := ml_9
  clear hm_9 mo1_2 mo0_2
  refine ar (ro_assign up_h) rfl <| ae13 (u8 rfl s0_8) (u8 rfl s3_8) (u8 rfl s5_8) (u8 rfl s8_8) (u8 rfl s9_8) (u8 rfl s10_8) (u8 rfl s11_8) (u8 rfl s12_8) (u8 rfl s13_8) (u8 rfl s14_8) (u8 rfl s15_8) (u8 rfl s16_8) up_h ?_; clear s0_8 s10_8 s11_8 s12_8 s13_8 s14_8 s15_8 s16_8 s3_8 s5_8 s8_8 s9_8; intro e_10 s0_10 s3_10 s5_10 s8_10 s9_10 s10_10 s11_10 s12_10 s13_10 s14_10 s15_10 s16_10 s17_10
  refine then_n <| aw_seq <| at_ <| ar (ro_move s17_10) rfl <| ar (ro_move (up_m rfl s3_10)) rfl <| ar (ro_ix_own y25_sl49 mo2_9 (up_m rfl up_h) up_h (by omega) (by simp only [lnS] <;> omega)) rfl ?_
  refine ar (ro_eq (ro_ld_el y25_ty3 rfl mo2_9 up_h (nle rfl) (by first | (refine idx_map ?_; first | omega | (simp only [lnS]; omega)) | (refine idx_mapI ?_; first | omega | (simp only [lnS]; omega)) | (refine idx_mapN ?_; first | omega | (simp only [lnS]; omega)) | rfl)) (by simp only [pS, Value.cells, Nat.reduceAdd, jnE, beE, Int.toNat_natCast, toNat_suc, rep_iE, set_iE, hgj, addAt_f, subAt_f, devD_f, wts1_f, wts2_f, wts3_f, wts4_f, wtsL_f] <;> rfl)) rfl ?_
  refine ar (ro_move (u4 rfl s16_10)) rfl ?_
  (refine ar (ro_add' (up_m rfl up_h) up_h ?_) rfl ?_; · (unfold In64; omega))
  refine ar (ro_ix_own y25_sl49 mo2_9 (up_m rfl (u4 rfl up_h)) (u4 rfl up_h) (by omega) (by simp only [lnS] <;> omega)) rfl ?_
  refine al_stm (st_store_el up_h (up_m rfl up_h) rfl rfl rfl mo2_9 (Nat.add_zero _).symm (by first | (refine idx_map ?_; first | omega | (simp only [lnS]; omega)) | (refine idx_mapI ?_; first | omega | (simp only [lnS]; omega)) | (refine idx_mapN ?_; first | omega | (simp only [lnS]; omega)) | rfl) y25_sz3 rfl (nle rfl)) trivial rfl (fun m_11 hm_11 => ?_)
  have mo2_11 := m_set hm_11 mo2_9
  simp only [pS, Value.cells, Nat.reduceAdd, jnE, beE, Int.toNat_natCast, toNat_suc, rep_iE, set_iE, hgj, addAt_f, subAt_f, devD_f, wts1_f, wts2_f, wts3_f, wts4_f, wtsL_f] at mo2_11
  have mo1_11 := m_set_o hm_11 mo1_9 (by decide)
  have mo0_11 := m_set_o hm_11 mo0_9 (by decide)
  have ml_11 := m_set_l hm_11 ml_9
  clear hm_11 mo2_9 mo1_9 mo0_9
  refine ae12 (up_n (up_m rfl (u2 rfl (u4 rfl s0_10)))) (up_n (up_m rfl (u2 rfl (u4 rfl s5_10)))) (up_n (up_m rfl (u2 rfl (u4 rfl s8_10)))) (up_n (up_m rfl (u2 rfl (u4 rfl s9_10)))) (up_n (up_m rfl (u2 rfl (u4 rfl s10_10)))) (up_n (up_m rfl (u2 rfl (u4 rfl s11_10)))) (up_n (up_m rfl (u2 rfl (u4 rfl s12_10)))) (up_n (up_m rfl (u2 rfl (u4 rfl s13_10)))) (up_n (up_m rfl (u2 rfl (u4 rfl s14_10)))) (up_n (up_m rfl (u2 rfl (u4 rfl s15_10)))) (up_n (up_m rfl (u2 rfl (u4 rfl s16_10)))) (up_n (up_m rfl (u2 rfl (u4 rfl s17_10)))) ?_; clear s0_10 s10_10 s11_10 s12_10 s13_10 s14_10 s15_10 s16_10 s17_10 s3_10 s5_10 s8_10 s9_10; intro e_12 s0_12 s5_12 s8_12 s9_12 s10_12 s11_12 s12_12 s13_12 s14_12 s15_12 s16_12 s17_12
  refine then_n <| aw_seq <| aw_draw 16 (by kernel_rfl) (by kernel_rfl) (by kernel_rfl) (by kernel_rfl) ?_
  refine dr (ro_move s17_12) rfl <| dr (ro_move (up_m rfl s9_12)) rfl <| dr (ro_ix_own y25_sl49 mo2_11 (up_m rfl up_h) up_h (by omega) (by simp only [lnS] <;> omega)) rfl ?_
  refine dr (ro_eq (ro_ld_el y25_ty3 rfl mo2_11 up_h (nle rfl) (by first | (refine idx_map ?_; first | omega | (simp only [lnS]; omega)) | (refine idx_mapI ?_; first | omega | (simp only [lnS]; omega)) | (refine idx_mapN ?_; first | omega | (simp only [lnS]; omega)) | rfl)) (by simp only [pS, Value.cells, Nat.reduceAdd, jnE, beE, Int.toNat_natCast, toNat_suc, rep_iE, set_iE, hgj, addAt_f, subAt_f, devD_f, wts1_f, wts2_f, wts3_f, wts4_f, wtsL_f] <;> rfl)) rfl ?_
  refine dr (ro_fld_ptr y25_fl28_0 rfl (u4 rfl s5_12)) rfl <| dr (ro_eq (ro_ld_ptr y25_ty3 rfl mo0_11 up_h (nle rfl)) (by simp only [pS, Value.cells, Nat.reduceAdd, jnE, beE, Int.toNat_natCast, toNat_suc, rep_iE, set_iE, hgj, addAt_f, subAt_f, devD_f, wts1_f, wts2_f, wts3_f, wts4_f, wtsL_f] <;> rfl)) rfl ?_
  refine dr (ro_move (u2 rfl (u4 rfl s13_12))) rfl ?_
  (refine dr (ro_sub' (up_m rfl up_h) up_h ?_) rfl ?_; · (unfold In64; omega))
  refine dr (ro_move (u8 rfl s14_12)) rfl <| dr (ro_move (up_m rfl (u8 rfl s10_12))) rfl ?_
  (refine dr (ro_sub' (up_m rfl up_h) up_h ?_) rfl ?_; · (unfold In64; omega))
  (refine dr (ro_mul' (up_m rfl (u2 rfl up_h)) up_h ?_) rfl ?_; · (unfold In64; omega))
  refine dr (ro_move (u4 rfl (u8 rfl s15_12))) rfl ?_
  (refine dr (ro_mul' (up_m rfl up_h) up_h ?_) rfl ?_; · (unfold In64; omega))
  (refine dr (ro_sub' (u2 rfl (u8 rfl up_h)) up_h ?_) rfl ?_; · (unfold In64; omega))
  refine dr (ro_ix_own y25_sl49 mo2_11 (u2 rfl (u4 rfl (u8 rfl up_h))) (up_m rfl (u4 rfl (u8 rfl up_h))) (by omega) (by simp only [lnS] <;> omega)) rfl ?_
  refine ds_nil <| al_stm (st_store_el up_h (up_m rfl up_h) rfl rfl rfl mo2_11 (Nat.add_zero _).symm (by first | (refine idx_map ?_; first | omega | (simp only [lnS]; omega)) | (refine idx_mapI ?_; first | omega | (simp only [lnS]; omega)) | (refine idx_mapN ?_; first | omega | (simp only [lnS]; omega)) | rfl) y25_sz3 rfl (nle rfl)) trivial rfl (fun m_13 hm_13 => ?_)
  have mo2_13 := m_set hm_13 mo2_11
  simp only [pS, Value.cells, Nat.reduceAdd, jnE, beE, Int.toNat_natCast, toNat_suc, rep_iE, set_iE, hgj, addAt_f, subAt_f, devD_f, wts1_f, wts2_f, wts3_f, wts4_f, wtsL_f] at mo2_13
  have mo1_13 := m_set_o hm_13 mo1_11 (by decide)
  have mo0_13 := m_set_o hm_13 mo0_11 (by decide)
  have ml_13 := m_set_l hm_13 ml_11
  clear hm_13 mo2_11 mo1_11 mo0_11
  refine ae12 (up_n (u16 rfl s0_12)) (up_n (u16 rfl s5_12)) (up_n (u16 rfl s8_12)) (up_n (u16 rfl s9_12)) (up_n (u16 rfl s10_12)) (up_n (u16 rfl s11_12)) (up_n (u16 rfl s12_12)) (up_n (u16 rfl s13_12)) (up_n (u16 rfl s14_12)) (up_n (u16 rfl s15_12)) (up_n (u16 rfl s16_12)) (up_n (u16 rfl s17_12)) ?_; clear s0_12 s10_12 s11_12 s12_12 s13_12 s14_12 s15_12 s16_12 s17_12 s5_12 s8_12 s9_12; intro e_14 s0_14 s5_14 s8_14 s9_14 s10_14 s11_14 s12_14 s13_14 s14_14 s15_14 s16_14 s17_14
  refine then_n <| aw_seq <| aw_draw 15 (by kernel_rfl) (by kernel_rfl) (by kernel_rfl) (by kernel_rfl) ?_
  refine dr (ro_move s17_14) rfl <| dr (ro_move (up_m rfl s9_14)) rfl ?_
  (refine dr (ro_add' up_h ev_c ?_) rfl ?_; · (unfold In64; omega))
  refine dr (ro_ix_own y25_sl49 mo2_13 (u2 rfl up_h) up_h (by omega) (by simp only [lnS] <;> omega)) rfl ?_
  refine dr (ro_eq (ro_ld_el y25_ty3 rfl mo2_13 up_h (nle rfl) (by refine idx_map ?_; first | omega | (simp only [lnS]; omega))) (by simp only [pS, Value.cells, Nat.reduceAdd, jnE, beE, Int.toNat_natCast, toNat_suc, rep_iE, set_iE, hgj, addAt_f, subAt_f, devD_f, wts1_f, wts2_f, wts3_f, wts4_f, wtsL_f] <;> rfl)) rfl ?_
  refine dr (ro_fld_ptr y25_fl28_0 rfl (up_m rfl (u4 rfl s5_14))) rfl <| dr (ro_eq (ro_ld_ptr y25_ty3 rfl mo0_13 up_h (nle rfl)) (by simp only [pS, Value.cells, Nat.reduceAdd, jnE, beE, Int.toNat_natCast, toNat_suc, rep_iE, set_iE, hgj, addAt_f, subAt_f, devD_f, wts1_f, wts2_f, wts3_f, wts4_f, wtsL_f] <;> rfl)) rfl ?_
  refine dr (ro_move (up_m rfl (u2 rfl (u4 rfl s13_14)))) rfl ?_
  (refine dr (ro_sub' (up_m rfl up_h) up_h ?_) rfl ?_; · (unfold In64; omega))
  refine dr (ro_move (up_m rfl (u8 rfl s10_14))) rfl ?_
  (refine dr (ro_mul' (up_m rfl up_h) up_h ?_) rfl ?_; · (unfold In64; omega))
  refine dr (ro_move (up_m rfl (u2 rfl (u8 rfl s15_14)))) rfl ?_
  (refine dr (ro_mul' (up_m rfl up_h) up_h ?_) rfl ?_; · (unfold In64; omega))
  (refine dr (ro_sub' (u8 rfl up_h) up_h ?_) rfl ?_; · (unfold In64; omega))
  refine dr (ro_ix_own y25_sl49 mo2_13 (up_m rfl (u4 rfl (u8 rfl up_h))) (up_m rfl (u2 rfl (u8 rfl up_h))) (by omega) (by simp only [lnS] <;> omega)) rfl ?_
  refine ds_nil <| al_stm (st_store_el up_h (up_m rfl up_h) rfl rfl rfl mo2_13 (Nat.add_zero _).symm (by refine idx_map ?_; first | omega | (simp only [lnS]; omega)) y25_sz3 rfl (nle rfl)) trivial rfl (fun m_15 hm_15 => ?_)
  have mo2_15 := m_set hm_15 mo2_13
  simp only [pS, Value.cells, Nat.reduceAdd, jnE, beE, Int.toNat_natCast, toNat_suc, rep_iE, set_iE, hgj, addAt_f, subAt_f, devD_f, wts1_f, wts2_f, wts3_f, wts4_f, wtsL_f] at mo2_15
  have mo1_15 := m_set_o hm_15 mo1_13 (by decide)
  have mo0_15 := m_set_o hm_15 mo0_13 (by decide)
  have ml_15 := m_set_l hm_15 ml_13
  clear hm_15 mo2_13 mo1_13 mo0_13
  refine ae9 (up_n (up_m rfl (u2 rfl (u4 rfl (u8 rfl s0_14))))) (up_n (up_m rfl (u2 rfl (u4 rfl (u8 rfl s8_14))))) (up_n (up_m rfl (u2 rfl (u4 rfl (u8 rfl s11_14))))) (up_n (up_m rfl (u2 rfl (u4 rfl (u8 rfl s12_14))))) (up_n (up_m rfl (u2 rfl (u4 rfl (u8 rfl s13_14))))) (up_n (up_m rfl (u2 rfl (u4 rfl (u8 rfl s14_14))))) (up_n (up_m rfl (u2 rfl (u4 rfl (u8 rfl s15_14))))) (up_n (up_m rfl (u2 rfl (u4 rfl (u8 rfl s16_14))))) (up_n (up_m rfl (u2 rfl (u4 rfl (u8 rfl s17_14))))) ?_; clear s0_14 s10_14 s11_14 s12_14 s13_14 s14_14 s15_14 s16_14 s17_14 s5_14 s8_14 s9_14; intro e_16 s0_16 s8_16 s11_16 s12_16 s13_16 s14_16 s15_16 s16_16 s17_16
  refine then_n <| aw_seq <| at_ <| ar (ro_move s17_16) rfl <| ar (ro_move (up_m rfl s11_16)) rfl <| ar (ro_ix_own y25_sl49 mo2_15 (up_m rfl up_h) up_h (by omega) (by simp only [lnS] <;> omega)) rfl ?_
  refine ar (ro_eq (ro_ld_el y25_ty3 rfl mo2_15 up_h (nle rfl) (by first | (refine idx_map ?_; first | omega | (simp only [lnS]; omega)) | (refine idx_mapI ?_; first | omega | (simp only [lnS]; omega)) | (refine idx_mapN ?_; first | omega | (simp only [lnS]; omega)) | rfl)) (by simp only [pS, Value.cells, Nat.reduceAdd, jnE, beE, Int.toNat_natCast, toNat_suc, rep_iE, set_iE, hgj, addAt_f, subAt_f, devD_f, wts1_f, wts2_f, wts3_f, wts4_f, wtsL_f] <;> rfl)) rfl ?_
  refine ar (ro_move (u4 rfl s13_16)) rfl <| ar (ro_move (up_m rfl (u4 rfl s15_16))) rfl <| ar (ro_move (u2 rfl (u4 rfl s12_16))) rfl ?_
  (refine ar (ro_sub' (up_m rfl up_h) up_h ?_) rfl ?_; · (unfold In64; omega))
  (refine ar (ro_mul' (up_m rfl (u2 rfl up_h)) up_h ?_) rfl ?_; · (unfold In64; omega))
  refine ar (ro_move (up_m rfl (u8 rfl s14_16))) rfl ?_
  (refine ar (ro_mul' (up_m rfl up_h) up_h ?_) rfl ?_; · (unfold In64; omega))
  (refine ar (ro_sub' (up_m rfl (u2 rfl (u4 rfl up_h))) up_h ?_) rfl ?_; · (unfold In64; omega))
  refine ar (ro_ix_own y25_sl49 mo2_15 (up_m rfl (u2 rfl (u8 rfl up_h))) (u2 rfl (u8 rfl up_h)) (by omega) (by simp only [lnS] <;> omega)) rfl ?_
  refine al_stm (st_store_el up_h (up_m rfl up_h) rfl rfl rfl mo2_15 (Nat.add_zero _).symm (by first | (refine idx_map ?_; first | omega | (simp only [lnS]; omega)) | (refine idx_mapI ?_; first | omega | (simp only [lnS]; omega)) | (refine idx_mapN ?_; first | omega | (simp only [lnS]; omega)) | rfl) y25_sz3 rfl (nle rfl)) trivial rfl (fun m_17 hm_17 => ?_)
  have mo2_17 := m_set hm_17 mo2_15
  simp only [pS, Value.cells, Nat.reduceAdd, jnE, beE, Int.toNat_natCast, toNat_suc, rep_iE, set_iE, hgj, addAt_f, subAt_f, devD_f, wts1_f, wts2_f, wts3_f, wts4_f, wtsL_f] at mo2_17
  have mo1_17 := m_set_o hm_17 mo1_15 (by decide)
  have mo0_17 := m_set_o hm_17 mo0_15 (by decide)
  have ml_17 := m_set_l hm_17 ml_15
  clear hm_17 mo2_15 mo1_15 mo0_15
  refine ae8 (up_n (up_m rfl (u4 rfl (u8 rfl s0_16)))) (up_n (up_m rfl (u4 rfl (u8 rfl s8_16)))) (up_n (up_m rfl (u4 rfl (u8 rfl s11_16)))) (up_n (up_m rfl (u4 rfl (u8 rfl s12_16)))) (up_n (up_m rfl (u4 rfl (u8 rfl s13_16)))) (up_n (up_m rfl (u4 rfl (u8 rfl s14_16)))) (up_n (up_m rfl (u4 rfl (u8 rfl s16_16)))) (up_n (up_m rfl (u4 rfl (u8 rfl s17_16)))) ?_; clear s0_16 s11_16 s12_16 s13_16 s14_16 s15_16 s16_16 s17_16 s8_16; intro e_18 s0_18 s8_18 s11_18 s12_18 s13_18 s14_18 s16_18 s17_18
  refine then_n <| aw_seq <| at_ <| ar (ro_move s17_18) rfl <| ar (ro_move (up_m rfl s11_18)) rfl ?_
  (refine ar (ro_add' up_h ev_c ?_) rfl ?_; · (unfold In64; omega))
  refine ar (ro_ix_own y25_sl49 mo2_17 (u2 rfl up_h) up_h (by omega) (by simp only [lnS] <;> omega)) rfl ?_
  refine ar (ro_eq (ro_ld_el y25_ty3 rfl mo2_17 up_h (nle rfl) (by refine idx_map ?_; first | omega | (simp only [lnS]; omega))) (by simp only [pS, Value.cells, Nat.reduceAdd, jnE, beE, Int.toNat_natCast, toNat_suc, rep_iE, set_iE, hgj, addAt_f, subAt_f, devD_f, wts1_f, wts2_f, wts3_f, wts4_f, wtsL_f] <;> rfl)) rfl ?_
  refine ar (ro_move (up_m rfl (u4 rfl s13_18))) rfl <| ar (ro_move (u2 rfl (u4 rfl s12_18))) rfl ?_
  (refine ar (ro_mul' (up_m rfl up_h) up_h ?_) rfl ?_; · (unfold In64; omega))
  refine ar (ro_move (u8 rfl s14_18)) rfl ?_
  (refine ar (ro_mul' (up_m rfl up_h) up_h ?_) rfl ?_; · (unfold In64; omega))
  (refine ar (ro_sub' (up_m rfl (u4 rfl up_h)) up_h ?_) rfl ?_; · (unfold In64; omega))
  refine ar (ro_ix_own y25_sl49 mo2_17 (u2 rfl (u8 rfl up_h)) (u8 rfl up_h) (by omega) (by simp only [lnS] <;> omega)) rfl ?_
  refine al_stm (st_store_el up_h (up_m rfl up_h) rfl rfl rfl mo2_17 (Nat.add_zero _).symm (by refine idx_map ?_; first | omega | (simp only [lnS]; omega)) y25_sz3 rfl (nle rfl)) trivial rfl (fun m_19 hm_19 => ?_)
  have mo2_19 := m_set hm_19 mo2_17
  simp only [pS, Value.cells, Nat.reduceAdd, jnE, beE, Int.toNat_natCast, toNat_suc, rep_iE, set_iE, hgj, addAt_f, subAt_f, devD_f, wts1_f, wts2_f, wts3_f, wts4_f, wtsL_f] at mo2_19
  have mo1_19 := m_set_o hm_19 mo1_17 (by decide)
  have mo0_19 := m_set_o hm_19 mo0_17 (by decide)
  have ml_19 := m_set_l hm_19 ml_17
  clear hm_19 mo2_17 mo1_17 mo0_17
  refine ae4 (up_n (u4 rfl (u8 rfl s0_18))) (up_n (u4 rfl (u8 rfl s8_18))) (up_n (u4 rfl (u8 rfl s16_18))) (up_n (u4 rfl (u8 rfl s17_18))) ?_; clear s0_18 s11_18 s12_18 s13_18 s14_18 s16_18 s17_18 s8_18; intro e_20 s0_20 s8_20 s16_20 s17_20
  refine then_n <| aw_seq <| at_ <| ar (ro_build evP_nil y25_bz39 y25_bu39 y25_bp39 rfl) rfl ?_
  refine al_stm (st_alloc y25_az39 rfl ml_19) trivial rfl (fun m_21 hm_21 => ?_)
  have mo3_21 := m_push hm_21 ml_19
  simp only [pS, Value.cells, Nat.reduceAdd, jnE, beE, Int.toNat_natCast, toNat_suc, rep_iE, set_iE, hgj, addAt_f, subAt_f, devD_f, wts1_f, wts2_f, wts3_f, wts4_f, wtsL_f] at mo3_21
  have mo2_21 := m_push_o hm_21 mo2_19
  have mo1_21 := m_push_o hm_21 mo1_19
  have mo0_21 := m_push_o hm_21 mo0_19
  have ml_21 := m_push_l hm_21 ml_19
  have ml_21 : _ = 4 := ml_21
  clear hm_21 mo2_19 mo1_19 mo0_19
  refine al_stm (st_store up_h (up_m rfl up_h) rfl rfl mo3_21 y25_sz39 rfl (nle rfl)) trivial rfl (fun m_22 hm_22 => ?_)
  have mo3_22 := m_set hm_22 mo3_21
  simp only [pS, Value.cells, Nat.reduceAdd, jnE, beE, Int.toNat_natCast, toNat_suc, rep_iE, set_iE, hgj, addAt_f, subAt_f, devD_f, wts1_f, wts2_f, wts3_f, wts4_f, wtsL_f] at mo3_22
  have mo2_22 := m_set_o hm_22 mo2_21 (by decide)
  have mo1_22 := m_set_o hm_22 mo1_21 (by decide)
  have mo0_22 := m_set_o hm_22 mo0_21 (by decide)
  have ml_22 := m_set_l hm_22 ml_21
  clear hm_22 mo3_21 mo2_21 mo1_21 mo0_21
  refine ae5 (up_n (u2 rfl s0_20)) (up_n (u2 rfl s8_20)) (up_n (u2 rfl s16_20)) (up_n (u2 rfl s17_20)) (up_n up_h) ?_; clear s0_20 s16_20 s17_20 s8_20; intro e_23 s0_23 s8_23 s16_23 s17_23 s18_23
  refine then_n <| aw_seq <| aw_seq <| at_ <| ar (ro_move s17_23) rfl <| ar (ro_eq (ro_len_own up_h mo2_22 rfl y25_sl49.1) (by simp only [lnS] <;> rfl)) rfl ?_
  refine ar (ro_move ev_c) rfl <| ae7 (up_m rfl (u2 rfl s0_23)) (up_m rfl (u2 rfl s8_23)) (up_m rfl (u2 rfl s16_23)) (up_m rfl (u2 rfl s18_23)) (u2 rfl up_h) (up_m rfl up_h) up_h ?_; clear s0_23 s16_23 s17_23 s18_23 s8_23; intro e_24 s0_24 s8_24 s16_24 s18_24 s143_24 s144_24 s145_24
  refine then_n <| aw_block <| aw_loop (S := (Int × Int × Int)) (fun s e mem => match s with | ⟨i, lo, hi⟩ => (evA e (.tmp 145) = .v (.int .i64 i)) ∧ (evA e (.tmp 0) = evA e_24 (.tmp 0)) ∧ (evA e (.tmp 8) = evA e_24 (.tmp 8)) ∧ (evA e (.tmp 16) = evA e_24 (.tmp 16)) ∧ (evA e (.tmp 18) = evA e_24 (.tmp 18)) ∧ (evA e (.tmp 143) = evA e_24 (.tmp 143)) ∧ (evA e (.tmp 144) = evA e_24 (.tmp 144)) ∧ (mem[3]? = some (.box 39 [mA lo, mA hi])) ∧ (mem[2]? = m_22[2]?) ∧ (mem[1]? = m_22[1]?) ∧ (mem[0]? = m_22[0]?) ∧ (∃ n, mem.length = n ∧ 4 ≤ n) ∧ ((0 ≤ i ∧ i ≤ l.js.length ∧ lo = devS loF (wtsL l L p j) l.js i.toNat ∧ hi = devS hiF (wtsL l L p j) l.js i.toNat))) (fun s => match s with | ⟨i, lo, hi⟩ => (l.js.length - i).toNat) ⟨_, _, _⟩ ⟨s145_24, rfl, rfl, rfl, rfl, rfl, rfl, mo3_22, rfl, rfl, rfl, ⟨_, ml_22, Nat.le_refl _⟩, ?_⟩ ?_
  · (exact ⟨by omega, by omega, rfl, rfl⟩)
  · rintro ⟨i, lo, hi⟩ e_25 m_25 ⟨s145_25, k0_25, k8_25, k16_25, k18_25, k143_25, k144_25, mo3_25, mk2_25, mk1_25, mk0_25, ⟨n_25, ml_25, hn_25⟩, hinv⟩
    have s0_25 := k0_25.trans s0_24
    have s8_25 := k8_25.trans s8_24
    have s16_25 := k16_25.trans s16_24
    have s18_25 := k18_25.trans s18_24
    have s143_25 := k143_25.trans s143_24
    have s144_25 := k144_25.trans s144_24
    have mo2_25 := mk2_25.trans mo2_22
    have mo1_25 := mk1_25.trans mo1_22
    have mo0_25 := mk0_25.trans mo0_22
    (obtain ⟨q1, q2, q3, q4⟩ := hinv)
    refine aw_seq <| at_ <| ar (ro_lss s145_25 s144_25) rfl <| ae8 (up_m rfl s0_25) (up_m rfl s8_25) (up_m rfl s16_25) (up_m rfl s18_25) (up_m rfl s143_25) (up_m rfl s144_25) (up_m rfl s145_25) up_h ?_; clear s0_25 s143_25 s144_25 s145_25 s16_25 s18_25 s8_25; intro e_26 s0_26 s8_26 s16_26 s18_26 s143_26 s144_26 s145_26 s146_26
    refine then_n <| aw_seq <| aw_case s146_26 (fun hq_27 => ?_) (fun hq_27 => ?_)
    ·replace hq_27 := bt hq_27
     (have j2 := h.jnt i.toNat (by omega); have w1 := absP_get (ws := wtsL l L p j) (n := l.js.length) (i := i.toNat) (by omega); obtain ⟨f1, f2, f3, f4, f5⟩ := fF_bd (w := (wtsL l L p j).getD i.toNat default) (j := l.js.getD i.toNat default) (Nat.le_trans w1 s5) j2.1 ⟨j2.2.2.1, j2.2.2.2.1, j2.2.2.2.2⟩; clear w1; replace f3 := nat2 f3; replace f4 := nat2 f4; replace f5 := nat2 f5; clear f1 f2; have w2 := dev_in h (.inl rfl) s5 (n := i.toNat) (by omega); have w3 := dev_in h (.inr rfl) s5 (n := i.toNat) (by omega))
     refine aw_skip <| then_n <| aw_seq <| aw_block <| aw_seq <| at_ <| ar (ro_move s145_26) rfl <| ar (ro_ix_own y25_sl49 mo2_25 (up_m rfl s143_26) (up_m rfl s145_26) (by omega) (by simp only [lnS] <;> omega)) rfl ?_
     refine ar (ro_eq (ro_ld_el y25_ty3 rfl mo2_25 up_h (nle rfl) (by first | (refine idx_map ?_; first | omega | (simp only [lnS]; omega)) | (refine idx_mapI ?_; first | omega | (simp only [lnS]; omega)) | (refine idx_mapN ?_; first | omega | (simp only [lnS]; omega)) | rfl)) (by simp only [pS, Value.cells, Nat.reduceAdd, jnE, beE, Int.toNat_natCast, toNat_suc, rep_iE, set_iE, hgj, addAt_f, subAt_f, devD_f, wts1_f, wts2_f, wts3_f, wts4_f, wtsL_f] <;> rfl)) rfl ?_
     refine ar (ro_assign (u2 rfl up_h)) rfl <| ar (ro_assign (up_m rfl up_h)) rfl <| ae9 (up_m rfl (u4 rfl s0_26)) (up_m rfl (u4 rfl s8_26)) (up_m rfl (u4 rfl s16_26)) (up_m rfl (u4 rfl s18_26)) (up_m rfl up_h) up_h (up_m rfl (u4 rfl s143_26)) (up_m rfl (u4 rfl s144_26)) (up_m rfl (u4 rfl s145_26)) ?_; clear s0_26 s143_26 s144_26 s145_26 s146_26 s16_26 s18_26 s8_26; intro e_28 s0_28 s8_28 s16_28 s18_28 s19_28 s20_28 s143_28 s144_28 s145_28
     refine then_n <| aw_seq <| at_ <| ar (ro_move s0_28) rfl <| ar (ro_nilR up_h) rfl <| ar (ro_eq (ro_fld_ref y25_fl141_0 rfl up_h) (by simp only [pS, Value.cells, Nat.reduceAdd, jnE, beE, Int.toNat_natCast, toNat_suc, rep_iE, set_iE, hgj, addAt_f, subAt_f, devD_f, wts1_f, wts2_f, wts3_f, wts4_f, wtsL_f] <;> rfl)) rfl ?_
     refine ar (ro_eq (ro_fld_ref y25_fl26_1 rfl up_h) (by simp only [pS, Value.cells, Nat.reduceAdd, jnE, beE, Int.toNat_natCast, toNat_suc, rep_iE, set_iE, hgj, addAt_f, subAt_f, devD_f, wts1_f, wts2_f, wts3_f, wts4_f, wtsL_f] <;> rfl)) rfl ?_
     refine ar (ro_eq (ro_ld_ref y25_ty22 rfl up_h (nle rfl)) (by simp only [pS, Value.cells, Nat.reduceAdd, jnE, beE, Int.toNat_natCast, toNat_suc, rep_iE, set_iE, hgj, addAt_f, subAt_f, devD_f, wts1_f, wts2_f, wts3_f, wts4_f, wtsL_f] <;> rfl)) rfl ?_
     refine ar (ro_move (up_m rfl (u4 rfl s19_28))) rfl <| ar (ro_eq (ro_ix y25_sl22 (up_m rfl up_h) up_h (by omega) (by first | (refine idx_map ?_; first | omega | (simp only [lnS]; omega)) | (refine idx_mapI ?_; first | omega | (simp only [lnS]; omega)) | (refine idx_mapN ?_; first | omega | (simp only [lnS]; omega)) | rfl)) (by simp only [pS, Value.cells, Nat.reduceAdd, jnE, beE, Int.toNat_natCast, toNat_suc, rep_iE, set_iE, hgj, addAt_f, subAt_f, devD_f, wts1_f, wts2_f, wts3_f, wts4_f, wtsL_f] <;> rfl)) rfl ?_
     refine ar (ro_eq (ro_ld_ref y25_ty70 rfl up_h (nle rfl)) (by simp only [pS, Value.cells, Nat.reduceAdd, jnE, beE, Int.toNat_natCast, toNat_suc, rep_iE, set_iE, hgj, addAt_f, subAt_f, devD_f, wts1_f, wts2_f, wts3_f, wts4_f, wtsL_f] <;> rfl)) rfl ?_
     refine al_stm (st_alloc y25_az70 rfl ml_25) trivial rfl (fun m_29 hm_29 => ?_)
     have mon_25_29 := m_push hm_29 ml_25
     simp only [pS, Value.cells, Nat.reduceAdd, jnE, beE, Int.toNat_natCast, toNat_suc, rep_iE, set_iE, hgj, addAt_f, subAt_f, devD_f, wts1_f, wts2_f, wts3_f, wts4_f, wtsL_f] at mon_25_29
     have mo3_29 := m_push_o hm_29 mo3_25
     have mo2_29 := m_push_o hm_29 mo2_25
     have mo1_29 := m_push_o hm_29 mo1_25
     have mo0_29 := m_push_o hm_29 mo0_25
     have ml_29 := m_push_l hm_29 ml_25
     clear hm_29 mo3_25 mo2_25 mo1_25 mo0_25
     refine al_stm (st_store up_h (up_m rfl up_h) rfl rfl mon_25_29 y25_sz70 rfl (nle rfl)) trivial rfl (fun m_30 hm_30 => ?_)
     have mon_25_30 := m_set hm_30 mon_25_29
     simp only [pS, Value.cells, Nat.reduceAdd, jnE, beE, Int.toNat_natCast, toNat_suc, rep_iE, set_iE, hgj, addAt_f, subAt_f, devD_f, wts1_f, wts2_f, wts3_f, wts4_f, wtsL_f] at mon_25_30
     have mo3_30 := m_set_o hm_30 mo3_29 (by omega)
     have mo2_30 := m_set_o hm_30 mo2_29 (by omega)
     have mo1_30 := m_set_o hm_30 mo1_29 (by omega)
     have mo0_30 := m_set_o hm_30 mo0_29 (by omega)
     have ml_30 := m_set_l hm_30 ml_29
     clear hm_30 mon_25_29 mo3_29 mo2_29 mo1_29 mo0_29
     refine ae9 (up_n (up_m rfl (u8 rfl s0_28))) (up_n (up_m rfl (u8 rfl s8_28))) (up_n (up_m rfl (u8 rfl s16_28))) (up_n (up_m rfl (u8 rfl s18_28))) (up_n (up_m rfl (u8 rfl s20_28))) (up_n up_h) (up_n (up_m rfl (u8 rfl s143_28))) (up_n (up_m rfl (u8 rfl s144_28))) (up_n (up_m rfl (u8 rfl s145_28))) ?_; clear s0_28 s143_28 s144_28 s145_28 s16_28 s18_28 s19_28 s20_28 s8_28; intro e_31 s0_31 s8_31 s16_31 s18_31 s20_31 s21_31 s143_31 s144_31 s145_31
     refine then_n <| aw_seq <| aw_draw 12 (by kernel_rfl) (by kernel_rfl) (by kernel_rfl) (by kernel_rfl) ?_
     refine dr (ro_move s20_31) rfl <| dr (ro_fld_ptr y25_fl70_2 rfl (up_m rfl s21_31)) rfl <| dr (ro_fld_ptr y25_fl39_0 rfl up_h) rfl <| dr (ro_eq (ro_ld_ptr y25_ty3 rfl mon_25_30 up_h (nle rfl)) (by simp only [pS, Value.cells, Nat.reduceAdd, jnE, beE, Int.toNat_natCast, toNat_suc, rep_iE, set_iE, hgj, addAt_f, subAt_f, devD_f, wts1_f, wts2_f, wts3_f, wts4_f, wtsL_f] <;> rfl)) rfl ?_
     (refine dr (ro_mul' (up_m rfl (u2 rfl up_h)) up_h ?_) rfl ?_; · (unfold In64; omega))
     refine dr (ro_move (up_m rfl (u4 rfl s20_31))) rfl <| dr (ro_fld_ptr y25_fl70_2 rfl (u2 rfl (u4 rfl s21_31))) rfl <| dr (ro_fld_ptr y25_fl39_1 rfl up_h) rfl <| dr (ro_eq (ro_ld_ptr y25_ty3 rfl mon_25_30 up_h (nle rfl)) (by simp only [pS, Value.cells, Nat.reduceAdd, jnE, beE, Int.toNat_natCast, toNat_suc, rep_iE, set_iE, hgj, addAt_f, subAt_f, devD_f, wts1_f, wts2_f, wts3_f, wts4_f, wtsL_f] <;> rfl)) rfl ?_
     (refine dr (ro_mul' (up_m rfl (u2 rfl up_h)) up_h ?_) rfl ?_; · (unfold In64; omega))
     refine dr (ro_assign (up_m rfl (u4 rfl up_h))) rfl <| dr (ro_assign (up_m rfl up_h)) rfl <| ds_nil <| ae11 (u4 rfl (u8 rfl s0_31)) (u4 rfl (u8 rfl s8_31)) (u4 rfl (u8 rfl s16_31)) (u4 rfl (u8 rfl s18_31)) (u4 rfl (u8 rfl s20_31)) (u4 rfl (u8 rfl s21_31)) (up_m rfl up_h) up_h (u4 rfl (u8 rfl s143_31)) (u4 rfl (u8 rfl s144_31)) (u4 rfl (u8 rfl s145_31)) ?_; clear s0_31 s143_31 s144_31 s145_31 s16_31 s18_31 s20_31 s21_31 s8_31; intro e_32 s0_32 s8_32 s16_32 s18_32 s20_32 s21_32 s22_32 s23_32 s143_32 s144_32 s145_32
     refine then_n <| aw_seq <| at_ <| ar (ro_fld_ptr y25_fl39_0 rfl s18_32) rfl <| ar (ro_eq (ro_ld_ptr y25_ty3 rfl mo3_30 up_h (nle rfl)) (by simp only [pS, Value.cells, Nat.reduceAdd, jnE, beE, Int.toNat_natCast, toNat_suc, rep_iE, set_iE, hgj, addAt_f, subAt_f, devD_f, wts1_f, wts2_f, wts3_f, wts4_f, wtsL_f] <;> rfl)) rfl ?_
     refine ar (ro_move (u2 rfl s20_32)) rfl <| ar (ro_fld_ptr y25_fl70_0 rfl (up_m rfl (u2 rfl s21_32))) rfl <| ar (ro_eq (ro_ld_ptr y25_ty3 rfl mon_25_30 up_h (nle rfl)) (by simp only [pS, Value.cells, Nat.reduceAdd, jnE, beE, Int.toNat_natCast, toNat_suc, rep_iE, set_iE, hgj, addAt_f, subAt_f, devD_f, wts1_f, wts2_f, wts3_f, wts4_f, wtsL_f] <;> rfl)) rfl ?_
     (refine ar (ro_mul' (u2 rfl up_h) up_h ?_) rfl ?_; · (unfold In64; omega))
     refine ar (ro_move (u2 rfl (u4 rfl s22_32))) rfl <| ar (ro_move (up_m rfl (u2 rfl (u4 rfl s23_32)))) rfl <| ar (ro_min (up_m rfl up_h) up_h) rfl ?_
     (refine ar (ro_add' (up_m rfl (u2 rfl up_h)) up_h ?_) rfl ?_; · (unfold In64; omega))
     (refine ar (ro_add' (u8 rfl up_h) up_h ?_) rfl ?_; · (unfold In64; omega))
     refine ar (ro_fld_ptr y25_fl39_0 rfl (up_m rfl (u2 rfl (u8 rfl s18_32)))) rfl <| al_stm (st_store up_h (up_m rfl up_h) rfl rfl mo3_30 y25_sz3 rfl (nle rfl)) trivial rfl (fun m_33 hm_33 => ?_)
     have mo3_33 := m_set hm_33 mo3_30
     simp only [pS, Value.cells, Nat.reduceAdd, jnE, beE, Int.toNat_natCast, toNat_suc, rep_iE, set_iE, hgj, addAt_f, subAt_f, devD_f, wts1_f, wts2_f, wts3_f, wts4_f, wtsL_f] at mo3_33
     have mon_25_33 := m_set_o hm_33 mon_25_30 (by omega)
     have mo2_33 := m_set_o hm_33 mo2_30 (by decide)
     have mo1_33 := m_set_o hm_33 mo1_30 (by decide)
     have mo0_33 := m_set_o hm_33 mo0_30 (by decide)
     have ml_33 := m_set_l hm_33 ml_30
     clear hm_33 mon_25_30 mo3_30 mo2_30 mo1_30 mo0_30
     refine ae11 (up_n (u4 rfl (u8 rfl s0_32))) (up_n (u4 rfl (u8 rfl s8_32))) (up_n (u4 rfl (u8 rfl s16_32))) (up_n (u4 rfl (u8 rfl s18_32))) (up_n (u4 rfl (u8 rfl s20_32))) (up_n (u4 rfl (u8 rfl s21_32))) (up_n (u4 rfl (u8 rfl s22_32))) (up_n (u4 rfl (u8 rfl s23_32))) (up_n (u4 rfl (u8 rfl s143_32))) (up_n (u4 rfl (u8 rfl s144_32))) (up_n (u4 rfl (u8 rfl s145_32))) ?_; clear s0_32 s143_32 s144_32 s145_32 s16_32 s18_32 s20_32 s21_32 s22_32 s23_32 s8_32; intro e_34 s0_34 s8_34 s16_34 s18_34 s20_34 s21_34 s22_34 s23_34 s143_34 s144_34 s145_34
     refine then_n <| at_ <| ar (ro_fld_ptr y25_fl39_1 rfl s18_34) rfl <| ar (ro_eq (ro_ld_ptr y25_ty3 rfl mo3_33 up_h (nle rfl)) (by simp only [pS, Value.cells, Nat.reduceAdd, jnE, beE, Int.toNat_natCast, toNat_suc, rep_iE, set_iE, hgj, addAt_f, subAt_f, devD_f, wts1_f, wts2_f, wts3_f, wts4_f, wtsL_f] <;> rfl)) rfl ?_
     refine ar (ro_move (u2 rfl s20_34)) rfl <| ar (ro_fld_ptr y25_fl70_0 rfl (up_m rfl (u2 rfl s21_34))) rfl <| ar (ro_eq (ro_ld_ptr y25_ty3 rfl mon_25_33 up_h (nle rfl)) (by simp only [pS, Value.cells, Nat.reduceAdd, jnE, beE, Int.toNat_natCast, toNat_suc, rep_iE, set_iE, hgj, addAt_f, subAt_f, devD_f, wts1_f, wts2_f, wts3_f, wts4_f, wtsL_f] <;> rfl)) rfl ?_
     (refine ar (ro_mul' (u2 rfl up_h) up_h ?_) rfl ?_; · (unfold In64; omega))
     refine ar (ro_move (u2 rfl (u4 rfl s22_34))) rfl <| ar (ro_move (up_m rfl (u2 rfl (u4 rfl s23_34)))) rfl <| ar (ro_max (up_m rfl up_h) up_h) rfl ?_
     (refine ar (ro_add' (up_m rfl (u2 rfl up_h)) up_h ?_) rfl ?_; · (unfold In64; omega))
     (refine ar (ro_add' (u8 rfl up_h) up_h ?_) rfl ?_; · (unfold In64; omega))
     refine ar (ro_fld_ptr y25_fl39_1 rfl (up_m rfl (u2 rfl (u8 rfl s18_34)))) rfl <| al_stm (st_store up_h (up_m rfl up_h) rfl rfl mo3_33 y25_sz3 rfl (nle rfl)) trivial rfl (fun m_35 hm_35 => ?_)
     have mo3_35 := m_set hm_35 mo3_33
     simp only [pS, Value.cells, Nat.reduceAdd, jnE, beE, Int.toNat_natCast, toNat_suc, rep_iE, set_iE, hgj, addAt_f, subAt_f, devD_f, wts1_f, wts2_f, wts3_f, wts4_f, wtsL_f] at mo3_35
     have mon_25_35 := m_set_o hm_35 mon_25_33 (by omega)
     have mo2_35 := m_set_o hm_35 mo2_33 (by decide)
     have mo1_35 := m_set_o hm_35 mo1_33 (by decide)
     have mo0_35 := m_set_o hm_35 mo0_33 (by decide)
     have ml_35 := m_set_l hm_35 ml_33
     clear hm_35 mo3_33 mon_25_33 mo2_33 mo1_33 mo0_33
     refine ae7 (up_n (u4 rfl (u8 rfl s0_34))) (up_n (u4 rfl (u8 rfl s8_34))) (up_n (u4 rfl (u8 rfl s16_34))) (up_n (u4 rfl (u8 rfl s18_34))) (up_n (u4 rfl (u8 rfl s143_34))) (up_n (u4 rfl (u8 rfl s144_34))) (up_n (u4 rfl (u8 rfl s145_34))) ?_; clear s0_34 s143_34 s144_34 s145_34 s16_34 s18_34 s20_34 s21_34 s22_34 s23_34 s8_34; intro e_36 s0_36 s8_36 s16_36 s18_36 s143_36 s144_36 s145_36
     refine block_n <| then_n <| at_ ?_
     (refine ar (ro_add' s145_36 ev_c ?_) rfl ?_; · (unfold In64; omega))
     refine ar (ro_move up_h) rfl <| ae7 (u2 rfl s0_36) (u2 rfl s8_36) (u2 rfl s16_36) (u2 rfl s18_36) (u2 rfl s143_36) (u2 rfl s144_36) up_h ?_; clear s0_36 s143_36 s144_36 s145_36 s16_36 s18_36 s8_36; intro e_37 s0_37 s8_37 s16_37 s18_37 s143_37 s144_37 s145_37
     refine then_n <| ⟨⟨_, _, _⟩, ⟨s145_37, (s0_37.trans s0_24.symm), (s8_37.trans s8_24.symm), (s16_37.trans s16_24.symm), (s18_37.trans s18_24.symm), (s143_37.trans s143_24.symm), (s144_37.trans s144_24.symm), mo3_35, (mo2_35.trans mo2_22.symm), (mo1_35.trans mo1_22.symm), (mo0_35.trans mo0_22.symm), ⟨_, ml_35, by omega⟩, ?_⟩, ?_⟩
     · (refine ⟨by omega, by omega, ?_, ?_⟩ <;> (rw [show (i + 1).toNat = i.toNat + 1 by omega]; first | (rw [q3]; rfl) | (rw [q4]; rfl)))
     · ((try dsimp only); omega)
    replace hq_27 := bf hq_27
    (have hi' : i.toNat = l.js.length := (by omega); rw [hi'] at q3 q4; have w2 := dev_in h (.inl rfl) s5 (n := l.js.length) (Nat.le_refl _); have w3 := dev_in h (.inr rfl) s5 (n := l.js.length) (Nat.le_refl _); have w5 := ediv_bd (n := -hi) d0 (by omega))
    refine aw_exit <| then_x <| then_x <| block_hit <| then_n <| aw_seq <| aw_draw 11 (by kernel_rfl) (by kernel_rfl) (by kernel_rfl) (by kernel_rfl) ?_
    refine dr (ro_fld_ptr y25_fl39_0 rfl s18_26) rfl <| dr (ro_eq (ro_ld_ptr y25_ty3 rfl mo3_25 up_h (nle rfl)) (by simp only [pS, Value.cells, Nat.reduceAdd, jnE, beE, Int.toNat_natCast, toNat_suc, rep_iE, set_iE, hgj, addAt_f, subAt_f, devD_f, wts1_f, wts2_f, wts3_f, wts4_f, wtsL_f] <;> rfl)) rfl ?_
    refine dr (ro_move (u2 rfl s16_26)) rfl <| dr (ro_call (evL_cons (up_m rfl up_h) (evL_cons up_h evL_nil)) rfl (yFloor_ok _ _ d0 (by omega)) y25_hcf132) rfl ?_
    refine dr (ro_fld_ptr y25_fl39_1 rfl (u4 rfl s18_26)) rfl <| dr (ro_eq (ro_ld_ptr y25_ty3 rfl mo3_25 up_h (nle rfl)) (by simp only [pS, Value.cells, Nat.reduceAdd, jnE, beE, Int.toNat_natCast, toNat_suc, rep_iE, set_iE, hgj, addAt_f, subAt_f, devD_f, wts1_f, wts2_f, wts3_f, wts4_f, wtsL_f] <;> rfl)) rfl ?_
    (refine dr (ro_neg' up_h ?_) rfl ?_; · (unfold In64; omega))
    refine dr (ro_move (up_m rfl (u2 rfl (u4 rfl s16_26)))) rfl <| dr (ro_call (evL_cons (up_m rfl up_h) (evL_cons up_h evL_nil)) rfl (yFloor_ok _ _ d0 (by omega)) y25_hcf132) rfl ?_
    refine dr (ro_neg up_h) rfl <| dr (ro_build (evP_cons (u2 rfl (u4 rfl up_h)) (evP_cons up_h evP_nil)) y25_bz39 y25_bu39 y25_bp39 rfl) rfl ?_
    refine ds_nil <| al_stm (st_store (up_m rfl (u2 rfl (u8 rfl s8_26))) up_h rfl rfl mo1_25 y25_sz39 rfl (nle rfl)) trivial rfl (fun m_38 hm_38 => ?_)
    have mo1_38 := m_set hm_38 mo1_25
    simp only [pS, Value.cells, Nat.reduceAdd, jnE, beE, Int.toNat_natCast, toNat_suc, rep_iE, set_iE, hgj, addAt_f, subAt_f, devD_f, wts1_f, wts2_f, wts3_f, wts4_f, wtsL_f] at mo1_38
    have mo3_38 := m_set_o hm_38 mo3_25 (by decide)
    have mo2_38 := m_set_o hm_38 mo2_25 (by decide)
    have mo0_38 := m_set_o hm_38 mo0_25 (by decide)
    have ml_38 := m_set_l hm_38 ml_25
    clear hm_38 mo3_25 mo2_25 mo1_25 mo0_25
    refine ae1 (up_n (up_m rfl (u2 rfl (u8 rfl s8_26)))) ?_; clear s0_26 s143_26 s144_26 s145_26 s146_26 s16_26 s18_26 s8_26; intro e_39 s8_39
    refine then_n <| aw_ret <| ret1 (.inr rfl) (by kernel_rfl) (resV_cell s8_39 mo1_38 y25_ty39 (nle rfl) (by simp)) (vw_r (.ro _ rfl)) ?_
    clear s8_39 mo1_38 mo3_38 mo2_38 mo0_38 ml_38
    (rw [q4] at w5; rw [q3, q4, wrap_in (by unfold In64; omega)]; rfl)
end Go.Proofs.Ytonjcljnpcmenaa

/- Contracts of chapter 1: the joints beneath a pose; the deviation at one. No conditions on a program. -/
namespace Go.Proofs.Ytonjcljnpcmenaa
open Go Go.RowKit Go.Proofs
set_option linter.unusedSimpArgs false
set_option linter.unusedVariables false
theorem y26_az124 : (Try.prog.info? 124).bind (·.zero) = some (.pointer none) := by kernel_rfl
theorem y26_az34 : (Try.prog.info? 34).bind (·.zero) = some (.int .i64 0) := by kernel_rfl
theorem y26_az39 : (Try.prog.info? 39).bind (·.zero) = some (.agg #[.int .i64 0, .int .i64 0]) := by kernel_rfl
theorem y26_ar85 : ArIs Try.prog 85 2 1 := ⟨by kernel_rfl, by kernel_rfl⟩
theorem y26_bz39 : (Try.prog.info? 39).bind (·.zero) = some (.agg #[.int .i64 0, .int .i64 0]) := by kernel_rfl
theorem y26_bu39 : Try.prog.underlying 39 = some (.struct (fsOf Try.prog 39)) := by kernel_rfl
theorem y26_bp39 : ∀ w, ((fsOf Try.prog 39).mapM fun f => Prod.mk f.offset <$> sizeOf f.type : Sem (Array (Nat × Nat))).run Try.prog w = .ok (#[(0, 1), (1, 1)]) w := fun _ => by kernel_rfl
theorem y26_fl141_1 : FldIs Try.prog 141 1 4 false 1 := by unfold FldIs; kernel_rfl
theorem y26_fl28_0 : FldIs Try.prog 28 0 0 false 1 := by unfold FldIs; kernel_rfl
theorem y26_hcf130 : ∀ args w, (callFunc 130 args).run Try.prog w = .ok (.enter 130 args) w := fun _ _ => by kernel_rfl
theorem y26_hcf71 : ∀ args w, (callFunc 71 args).run Try.prog w = .ok (.enter 71 args) w := fun _ _ => by kernel_rfl
theorem y26_hcf72 : ∀ args w, (callFunc 72 args).run Try.prog w = .ok (.enter 72 args) w := fun _ _ => by kernel_rfl
theorem y26_hcf74 : ∀ args w, (callFunc 74 args).run Try.prog w = .ok (.enter 74 args) w := fun _ _ => by kernel_rfl
theorem y26_sl49 : SlIs Try.prog 49 3 1 8 (.int .i64 0) := ⟨by kernel_rfl, by kernel_rfl, by kernel_rfl⟩
theorem y26_sz124 : (Try.prog.info? 124).map (·.size) = some 1 := by kernel_rfl
theorem y26_sz34 : (Try.prog.info? 34).map (·.size) = some 1 := by kernel_rfl
theorem y26_sz39 : (Try.prog.info? 39).map (·.size) = some 2 := by kernel_rfl
theorem y26_ty124 : TyIs Try.prog 124 false 1 := ⟨by kernel_rfl, by kernel_rfl⟩
theorem y26_ty26 : TyIs Try.prog 26 true 4 := ⟨by kernel_rfl, by kernel_rfl⟩
theorem y26_ty28 : TyIs Try.prog 28 true 3 := ⟨by kernel_rfl, by kernel_rfl⟩
theorem y26_ty3 : TyIs Try.prog 3 false 1 := ⟨by kernel_rfl, by kernel_rfl⟩
theorem y26_ty34 : TyIs Try.prog 34 false 1 := ⟨by kernel_rfl, by kernel_rfl⟩
theorem y26_ty39 : TyIs Try.prog 39 true 2 := ⟨by kernel_rfl, by kernel_rfl⟩
theorem y26_ty49 : TyIs Try.prog 49 false 1 := ⟨by kernel_rfl, by kernel_rfl⟩

theorem filt_at {p : Nat → Bool} {i : Nat} (hp : p i = true) : ∀ {n : Nat}, i < n → ((List.range n).filter p)[((List.range i).filter p).length]? = some i
  | n + 1, hi => by
    rw [List.range_succ, List.filter_append]
    by_cases h : i = n
    · subst h
      rw [List.getElem?_append_right (Nat.le_refl _)]
      simp [hp]
    · have ih := filt_at hp (n := n) (by omega)
      rw [List.getElem?_append_left (List.getElem?_eq_some_iff.1 ih).1]; exact ih
theorem filt_succ {p : Nat → Bool} {i : Nat} : ((List.range (i + 1)).filter p).length = ((List.range i).filter p).length + if p i then 1 else 0 := by
  rw [List.range_succ, List.filter_append, List.length_append]
  cases h : p i <;> simp [h]
/-- A joint beneath a pose. -/
def benB (l : Lin) (L p : Int) (i : Nat) : Bool := decide (p < plaP l.bs i) && decide (plaP l.bs i < p + L)
def benL (l : Lin) (L p : Int) : List Nat := (List.range l.js.length).filter (benB l L p)
def benY (l : Lin) (L p : Int) : List (List AV) := (benL l L p).map fun (i : Nat) => [mA (i : Int)]
theorem benY_len (l : Lin) (L p : Int) : (benY l L p).length = (benL l L p).length := by simp [benY]
theorem benY_one {l : Lin} {L p : Int} : ∀ y ∈ benY l L p, y.length = 1 := by
  intro y hy
  obtain ⟨_, _, rfl⟩ := List.mem_map.1 hy; rfl
theorem benY_at {l : Lin} {L p j : Int} {i : Nat} (h0 : 0 ≤ j) (hj : j < l.js.length) (h1 : p < plaP l.bs j.toNat) (h2 : plaP l.bs j.toNat < p + L) (hi : i = ((List.range j.toNat).filter (benB l L p)).length) : (benY l L p)[i]? = some [.v (.int .i64 j)] := by
  subst hi
  unfold benY benL
  rw [List.getElem?_map, filt_at (by unfold benB; simp [h1, h2]) (by omega)]
  simp; omega
theorem benY_yes {l : Lin} {L p j : Int} (h0 : 0 ≤ j) (h1 : p < plaP l.bs j.toNat) (h2 : plaP l.bs j.toNat < p + L) : ((List.range (j + 1).toNat).filter (benB l L p)).length = ((List.range j.toNat).filter (benB l L p)).length + 1 := by
  rw [show (j + 1).toNat = j.toNat + 1 by omega, filt_succ, if_pos]
  unfold benB; simp [h1, h2]
theorem benY_no {l : Lin} {L p j : Int} (h0 : 0 ≤ j) (h : ¬ (p < plaP l.bs j.toNat ∧ plaP l.bs j.toNat < p + L)) : ((List.range (j + 1).toNat).filter (benB l L p)).length = ((List.range j.toNat).filter (benB l L p)).length := by
  rw [show (j + 1).toNat = j.toNat + 1 by omega, filt_succ, if_neg]; rfl
  unfold benB; simp; omega
theorem benY_of {l : Lin} {L p : Int} {i : Nat} {y : AV} (h : (benY l L p)[i]? = some [y]) : ∃ s : Nat, (benL l L p)[i]? = some s ∧ y = mA (s : Int) ∧ s < l.js.length ∧ p < plaP l.bs s ∧ plaP l.bs s < p + L := by
  unfold benY at h
  rw [List.getElem?_map] at h
  cases hs : (benL l L p)[i]? with
  | none => rw [hs] at h; cases h
  | some s =>
    rw [hs] at h
    simp only [Option.map_some, Option.some.injEq, List.cons.injEq, and_true] at h
    have hm := List.mem_of_getElem? hs
    unfold benL at hm
    rw [List.mem_filter] at hm
    obtain ⟨h1, h2⟩ := hm
    unfold benB at h2
    simp at h1 h2
    exact ⟨s, rfl, h.symm, h1, h2.1, h2.2⟩
set_option maxRecDepth 100000 in
set_option maxHeartbeats 4000000 in
theorem beneath1_gen (l : Lin) (h : Rgt l) (L c s p : Int) (hL : 1000 ≤ L ∧ L ≤ 30000) (hp : 0 ≤ p ∧ p ≤ 1200000) : GenOk Try.prog 130 [] [.ref [tkA l], .ref [mA p], .ref [mA L, mA c, mA s]] (benY l L p) := by
  refine gen_of (fn := Try.f130) 35 (by kernel_rfl) rfl (by kernel_rfl) (Nat.le_of_ble_eq_true rfl) (fun _ _ => ⟨.tuple #[], by kernel_rfl⟩) ?_
  intro lb_ e_0 hA
  have s0_0 : evA e_0 (.tmp 0) = _ := hA 0 _ rfl
  have s1_0 : evA e_0 (.tmp 1) = _ := hA 1 _ rfl
  have s2_0 : evA e_0 (.tmp 2) = _ := hA 2 _ rfl
  have s3_0 : evA e_0 (.tmp 3) = _ := hA 3 _ rfl
  clear hA
  have hn1 := h.n1; have hn0 := h.n0; have hjs := h.js; have hpl := plaL_len (bs := l.bs) (n := l.bs.length)
  refine iw_seq <| iw_text ?_
  refine il_ro (fun _ => (ro_eq (ro_ld_ref y26_ty124 rfl s1_0 (nle rfl)) (by simp only [pS, Value.cells, Nat.reduceAdd] <;> rfl))) trivial rfl ?_
  refine il_ro (fun _ => (ro_nilR up_h)) trivial rfl ?_
  refine il_ro (fun _ => (ro_eq (ro_fld_ref y26_fl141_1 rfl up_h) (by simp only [pS, Value.cells, Nat.reduceAdd] <;> rfl))) trivial rfl ?_
  refine il_ro (fun _ => (ro_eq (ro_ld_ref y26_ty49 rfl up_h (nle rfl)) (by simp only [pS, Value.cells, Nat.reduceAdd] <;> rfl))) trivial rfl ?_
  refine il_ro (fun _ => (ro_eq (ro_len_row up_h rfl y26_sl49.1) (by simp only [lnS] <;> rfl))) trivial rfl ?_
  refine il_ro (fun _ => (ro_move ev_c)) trivial rfl ?_
  refine il_end (fun e_1 he_1 => ?_)
  have s0_1 := ef 0 he_1 (u2 rfl (u4 rfl s0_0))
  have s2_1 := ef 2 he_1 (u2 rfl (u4 rfl s2_0))
  have s3_1 := ef 3 he_1 (u2 rfl (u4 rfl s3_0))
  have s10_1 := ef 10 he_1 (u2 rfl up_h)
  have s11_1 := ef 11 he_1 (up_m rfl up_h)
  have s12_1 := ef 12 he_1 up_h
  clear he_1 s0_0 s1_0 s2_0 s3_0
  refine theni_n <| iw_block <| iw_loop (S := Int) (fun j e b i => (evA e (.tmp 12) = .v (.int .i64 j)) ∧ (evA e (.tmp 0) = evA e_1 (.tmp 0)) ∧ (evA e (.tmp 2) = evA e_1 (.tmp 2)) ∧ (evA e (.tmp 3) = evA e_1 (.tmp 3)) ∧ (evA e (.tmp 10) = evA e_1 (.tmp 10)) ∧ (evA e (.tmp 11) = evA e_1 (.tmp 11)) ∧ (b = true) ∧ (i = ((List.range j.toNat).filter (benB l L p)).length) ∧ ((0 ≤ j ∧ j ≤ l.js.length))) (fun j => (l.js.length - j).toNat) _ ⟨s12_1, rfl, rfl, rfl, rfl, rfl, rfl, (by rfl), ?_⟩ ?_
  · (exact ⟨by omega, by omega⟩)
  · rintro j e_2 _ i_2 ⟨s12_2, k0_2, k2_2, k3_2, k10_2, k11_2, rfl, hix, hinv⟩
    have s0_2 := k0_2.trans s0_1
    have s2_2 := k2_2.trans s2_1
    have s3_2 := k3_2.trans s3_1
    have s10_2 := k10_2.trans s10_1
    have s11_2 := k11_2.trans s11_1
    (have p1 := hinv.1; have p2 := hinv.2)
    refine iw_seq <| iw_text ?_
    refine il_ro (fun _ => (ro_lss s12_2 s11_2)) trivial rfl ?_
    refine il_end (fun e_3 he_3 => ?_)
    have s0_3 := ef 0 he_3 (up_m rfl s0_2)
    have s2_3 := ef 2 he_3 (up_m rfl s2_2)
    have s3_3 := ef 3 he_3 (up_m rfl s3_2)
    have s10_3 := ef 10 he_3 (up_m rfl s10_2)
    have s11_3 := ef 11 he_3 (up_m rfl s11_2)
    have s12_3 := ef 12 he_3 (up_m rfl s12_2)
    have s13_3 := ef 13 he_3 up_h
    clear he_3 s0_2 s10_2 s11_2 s12_2 s2_2 s3_2
    refine theni_n <| iw_seq <| iw_case s13_3 (fun hq_4 => ?_) (fun hq_4 => ?_)
    ·replace hq_4 := bt hq_4
     (have hgj := plaL_get (bs := l.bs) (n := l.bs.length) (j := j.toNat) (by omega))
     refine iw_skip <| theni_n <| iw_seq <| iw_block <| iw_seq <| iw_text ?_
     refine il_ro (fun _ => (ro_move s12_3)) trivial rfl ?_
     refine il_ro (fun _ => (ro_eq (ro_ix y26_sl49 (up_m rfl s10_3) (up_m rfl s12_3) (by omega) (by first | (refine idx_map ?_; first | omega | (simp only [lnS]; omega)) | (refine idx_mapI ?_; first | omega | (simp only [lnS]; omega)) | (refine idx_mapN ?_; first | omega | (simp only [lnS]; omega)) | rfl)) (by simp only [pS, Value.cells, Nat.reduceAdd] <;> rfl))) trivial rfl ?_
     refine il_ro (fun _ => (ro_eq (ro_ld_ref y26_ty3 rfl up_h (nle rfl)) (by simp only [pS, Value.cells, Nat.reduceAdd] <;> rfl))) trivial rfl ?_
     refine il_ro (fun _ => (ro_assign (u2 rfl up_h))) trivial rfl ?_
     refine il_ro (fun _ => (ro_assign (up_m rfl up_h))) trivial rfl ?_
     refine il_end (fun e_5 he_5 => ?_)
     have s0_5 := ef 0 he_5 (up_m rfl (u4 rfl s0_3))
     have s2_5 := ef 2 he_5 (up_m rfl (u4 rfl s2_3))
     have s3_5 := ef 3 he_5 (up_m rfl (u4 rfl s3_3))
     have s5_5 := ef 5 he_5 (up_m rfl up_h)
     have s6_5 := ef 6 he_5 up_h
     have s10_5 := ef 10 he_5 (up_m rfl (u4 rfl s10_3))
     have s11_5 := ef 11 he_5 (up_m rfl (u4 rfl s11_3))
     have s12_5 := ef 12 he_5 (up_m rfl (u4 rfl s12_3))
     clear he_5 s0_3 s10_3 s11_3 s12_3 s13_3 s2_3 s3_3
     refine theni_n <| iw_seq <| iw_text ?_
     refine il_ro (fun _ => (ro_move s6_5)) trivial rfl ?_
     refine il_ro (fun _ => (ro_eq (ro_ld_ref y26_ty3 rfl (up_m rfl s2_5) (nle rfl)) (by simp only [pS, Value.cells, Nat.reduceAdd] <;> rfl))) trivial rfl ?_
     refine il_ro (fun _ => (ro_gtr (up_m rfl up_h) up_h)) trivial rfl ?_
     refine il_ro (fun _ => (ro_move up_h)) trivial rfl ?_
     refine il_case up_h (fun hb_6 hq_6 => ?_) (fun hb_6 hq_6 => ?_)
     ·replace hq_6 := bt hq_6
      refine il_ro (fun _ => (ro_move (u4 rfl s6_5))) ⟨_, rfl, hb_6⟩ rfl ?_
      refine il_ro (fun _ => (ro_eq (ro_ld_ref y26_ty3 rfl (up_m rfl (u4 rfl s2_5)) (nle rfl)) (by simp only [pS, Value.cells, Nat.reduceAdd] <;> rfl))) ⟨_, rfl, (up_m rfl hb_6)⟩ rfl ?_
      refine il_ro (fun _ => (ro_eq (ro_fld_ref y26_fl28_0 rfl (u2 rfl (u4 rfl s3_5))) (by simp only [pS, Value.cells, Nat.reduceAdd] <;> rfl))) ⟨_, rfl, (u2 rfl hb_6)⟩ rfl ?_
      refine il_ro (fun _ => (ro_eq (ro_ld_ref y26_ty3 rfl up_h (nle rfl)) (by simp only [pS, Value.cells, Nat.reduceAdd] <;> rfl))) ⟨_, rfl, (up_m rfl (u2 rfl hb_6))⟩ rfl ?_
      (refine il_ro (fun _ => (ro_add' (u2 rfl up_h) up_h ?_)) ⟨_, rfl, (u4 rfl hb_6)⟩ rfl ?_; · (unfold In64; omega))
      refine il_ro (fun _ => (ro_lss (u4 rfl up_h) up_h)) ⟨_, rfl, (up_m rfl (u4 rfl hb_6))⟩ rfl ?_
      refine il_ro (fun _ => (ro_pickT (u2 rfl (u4 rfl hb_6)) up_h)) trivial rfl ?_
      refine il_ro (fun _ => (ro_move up_h)) trivial rfl ?_
      refine il_case up_h (fun hb_7 hq_7 => ?_) (fun hb_7 hq_7 => ?_)
      ·replace hq_7 := bt hq_7
       refine il_ro (fun _ => (ro_move (u4 rfl (u8 rfl s0_5)))) ⟨_, rfl, hb_7⟩ rfl ?_
       refine il_ro (fun _ => (ro_move (up_m rfl (u4 rfl (u8 rfl s5_5))))) ⟨_, rfl, (up_m rfl hb_7)⟩ rfl ?_
       refine il_yield2 (up_m rfl up_h) (evL_cons up_h evL_nil) rfl ⟨_, rfl, (u2 rfl hb_7)⟩ rfl (by exact benY_at p1 (by omega) (by omega) (by omega) hix) ?_ ?_
       ·
         refine il_ro (fun _ => (ro_not up_h)) ⟨_, rfl, (up_m rfl (u2 rfl hb_7))⟩ rfl ?_
         refine il_ro (fun _ => (ro_pickT (u4 rfl hb_7) up_h)) trivial rfl ?_
         refine il_end (fun e_8 he_8 => ?_)
         have s0_8 := ef 0 he_8 (up_m rfl (u16 rfl s0_5))
         have s2_8 := ef 2 he_8 (up_m rfl (u16 rfl s2_5))
         have s3_8 := ef 3 he_8 (up_m rfl (u16 rfl s3_5))
         have s10_8 := ef 10 he_8 (up_m rfl (u16 rfl s10_5))
         have s11_8 := ef 11 he_8 (up_m rfl (u16 rfl s11_5))
         have s12_8 := ef 12 he_8 (up_m rfl (u16 rfl s12_5))
         have s33_8 := ef 33 he_8 up_h
         clear he_8 hb_6 hb_7 s0_5 s10_5 s11_5 s12_5 s2_5 s3_5 s5_5 s6_5
         refine theni_n <| iw_false s33_8 ?_
         refine iw_skip <| blocki_n <| theni_n <| iw_text ?_
         (refine il_ro (fun _ => (ro_add' s12_8 ev_c ?_)) trivial rfl ?_; · (unfold In64; omega))
         refine il_ro (fun _ => (ro_move up_h)) trivial rfl ?_
         refine il_end (fun e_10 he_10 => ?_)
         have s0_10 := ef 0 he_10 (u2 rfl s0_8)
         have s2_10 := ef 2 he_10 (u2 rfl s2_8)
         have s3_10 := ef 3 he_10 (u2 rfl s3_8)
         have s10_10 := ef 10 he_10 (u2 rfl s10_8)
         have s11_10 := ef 11 he_10 (u2 rfl s11_8)
         have s12_10 := ef 12 he_10 up_h
         clear he_10 s0_8 s10_8 s11_8 s12_8 s2_8 s33_8 s3_8
         refine theni_n <| ⟨_, ⟨s12_10, (s0_10.trans s0_1.symm), (s2_10.trans s2_1.symm), (s3_10.trans s3_1.symm), (s10_10.trans s10_1.symm), (s11_10.trans s11_1.symm), rfl, (by first | (rw [hix, benY_yes hinv.1 (by omega) (by omega)]; done) | (rw [hix, benY_no hinv.1 (by omega)]; done)), ?_⟩, ?_⟩
         · (exact ⟨by omega, by omega⟩)
         · ((try dsimp only); omega)
       ·
         refine il_ro (fun _ => (ro_not up_h)) ⟨_, rfl, (up_m rfl (u2 rfl hb_7))⟩ rfl ?_
         refine il_ro (fun _ => (ro_pickT (u4 rfl hb_7) up_h)) trivial rfl ?_
         refine il_end (fun e_11 he_11 => ?_)
         have s0_11 := ef 0 he_11 (up_m rfl (u16 rfl s0_5))
         have s2_11 := ef 2 he_11 (up_m rfl (u16 rfl s2_5))
         have s3_11 := ef 3 he_11 (up_m rfl (u16 rfl s3_5))
         have s10_11 := ef 10 he_11 (up_m rfl (u16 rfl s10_5))
         have s11_11 := ef 11 he_11 (up_m rfl (u16 rfl s11_5))
         have s12_11 := ef 12 he_11 (up_m rfl (u16 rfl s12_5))
         have s33_11 := ef 33 he_11 up_h
         clear he_11 hb_6 hb_7 s0_5 s10_5 s11_5 s12_5 s2_5 s3_5 s5_5 s6_5
         refine theni_n <| iw_true s33_11 ?_
         refine iw_ret <| blocki_r <| theni_r <| theni_r <| blocki_r <| gen_r (fun hb_ => (by cases hb_))
      replace hq_7 := bf hq_7
      refine il_skip ⟨_, rfl, .inl hb_7⟩ rfl ?_
      refine il_skip ⟨_, rfl, .inl (up_m rfl hb_7)⟩ rfl ?_
      refine il_skip ⟨_, rfl, .inl (u2 rfl hb_7)⟩ rfl ?_
      refine il_skip ⟨_, rfl, .inl (up_m rfl (u2 rfl hb_7))⟩ rfl ?_
      refine il_ro (fun _ => (ro_pickF (u4 rfl hb_7) ev_c)) trivial rfl ?_
      refine il_end (fun e_13 he_13 => ?_)
      have s0_13 := ef 0 he_13 (up_m rfl (u16 rfl s0_5))
      have s2_13 := ef 2 he_13 (up_m rfl (u16 rfl s2_5))
      have s3_13 := ef 3 he_13 (up_m rfl (u16 rfl s3_5))
      have s10_13 := ef 10 he_13 (up_m rfl (u16 rfl s10_5))
      have s11_13 := ef 11 he_13 (up_m rfl (u16 rfl s11_5))
      have s12_13 := ef 12 he_13 (up_m rfl (u16 rfl s12_5))
      have s33_13 := ef 33 he_13 up_h
      clear he_13 hb_6 hb_7 s0_5 s10_5 s11_5 s12_5 s2_5 s3_5 s5_5 s6_5
      refine theni_n <| iw_false s33_13 ?_
      refine iw_skip <| blocki_n <| theni_n <| iw_text ?_
      (refine il_ro (fun _ => (ro_add' s12_13 ev_c ?_)) trivial rfl ?_; · (unfold In64; omega))
      refine il_ro (fun _ => (ro_move up_h)) trivial rfl ?_
      refine il_end (fun e_15 he_15 => ?_)
      have s0_15 := ef 0 he_15 (u2 rfl s0_13)
      have s2_15 := ef 2 he_15 (u2 rfl s2_13)
      have s3_15 := ef 3 he_15 (u2 rfl s3_13)
      have s10_15 := ef 10 he_15 (u2 rfl s10_13)
      have s11_15 := ef 11 he_15 (u2 rfl s11_13)
      have s12_15 := ef 12 he_15 up_h
      clear he_15 s0_13 s10_13 s11_13 s12_13 s2_13 s33_13 s3_13
      refine theni_n <| ⟨_, ⟨s12_15, (s0_15.trans s0_1.symm), (s2_15.trans s2_1.symm), (s3_15.trans s3_1.symm), (s10_15.trans s10_1.symm), (s11_15.trans s11_1.symm), rfl, (by first | (rw [hix, benY_yes hinv.1 (by omega) (by omega)]; done) | (rw [hix, benY_no hinv.1 (by omega)]; done)), ?_⟩, ?_⟩
      · (exact ⟨by omega, by omega⟩)
      · ((try dsimp only); omega)
     replace hq_6 := bf hq_6
     refine il_skip ⟨_, rfl, .inl hb_6⟩ rfl ?_
     refine il_skip ⟨_, rfl, .inl (up_m rfl hb_6)⟩ rfl ?_
     refine il_skip ⟨_, rfl, .inl (u2 rfl hb_6)⟩ rfl ?_
     refine il_skip ⟨_, rfl, .inl (up_m rfl (u2 rfl hb_6))⟩ rfl ?_
     refine il_skip ⟨_, rfl, .inl (u4 rfl hb_6)⟩ rfl ?_
     refine il_skip ⟨_, rfl, .inl (up_m rfl (u4 rfl hb_6))⟩ rfl ?_
     refine il_ro (fun _ => (ro_pickF (u2 rfl (u4 rfl hb_6)) ev_c)) trivial rfl ?_
     refine il_ro (fun _ => (ro_move up_h)) trivial rfl ?_
     refine il_skip ⟨_, rfl, .inl up_h⟩ rfl ?_
     refine il_skip ⟨_, rfl, .inl (up_m rfl up_h)⟩ rfl ?_
     refine il_skip ⟨_, rfl, .inl (u2 rfl up_h)⟩ rfl ?_
     refine il_skip ⟨_, rfl, .inl (up_m rfl (u2 rfl up_h))⟩ rfl ?_
     refine il_ro (fun _ => (ro_pickF (u4 rfl up_h) ev_c)) trivial rfl ?_
     refine il_end (fun e_16 he_16 => ?_)
     have s0_16 := ef 0 he_16 (up_m rfl (u16 rfl s0_5))
     have s2_16 := ef 2 he_16 (up_m rfl (u16 rfl s2_5))
     have s3_16 := ef 3 he_16 (up_m rfl (u16 rfl s3_5))
     have s10_16 := ef 10 he_16 (up_m rfl (u16 rfl s10_5))
     have s11_16 := ef 11 he_16 (up_m rfl (u16 rfl s11_5))
     have s12_16 := ef 12 he_16 (up_m rfl (u16 rfl s12_5))
     have s33_16 := ef 33 he_16 up_h
     clear he_16 hb_6 s0_5 s10_5 s11_5 s12_5 s2_5 s3_5 s5_5 s6_5
     refine theni_n <| iw_false s33_16 ?_
     refine iw_skip <| blocki_n <| theni_n <| iw_text ?_
     (refine il_ro (fun _ => (ro_add' s12_16 ev_c ?_)) trivial rfl ?_; · (unfold In64; omega))
     refine il_ro (fun _ => (ro_move up_h)) trivial rfl ?_
     refine il_end (fun e_18 he_18 => ?_)
     have s0_18 := ef 0 he_18 (u2 rfl s0_16)
     have s2_18 := ef 2 he_18 (u2 rfl s2_16)
     have s3_18 := ef 3 he_18 (u2 rfl s3_16)
     have s10_18 := ef 10 he_18 (u2 rfl s10_16)
     have s11_18 := ef 11 he_18 (u2 rfl s11_16)
     have s12_18 := ef 12 he_18 up_h
     clear he_18 s0_16 s10_16 s11_16 s12_16 s2_16 s33_16 s3_16
     refine theni_n <| ⟨_, ⟨s12_18, (s0_18.trans s0_1.symm), (s2_18.trans s2_1.symm), (s3_18.trans s3_1.symm), (s10_18.trans s10_1.symm), (s11_18.trans s11_1.symm), rfl, (by first | (rw [hix, benY_yes hinv.1 (by omega) (by omega)]; done) | (rw [hix, benY_no hinv.1 (by omega)]; done)), ?_⟩, ?_⟩
     · (exact ⟨by omega, by omega⟩)
     · ((try dsimp only); omega)
    replace hq_4 := bf hq_4
    refine iw_exit <| theni_x <| theni_x <| blocki_hit ?_
    refine gen_n (fun hb_ => ?_)
    (first | (rw [hix, benY_len]; unfold benL; rw [show j.toNat = l.js.length by omega]; done))
set_option maxRecDepth 100000 in
set_option maxHeartbeats 4000000 in
theorem beneath_ok (l : Lin) (L c s p : Int) : FnOk Try.prog 72 [tkA l, vehA L c s, mA p] (fun q => q = .clo (.func 130) [] [.ref [tkA l], .ref [mA p], .ref [mA L, mA c, mA s]]) := by
  refine fnOk_of (fn := Try.f72) 8 (by kernel_rfl) rfl (by kernel_rfl) (Nat.le_of_ble_eq_true rfl) ?_
  intro e_0 m_0 hA hm_0
  have s0_0 : evA e_0 (.tmp 0) = _ := hA 0 _ rfl
  have s1_0 : evA e_0 (.tmp 1) = _ := hA 1 _ rfl
  have s2_0 : evA e_0 (.tmp 2) = _ := hA 2 _ rfl
  have ml_0 : m_0.length = 0 := by rw [hm_0]; rfl
  clear hA hm_0
  refine aw_seq <| at_ <| al_stm (st_box s0_0 rfl ml_0) trivial rfl (fun m_1 hm_1 => ?_)
  have mo0_1 := m_push hm_1 ml_0
  (first | (simp only [pS, Value.cells, Nat.reduceAdd] at mo0_1; trace "W2.N.1.1") | skip)
  have ml_1 := m_push_l hm_1 ml_0
  have ml_1 : _ = 1 := ml_1
  clear hm_1
  refine al_stm (st_box (up_m rfl s1_0) rfl ml_1) trivial rfl (fun m_2 hm_2 => ?_)
  have mo1_2 := m_push hm_2 ml_1
  (first | (simp only [pS, Value.cells, Nat.reduceAdd] at mo1_2; trace "W2.N.2.1") | skip)
  have mo0_2 := m_push_o hm_2 mo0_1
  have ml_2 := m_push_l hm_2 ml_1
  have ml_2 : _ = 2 := ml_2
  clear hm_2 mo0_1
  refine al_stm (st_box (u2 rfl s2_0) rfl ml_2) trivial rfl (fun m_3 hm_3 => ?_)
  have mo2_3 := m_push hm_3 ml_2
  (first | (simp only [pS, Value.cells, Nat.reduceAdd] at mo2_3; trace "W2.N.3.1") | skip)
  have mo1_3 := m_push_o hm_3 mo1_2
  have mo0_3 := m_push_o hm_3 mo0_2
  have ml_3 := m_push_l hm_3 ml_2
  have ml_3 : _ = 3 := ml_3
  clear hm_3 mo1_2 mo0_2
  refine ar (ro_assign ev_c) rfl <| ae3 (up_m rfl (u2 rfl up_h)) (u2 rfl up_h) (up_m rfl up_h) ?_; clear s0_0 s1_0 s2_0; intro e_4 s3_4 s4_4 s5_4
  refine then_n <| aw_seq <| at_ <| ar (ro_makeFunc evL_nil (evL_cons s3_4 (evL_cons s5_4 (evL_cons s4_4 evL_nil)))) rfl <| ar (ro_assign up_h) rfl <| ae1 up_h ?_; clear s3_4 s4_4 s5_4; intro e_5 s6_5
  refine then_n <| aw_ret <| ret1 (.inr rfl) (by kernel_rfl) (resV_tmp s6_5) (vw_clo vwl_nil (vwl_cons (vw_ptr mo0_3 (vwl_cons (.ro _ rfl) vwl_nil)) (vwl_cons (vw_ptr mo2_3 (vwl_cons (.ro _ rfl) vwl_nil)) (vwl_cons (vw_ptr mo1_3 (vwl_cons (.ro _ rfl) (vwl_cons (.ro _ rfl) (vwl_cons (.ro _ rfl) vwl_nil)))) vwl_nil)))) ?_
  clear s6_5 mo2_3 mo1_3 mo0_3 ml_3
  rfl
/-- Whether a joint is beneath a pose. -/
def benI (l : Lin) (L p j : Int) : Bool := decide (0 ≤ j) && decide (j < l.js.length) && benB l L p j.toNat
/-- A joint is none of the first ones beneath. -/
def Non (l : Lin) (L p j : Int) (i : Nat) : Prop := ∀ k : Nat, k < i → ∀ n : Nat, (benL l L p)[k]? = some n → (n : Int) ≠ j
theorem Non.step {l : Lin} {L p j : Int} {i n : Nat} (h : Non l L p j i) (hn : (benL l L p)[i]? = some n) (hne : ¬ (n : Int) = j) : Non l L p j (i + 1) := fun k hk m hm => by
  by_cases hki : k = i
  · subst hki; rw [hn] at hm; cases hm; exact hne
  · exact h k (by omega) m hm
theorem benI_yes {l : Lin} {L p j : Int} {n : Nat} (hj : (n : Int) = j) (n1 : n < l.js.length) (n2 : p < plaP l.bs n) (n3 : plaP l.bs n < p + L) : benI l L p j = true := by
  subst hj
  simp [benI, benB, n1, n2, n3]
theorem benI_no {l : Lin} {L p j : Int} (h : Non l L p j (benY l L p).length) : benI l L p j = false := by
  cases hb : benI l L p j with
  | false => rfl
  | true =>
    unfold benI at hb
    simp only [Bool.and_eq_true, decide_eq_true_eq] at hb
    obtain ⟨⟨h0, h1⟩, h2⟩ := hb
    have hm : j.toNat ∈ benL l L p := by
      unfold benL
      rw [List.mem_filter]
      exact ⟨List.mem_range.2 (by omega), h2⟩
    obtain ⟨k, hk⟩ := List.mem_iff_getElem?.1 hm
    have hlt := (List.getElem?_eq_some_iff.1 hk).1
    exact absurd (show ((j.toNat : Nat) : Int) = j by omega) (h k (by rw [benY_len]; exact hlt) _ hk)
set_option maxRecDepth 100000 in
set_option maxHeartbeats 4000000 in
theorem deviationAt_good (l : Lin) (hl : Sho l) (hg : (linM l).2 = 0) (L c s p j : Int) (hv : vehE L c s = 0) (hp : posE l L s p = 0) : FnOk Try.prog 68 [lnA l, vehA L c s, .agg [mA p, mA j]] (fun q => q = if benI l L p j then .tuple [.agg [mA (devLo l L p j.toNat), mA (devHi l L p j.toNat)], mA 0] else .tuple [.agg [mA 0, mA 0], mA 6]) := by
  refine fnOk_of (fn := Try.f68) 40 (by kernel_rfl) rfl (by kernel_rfl) (Nat.le_of_ble_eq_true rfl) ?_
  intro e_0 m_0 hA hm_0
  have s0_0 : evA e_0 (.tmp 0) = _ := hA 0 _ rfl
  have s1_0 : evA e_0 (.tmp 1) = _ := hA 1 _ rfl
  have s2_0 : evA e_0 (.tmp 2) = _ := hA 2 _ rfl
  have ml_0 : m_0.length = 0 := by rw [hm_0]; rfl
  clear hA hm_0
  have h := rgt_of hg; have hv2 := vehE_z.1 hv; have hp2 := posE_z.1 hp; have hpb := h.pla (n := l.bs.length) (Nat.le_refl _)
  refine aw_seq <| at_ <| al_stm (st_box s0_0 rfl ml_0) trivial rfl (fun m_1 hm_1 => ?_)
  have mo0_1 := m_push hm_1 ml_0
  have ml_1 := m_push_l hm_1 ml_0
  have ml_1 : _ = 1 := ml_1
  clear hm_1
  refine al_stm (st_box (up_m rfl s1_0) rfl ml_1) trivial rfl (fun m_2 hm_2 => ?_)
  have mo1_2 := m_push hm_2 ml_1
  have mo0_2 := m_push_o hm_2 mo0_1
  have ml_2 := m_push_l hm_2 ml_1
  have ml_2 : _ = 2 := ml_2
  clear hm_2 mo0_1
  refine al_stm (st_box (u2 rfl s2_0) rfl ml_2) trivial rfl (fun m_3 hm_3 => ?_)
  have mo2_3 := m_push hm_3 ml_2
  have mo1_3 := m_push_o hm_3 mo1_2
  have mo0_3 := m_push_o hm_3 mo0_2
  have ml_3 := m_push_l hm_3 ml_2
  have ml_3 : _ = 3 := ml_3
  clear hm_3 mo1_2 mo0_2
  refine al_stm (st_alloc y26_az39 rfl ml_3) trivial rfl (fun m_4 hm_4 => ?_)
  have mo3_4 := m_push hm_4 ml_3
  simp only [pS, Value.cells, Nat.reduceAdd] at mo3_4
  have mo2_4 := m_push_o hm_4 mo2_3
  have mo1_4 := m_push_o hm_4 mo1_3
  have mo0_4 := m_push_o hm_4 mo0_3
  have ml_4 := m_push_l hm_4 ml_3
  have ml_4 : _ = 4 := ml_4
  clear hm_4 mo2_3 mo1_3 mo0_3
  refine al_stm (st_alloc y26_az34 rfl ml_4) trivial rfl (fun m_5 hm_5 => ?_)
  have mo4_5 := m_push hm_5 ml_4
  simp only [pS, Value.cells, Nat.reduceAdd] at mo4_5
  have mo3_5 := m_push_o hm_5 mo3_4
  have mo2_5 := m_push_o hm_5 mo2_4
  have mo1_5 := m_push_o hm_5 mo1_4
  have mo0_5 := m_push_o hm_5 mo0_4
  have ml_5 := m_push_l hm_5 ml_4
  have ml_5 : _ = 5 := ml_5
  clear hm_5 mo3_4 mo2_4 mo1_4 mo0_4
  refine ae5 (u4 rfl up_h) (up_m rfl (u2 rfl up_h)) (u2 rfl up_h) (up_m rfl up_h) up_h ?_; clear s0_0 s1_0 s2_0; intro e_6 s3_6 s4_6 s5_6 s6_6 s7_6
  refine then_n <| aw_seq <| at_ <| ar (ro_eq (ro_ld_ptr y26_ty26 rfl mo0_5 s3_6 (nle rfl)) (by simp only [pS, Value.cells, Nat.reduceAdd] <;> rfl)) rfl ?_
  refine ar (ro_eq (ro_ld_ptr y26_ty28 rfl mo1_5 (up_m rfl s4_6) (nle rfl)) (by simp only [pS, Value.cells, Nat.reduceAdd] <;> rfl)) rfl ?_
  refine ar (ro_ixa y26_ar85 (u2 rfl s5_6) ev_c rfl) rfl <| ar (ro_eq (ro_ld_ptr y26_ty3 rfl mo2_5 up_h (nle rfl)) (by simp only [pS, Value.cells, Nat.reduceAdd] <;> rfl)) rfl ?_
  refine ar (ro_call (evL_cons (up_m rfl (u2 rfl up_h)) (evL_cons (u2 rfl up_h) (evL_cons up_h evL_nil))) rfl (openPose_good l hl hg L c s p hv) y26_hcf71) rfl <| ar (ro_move up_h) rfl <| ar (ro_extract up_h rfl) rfl <| ar (ro_extract (up_m rfl up_h) rfl) rfl <| al_stm (st_alloc y26_az124 rfl ml_5) trivial rfl (fun m_7 hm_7 => ?_)
  have mo5_7 := m_push hm_7 ml_5
  simp only [pS, Value.cells, Nat.reduceAdd] at mo5_7
  have mo4_7 := m_push_o hm_7 mo4_5
  have mo3_7 := m_push_o hm_7 mo3_5
  have mo2_7 := m_push_o hm_7 mo2_5
  have mo1_7 := m_push_o hm_7 mo1_5
  have mo0_7 := m_push_o hm_7 mo0_5
  have ml_7 := m_push_l hm_7 ml_5
  have ml_7 : _ = 6 := ml_7
  clear hm_7 mo4_5 mo3_5 mo2_5 mo1_5 mo0_5
  refine al_stm (st_store up_h (u2 rfl up_h) rfl rfl mo5_7 y26_sz124 rfl (nle rfl)) trivial rfl (fun m_8 hm_8 => ?_)
  have mo5_8 := m_set hm_8 mo5_7
  simp only [pS, Value.cells, Nat.reduceAdd] at mo5_8
  have mo4_8 := m_set_o hm_8 mo4_7 (by decide)
  have mo3_8 := m_set_o hm_8 mo3_7 (by decide)
  have mo2_8 := m_set_o hm_8 mo2_7 (by decide)
  have mo1_8 := m_set_o hm_8 mo1_7 (by decide)
  have mo0_8 := m_set_o hm_8 mo0_7 (by decide)
  have ml_8 := m_set_l hm_8 ml_7
  clear hm_8 mo5_7 mo4_7 mo3_7 mo2_7 mo1_7 mo0_7
  refine ar (ro_assign (up_n (up_m rfl up_h))) rfl <| ae6 (up_m rfl (up_n (up_m rfl (u8 rfl s4_6)))) (up_m rfl (up_n (up_m rfl (u8 rfl s5_6)))) (up_m rfl (up_n (up_m rfl (u8 rfl s6_6)))) (up_m rfl (up_n (up_m rfl (u8 rfl s7_6)))) (up_m rfl (up_n up_h)) up_h ?_; clear s3_6 s4_6 s5_6 s6_6 s7_6; intro e_9 s4_9 s5_9 s6_9 s7_9 s8_9 s9_9
  refine then_n <| aw_seq <| aw_seq <| at_ <| ar (ro_move s9_9) rfl <| ar (ro_neq up_h ev_c) rfl <| ae7 (u2 rfl s4_9) (u2 rfl s5_9) (u2 rfl s6_9) (u2 rfl s7_9) (u2 rfl s8_9) (u2 rfl s9_9) up_h ?_; clear s4_9 s5_9 s6_9 s7_9 s8_9 s9_9; intro e_10 s4_10 s5_10 s6_10 s7_10 s8_10 s9_10 s20_10
  refine then_n <| aw_case s20_10 (fun hq_11 => ?_) (fun hq_11 => ?_)
  · replace hq_11 := bnt hq_11; exfalso; omega
  replace hq_11 := bnf hq_11
  refine aw_skip <| then_n <| aw_seq <| aw_seq <| at_ <| ar (ro_eq (ro_ld_ptr y26_ty124 rfl mo5_8 s8_10 (nle rfl)) (by simp only [pS, Value.cells, Nat.reduceAdd] <;> rfl)) rfl ?_
  refine ar (ro_eq (ro_ld_ptr y26_ty28 rfl mo1_8 (up_m rfl s4_10) (nle rfl)) (by simp only [pS, Value.cells, Nat.reduceAdd] <;> rfl)) rfl ?_
  refine ar (ro_ixa y26_ar85 (u2 rfl s5_10) ev_c rfl) rfl <| ar (ro_eq (ro_ld_ptr y26_ty3 rfl mo2_8 up_h (nle rfl)) (by simp only [pS, Value.cells, Nat.reduceAdd] <;> rfl)) rfl ?_
  refine ar (ro_call (evL_cons (up_m rfl (u2 rfl up_h)) (evL_cons (u2 rfl up_h) (evL_cons up_h evL_nil))) rfl (beneath_ok l L c s p) y26_hcf72) rfl <| ae6 (up_m rfl (u4 rfl s4_10)) (up_m rfl (u4 rfl s5_10)) (up_m rfl (u4 rfl s6_10)) (up_m rfl (u4 rfl s7_10)) (up_m rfl (u4 rfl s8_10)) up_h ?_; clear s20_10 s4_10 s5_10 s6_10 s7_10 s8_10 s9_10; intro e_15 s4_15 s5_15 s6_15 s7_15 s8_15 s27_15
  refine then_n <| aw_block <| aw_range1 s27_15 (beneath1_gen l h L c s p hv2.1 (by omega)) y26_hcf130 (by exact benY_one) (Nat.le_of_ble_eq_true rfl) (fun i mem => (mem[5]? = m_8[5]?) ∧ (mem[4]? = m_8[4]?) ∧ (mem[3]? = m_8[3]?) ∧ (mem[2]? = m_8[2]?) ∧ (mem[1]? = m_8[1]?) ∧ (mem[0]? = m_8[0]?) ∧ (mem.length = 6) ∧ ((Non l L p j i))) ⟨rfl, rfl, rfl, rfl, rfl, rfl, ml_8, ?_⟩ ?_ ?_
  · (intro k hk; omega)
  · rintro i_16 y0_16 m_16 hy_16 ⟨mk5_16, mk4_16, mk3_16, mk2_16, mk1_16, mk0_16, ml_16, hinv⟩
    (obtain ⟨n, hn, rfl, n1, n2, n3⟩ := benY_of hy_16; have hq : Pos l L p n := ⟨by omega, by omega, by omega, by omega, by omega, by omega, n1⟩)
    have mo5_16 := mk5_16.trans mo5_8
    have mo4_16 := mk4_16.trans mo4_8
    have mo3_16 := mk3_16.trans mo3_8
    have mo2_16 := mk2_16.trans mo2_8
    have mo1_16 := mk1_16.trans mo1_8
    have mo0_16 := mk0_16.trans mo0_8
    refine aw_env (fun e_16 he_16 => ?_)
    have s4_16 := ef 4 he_16 (up_m rfl s4_15)
    have s5_16 := ef 5 he_16 (up_m rfl s5_15)
    have s6_16 := ef 6 he_16 (up_m rfl s6_15)
    have s7_16 := ef 7 he_16 (up_m rfl s7_15)
    have s8_16 := ef 8 he_16 (up_m rfl s8_15)
    have s27_16 := ef 27 he_16 (up_m rfl s27_15)
    have s28_16 := ef 28 he_16 up_h
    clear he_16
    refine at_ <| ar (ro_assign s28_16) rfl <| ae6 (up_m rfl s4_16) (up_m rfl s5_16) (up_m rfl s6_16) (up_m rfl s7_16) (up_m rfl s8_16) up_h ?_; clear s27_16 s28_16 s4_16 s5_16 s6_16 s7_16 s8_16; intro e_17 s4_17 s5_17 s6_17 s7_17 s8_17 s10_17
    refine fallb_n ?_
    refine aw_block <| aw_seq <| at_ <| ar (ro_move s10_17) rfl <| ar (ro_ixa y26_ar85 (up_m rfl s5_17) ev_c rfl) rfl <| ar (ro_eq (ro_ld_ptr y26_ty3 rfl mo2_16 up_h (nle rfl)) (by simp only [pS, Value.cells, Nat.reduceAdd] <;> rfl)) rfl ?_
    refine ar (ro_eql (u2 rfl up_h) up_h) rfl ?_
    refine ae7 (u4 rfl s4_17) (u4 rfl s5_17) (u4 rfl s6_17) (u4 rfl s7_17) (u4 rfl s8_17) (u4 rfl s10_17) up_h ?_; clear s10_17 s4_17 s5_17 s6_17 s7_17 s8_17; intro e_18 s4_18 s5_18 s6_18 s7_18 s8_18 s10_18 s32_18
    refine then_n <| aw_case s32_18 (fun hq_19 => ?_) (fun hq_19 => ?_)
    ·replace hq_19 := bt hq_19
     refine aw_seq <| at_ <| ar (ro_eq (ro_ld_ptr y26_ty124 rfl mo5_16 s8_18 (nle rfl)) (by simp only [pS, Value.cells, Nat.reduceAdd] <;> rfl)) rfl ?_
     refine ar (ro_eq (ro_ld_ptr y26_ty28 rfl mo1_16 (up_m rfl s4_18) (nle rfl)) (by simp only [pS, Value.cells, Nat.reduceAdd] <;> rfl)) rfl ?_
     refine ar (ro_ixa y26_ar85 (u2 rfl s5_18) ev_c rfl) rfl <| ar (ro_eq (ro_ld_ptr y26_ty3 rfl mo2_16 up_h (nle rfl)) (by simp only [pS, Value.cells, Nat.reduceAdd] <;> rfl)) rfl ?_
     refine ar (ro_move (u4 rfl s10_18)) rfl <| ar (ro_call (evL_cons (u4 rfl up_h) (evL_cons (up_m rfl (u2 rfl up_h)) (evL_cons (up_m rfl up_h) (evL_cons up_h evL_nil)))) rfl (deviation_ok l h L c s p n hq) y26_hcf74) rfl <| al_stm (st_store (u2 rfl (u4 rfl s6_18)) up_h rfl rfl mo3_16 y26_sz39 rfl (nle rfl)) trivial rfl (fun m_20 hm_20 => ?_)
     have mo3_20 := m_set hm_20 mo3_16
     simp only [pS, Value.cells, Nat.reduceAdd] at mo3_20
     have mo5_20 := m_set_o hm_20 mo5_16 (by decide)
     have mo4_20 := m_set_o hm_20 mo4_16 (by decide)
     have mo2_20 := m_set_o hm_20 mo2_16 (by decide)
     have mo1_20 := m_set_o hm_20 mo1_16 (by decide)
     have mo0_20 := m_set_o hm_20 mo0_16 (by decide)
     have ml_20 := m_set_l hm_20 ml_16
     clear hm_20 mo5_16 mo4_16 mo3_16 mo2_16 mo1_16 mo0_16
     refine al_stm (st_store (up_n (u2 rfl (u4 rfl s7_18))) ev_c rfl rfl mo4_20 y26_sz34 rfl (nle rfl)) trivial rfl (fun m_21 hm_21 => ?_)
     have mo4_21 := m_set hm_21 mo4_20
     simp only [pS, Value.cells, Nat.reduceAdd] at mo4_21
     have mo3_21 := m_set_o hm_21 mo3_20 (by decide)
     have mo5_21 := m_set_o hm_21 mo5_20 (by decide)
     have mo2_21 := m_set_o hm_21 mo2_20 (by decide)
     have mo1_21 := m_set_o hm_21 mo1_20 (by decide)
     have mo0_21 := m_set_o hm_21 mo0_20 (by decide)
     have ml_21 := m_set_l hm_21 ml_20
     clear hm_21 mo3_20 mo5_20 mo4_20 mo2_20 mo1_20 mo0_20
     refine ae2 (up_n (up_n (u2 rfl (u4 rfl s6_18)))) (up_n (up_n (u2 rfl (u4 rfl s7_18)))) ?_; clear s10_18 s32_18 s4_18 s5_18 s6_18 s7_18 s8_18; intro e_22 s6_22 s7_22
     refine then_n <| aw_ret <| block_r <| rnd_r <| block_r <| then_r <| ret2 (.inr rfl) (by kernel_rfl) (resV_cell s6_15 mo3_21 y26_ty39 (nle rfl) (by simp)) (resV_cell s7_15 mo4_21 y26_ty34 (nle rfl) (by simp)) (vw_r (.ro _ rfl)) (vw_c (.ro _ rfl)) ?_
     clear s27_15 s4_15 s5_15 s6_15 s7_15 s8_15 mo4_21 mo3_21 mo5_21 mo2_21 mo1_21 mo0_21 ml_21
     (have hj : (n : Int) = j := (by assumption); rw [if_pos (benI_yes hj n1 n2 n3), ← hj]; rfl)
    replace hq_19 := bf hq_19
    refine aw_skip <| block_n <| rnd_n ⟨(mo5_16.trans mo5_8.symm), (mo4_16.trans mo4_8.symm), (mo3_16.trans mo3_8.symm), (mo2_16.trans mo2_8.symm), (mo1_16.trans mo1_8.symm), (mo0_16.trans mo0_8.symm), ml_16, ?_⟩
    (exact hinv.step hn (by assumption))
  · rintro m_16 ⟨mk5_16, mk4_16, mk3_16, mk2_16, mk1_16, mk0_16, ml_16, hinv⟩
    have mo5_16 := mk5_16.trans mo5_8
    have mo4_16 := mk4_16.trans mo4_8
    have mo3_16 := mk3_16.trans mo3_8
    have mo2_16 := mk2_16.trans mo2_8
    have mo1_16 := mk1_16.trans mo1_8
    have mo0_16 := mk0_16.trans mo0_8
    refine block_n <| then_n <| aw_seq <| at_ <| ar (ro_build evP_nil y26_bz39 y26_bu39 y26_bp39 rfl) rfl ?_
    refine al_stm (st_store (up_m rfl s6_15) up_h rfl rfl mo3_16 y26_sz39 rfl (nle rfl)) trivial rfl (fun m_23 hm_23 => ?_)
    have mo3_23 := m_set hm_23 mo3_16
    simp only [pS, Value.cells, Nat.reduceAdd] at mo3_23
    have mo5_23 := m_set_o hm_23 mo5_16 (by decide)
    have mo4_23 := m_set_o hm_23 mo4_16 (by decide)
    have mo2_23 := m_set_o hm_23 mo2_16 (by decide)
    have mo1_23 := m_set_o hm_23 mo1_16 (by decide)
    have mo0_23 := m_set_o hm_23 mo0_16 (by decide)
    have ml_23 := m_set_l hm_23 ml_16
    clear hm_23 mo5_16 mo4_16 mo3_16 mo2_16 mo1_16 mo0_16
    refine al_stm (st_store (up_n (up_m rfl s7_15)) ev_c rfl rfl mo4_23 y26_sz34 rfl (nle rfl)) trivial rfl (fun m_24 hm_24 => ?_)
    have mo4_24 := m_set hm_24 mo4_23
    simp only [pS, Value.cells, Nat.reduceAdd] at mo4_24
    have mo3_24 := m_set_o hm_24 mo3_23 (by decide)
    have mo5_24 := m_set_o hm_24 mo5_23 (by decide)
    have mo2_24 := m_set_o hm_24 mo2_23 (by decide)
    have mo1_24 := m_set_o hm_24 mo1_23 (by decide)
    have mo0_24 := m_set_o hm_24 mo0_23 (by decide)
    have ml_24 := m_set_l hm_24 ml_23
    clear hm_24 mo3_23 mo5_23 mo4_23 mo2_23 mo1_23 mo0_23
    refine ae2 (up_n (up_n (up_m rfl s6_15))) (up_n (up_n (up_m rfl s7_15))) ?_; clear s27_15 s4_15 s5_15 s6_15 s7_15 s8_15; intro e_25 s6_25 s7_25
    refine then_n <| aw_ret <| ret2 (.inr rfl) (by kernel_rfl) (resV_cell s6_25 mo3_24 y26_ty39 (nle rfl) (by simp)) (resV_cell s7_25 mo4_24 y26_ty34 (nle rfl) (by simp)) (vw_r (.ro _ rfl)) (vw_c (.ro _ rfl)) ?_
    clear s6_25 s7_25 mo4_24 mo3_24 mo5_24 mo2_24 mo1_24 mo0_24 ml_24
    (rw [if_neg (by rw [benI_no hinv]; decide)]; rfl)
end Go.Proofs.Ytonjcljnpcmenaa

/- Contracts of chapter 1: deviations, as the document has them. No conditions on a program. -/
namespace Go.Proofs.Ytonjcljnpcmenaa
open Go Go.RowKit Go.Proofs
set_option linter.unusedSimpArgs false
set_option linter.unusedVariables false
theorem y36_fl28_0 : FldIs Try.prog 28 0 0 false 1 := by unfold FldIs; kernel_rfl
theorem y36_fl28_1 : FldIs Try.prog 28 1 1 false 1 := by unfold FldIs; kernel_rfl
theorem y36_fl28_2 : FldIs Try.prog 28 2 2 false 1 := by unfold FldIs; kernel_rfl
theorem y36_hcf30 : ∀ args w, (callFunc 30 args).run Try.prog w = .ok (.enter 30 args) w := fun _ _ => by kernel_rfl
theorem y36_ty3 : TyIs Try.prog 3 false 1 := ⟨by kernel_rfl, by kernel_rfl⟩
set_option maxRecDepth 100000 in
set_option maxHeartbeats 4000000 in
theorem rVehicleErr_ok (L c s : Int) : FnOk Try.prog 15 [vehA L c s] (fun q => q = mA (vehE L c s)) := by
  refine fnOk_of (fn := Try.f15) 19 (by kernel_rfl) rfl (by kernel_rfl) (Nat.le_of_ble_eq_true rfl) ?_
  intro e_0 m_0 hA hm_0
  have s0_0 : evA e_0 (.tmp 0) = _ := hA 0 _ rfl
  have ml_0 : m_0.length = 0 := by rw [hm_0]; rfl
  clear hA hm_0
  refine aw_seq <| at_ <| al_stm (st_box s0_0 rfl ml_0) trivial rfl (fun m_1 hm_1 => ?_)
  have mo0_1 := m_push hm_1 ml_0
  have ml_1 := m_push_l hm_1 ml_0
  have ml_1 : _ = 1 := ml_1
  clear hm_1
  refine ar (ro_assign ev_c) rfl <| ae1 (up_m rfl up_h) ?_; clear s0_0; intro e_2 s1_2
  refine then_n <| aw_seq <| aw_seq <| at_ <| ar (ro_fld_ptr y36_fl28_0 rfl s1_2) rfl <| ar (ro_eq (ro_ld_ptr y36_ty3 rfl mo0_1 up_h (nle rfl)) (by simp only [pS, Value.cells, Nat.reduceAdd] <;> rfl)) rfl ?_
  refine ar (ro_call (evL_cons up_h (evL_cons ev_c (evL_cons ev_c evL_nil))) rfl (bWithin_ok _ _ _) y36_hcf30) rfl <| ar (ro_not up_h) rfl <| ar (ro_move up_h) rfl <| al_case up_h (fun hb_3 hq_3 => ?_) (fun hb_3 hq_3 => ?_)
  ·replace hq_3 := bt' hq_3
   refine al_skip' ⟨_, rfl, .inl hb_3⟩ rfl ?_
   refine al_skip' ⟨_, rfl, .inl (up_m rfl hb_3)⟩ rfl ?_
   refine al_skip' ⟨_, rfl, .inl (u2 rfl hb_3)⟩ rfl ?_
   refine al_skip' ⟨_, rfl, .inl (up_m rfl (u2 rfl hb_3))⟩ rfl ?_
   refine ar (ro_pickT (u4 rfl hb_3) ev_c) rfl <| ar (ro_move up_h) rfl <| al_skip' ⟨_, rfl, .inl up_h⟩ rfl ?_
   refine al_skip' ⟨_, rfl, .inl (up_m rfl up_h)⟩ rfl ?_
   refine al_skip' ⟨_, rfl, .inl (u2 rfl up_h)⟩ rfl ?_
   refine al_skip' ⟨_, rfl, .inl (up_m rfl (u2 rfl up_h))⟩ rfl ?_
   refine ar (ro_pickT (u4 rfl up_h) ev_c) rfl <| ae1 up_h ?_; clear hb_3 s1_2; intro e_4 s18_4
   refine then_n <| aw_true s18_4 <| aw_seq <| at_ <| ar (ro_assign ev_c) rfl <| ae1 up_h ?_; clear s18_4; intro e_6 s2_6
   refine then_n <| aw_ret <| then_r <| ret1 (.inr rfl) (by kernel_rfl) (resV_tmp s2_6) (.ro _ rfl) ?_
   clear s2_6 mo0_1 ml_1
   (unfold vehE unlessE; simp_all)
  replace hq_3 := bf' hq_3
  refine al_ro' (ro_fld_ptr y36_fl28_1 rfl (up_m rfl (u4 rfl s1_2))) ⟨_, rfl, hb_3⟩ rfl ?_
  refine al_ro' (ro_eq (ro_ld_ptr y36_ty3 rfl mo0_1 up_h (nle rfl)) (by simp only [pS, Value.cells, Nat.reduceAdd] <;> rfl)) ⟨_, rfl, (up_m rfl hb_3)⟩ rfl ?_
  refine al_ro' (ro_call (evL_cons up_h (evL_cons ev_c (evL_cons ev_c evL_nil))) rfl (bWithin_ok _ _ _) y36_hcf30) ⟨_, rfl, (u2 rfl hb_3)⟩ rfl ?_
  refine al_ro' (ro_not up_h) ⟨_, rfl, (up_m rfl (u2 rfl hb_3))⟩ rfl ?_
  refine ar (ro_pickF (u4 rfl hb_3) up_h) rfl <| ar (ro_move up_h) rfl <| al_case up_h (fun hb_7 hq_7 => ?_) (fun hb_7 hq_7 => ?_)
  ·replace hq_7 := bt' hq_7
   refine al_skip' ⟨_, rfl, .inl hb_7⟩ rfl ?_
   refine al_skip' ⟨_, rfl, .inl (up_m rfl hb_7)⟩ rfl ?_
   refine al_skip' ⟨_, rfl, .inl (u2 rfl hb_7)⟩ rfl ?_
   refine al_skip' ⟨_, rfl, .inl (up_m rfl (u2 rfl hb_7))⟩ rfl ?_
   refine ar (ro_pickT (u4 rfl hb_7) ev_c) rfl <| ae1 up_h ?_; clear hb_3 hb_7 s1_2; intro e_8 s18_8
   refine then_n <| aw_true s18_8 <| aw_seq <| at_ <| ar (ro_assign ev_c) rfl <| ae1 up_h ?_; clear s18_8; intro e_10 s2_10
   refine then_n <| aw_ret <| then_r <| ret1 (.inr rfl) (by kernel_rfl) (resV_tmp s2_10) (.ro _ rfl) ?_
   clear s2_10 mo0_1 ml_1
   (unfold vehE unlessE; simp_all)
  replace hq_7 := bf' hq_7
  refine al_ro' (ro_fld_ptr y36_fl28_2 rfl (up_m rfl (u2 rfl (u8 rfl s1_2)))) ⟨_, rfl, hb_7⟩ rfl ?_
  refine al_ro' (ro_eq (ro_ld_ptr y36_ty3 rfl mo0_1 up_h (nle rfl)) (by simp only [pS, Value.cells, Nat.reduceAdd] <;> rfl)) ⟨_, rfl, (up_m rfl hb_7)⟩ rfl ?_
  refine al_ro' (ro_call (evL_cons up_h (evL_cons ev_c (evL_cons ev_c evL_nil))) rfl (bWithin_ok _ _ _) y36_hcf30) ⟨_, rfl, (u2 rfl hb_7)⟩ rfl ?_
  refine al_ro' (ro_not up_h) ⟨_, rfl, (up_m rfl (u2 rfl hb_7))⟩ rfl ?_
  refine ar (ro_pickF (u4 rfl hb_7) up_h) rfl <| ae1 up_h ?_; clear hb_3 hb_7 s1_2; intro e_11 s18_11
  refine then_n <| aw_case s18_11 (fun hq_12 => ?_) (fun hq_12 => ?_)
  ·replace hq_12 := bt' hq_12
   refine aw_seq <| at_ <| ar (ro_assign ev_c) rfl <| ae1 up_h ?_; clear s18_11; intro e_13 s2_13
   refine then_n <| aw_ret <| then_r <| ret1 (.inr rfl) (by kernel_rfl) (resV_tmp s2_13) (.ro _ rfl) ?_
   clear s2_13 mo0_1 ml_1
   (unfold vehE unlessE; simp_all)
  replace hq_12 := bf' hq_12
  refine aw_skip <| then_n <| aw_seq <| at_ <| ar (ro_assign ev_c) rfl <| ae1 up_h ?_; clear s18_11; intro e_14 s2_14
  refine then_n <| aw_ret <| ret1 (.inr rfl) (by kernel_rfl) (resV_tmp s2_14) (.ro _ rfl) ?_
  clear s2_14 mo0_1 ml_1
  (unfold vehE unlessE; simp_all)
end Go.Proofs.Ytonjcljnpcmenaa

/- Contracts of chapter 1: the places of all poses; whether a pose is clear. No conditions on a program. -/
namespace Go.Proofs.Ytonjcljnpcmenaa
open Go Go.RowKit Go.Proofs
set_option linter.unusedSimpArgs false
set_option linter.unusedVariables false
theorem y39_fl28_0 : FldIs Try.prog 28 0 0 false 1 := by unfold FldIs; kernel_rfl
theorem y39_fl28_1 : FldIs Try.prog 28 1 1 false 1 := by unfold FldIs; kernel_rfl
theorem y39_fl28_2 : FldIs Try.prog 28 2 2 false 1 := by unfold FldIs; kernel_rfl
theorem y39_fl39_0 : FldIs Try.prog 39 0 0 false 1 := by unfold FldIs; kernel_rfl
theorem y39_fl39_1 : FldIs Try.prog 39 1 1 false 1 := by unfold FldIs; kernel_rfl
theorem y39_hcf98 : ∀ args w, (callFunc 98 args).run Try.prog w = .ok (.enter 98 args) w := fun _ _ => by kernel_rfl
theorem y39_ty124 : TyIs Try.prog 124 false 1 := ⟨by kernel_rfl, by kernel_rfl⟩
theorem y39_ty3 : TyIs Try.prog 3 false 1 := ⟨by kernel_rfl, by kernel_rfl⟩

/-- How many poses there are, their places. -/
def posN (l : Lin) (L s : Int) : Nat := ((plaP l.bs l.bs.length - L) / s + 1).toNat
def posY (l : Lin) (L s : Int) : List (List AV) := (List.range (posN l L s)).map fun (i : Nat) => [mA ((i : Int) * s)]
theorem posY_len {l : Lin} {L s : Int} : (posY l L s).length = posN l L s := by simp [posY]
theorem posY_one {l : Lin} {L s : Int} : ∀ y ∈ posY l L s, y.length = 1 := by
  intro y hy
  obtain ⟨_, _, rfl⟩ := List.mem_map.1 hy; rfl
theorem pos_lt {l : Lin} {L s : Int} (hs : 1 ≤ s) (k : Nat) : k < posN l L s ↔ (k : Int) * s + L ≤ plaP l.bs l.bs.length := by
  unfold posN
  have h : (k : Int) ≤ (plaP l.bs l.bs.length - L) / s ↔ (k : Int) * s ≤ plaP l.bs l.bs.length - L := Int.le_ediv_iff_mul_le (by omega)
  constructor
  · intro h1; have := h.1 (by omega); omega
  · intro h1; have := h.2 (by omega); omega
theorem posY_at {l : Lin} {L s : Int} {k i : Nat} (hk : k < posN l L s) (hi : i = k) : (posY l L s)[i]? = some [mA ((k : Int) * s)] := by
  subst hi
  simp [posY, hk]
theorem posY_of {l : Lin} {L s : Int} {i : Nat} {y : AV} (h : (posY l L s)[i]? = some [y]) : i < posN l L s ∧ y = mA ((i : Int) * s) := by
  unfold posY at h
  rw [List.getElem?_map] at h
  by_cases hi : i < posN l L s
  · rw [List.getElem?_range hi] at h
    simp at h
    exact ⟨hi, h.symm⟩
  · rw [List.getElem?_eq_none (by simp; omega)] at h; cases h
set_option maxRecDepth 100000 in
set_option maxHeartbeats 4000000 in
theorem poses1_gen (l : Lin) (h : Rgt l) (L c u : Int) (hL : 1000 ≤ L ∧ L ≤ 30000) (hu : 1 ≤ u ∧ u ≤ 30000) : GenOk Try.prog 134 [] [.ref [mA L, mA c, mA u], .ref [tkA l]] (posY l L u) := by
  refine gen_of (fn := Try.f134) 21 (by kernel_rfl) rfl (by kernel_rfl) (Nat.le_of_ble_eq_true rfl) (fun _ _ => ⟨.tuple #[], by kernel_rfl⟩) ?_
  intro lb_ e_0 hA
  have s0_0 : evA e_0 (.tmp 0) = _ := hA 0 _ rfl
  have s1_0 : evA e_0 (.tmp 1) = _ := hA 1 _ rfl
  have s2_0 : evA e_0 (.tmp 2) = _ := hA 2 _ rfl
  clear hA
  have hpb := h.pla (n := l.bs.length) (Nat.le_refl _)
  refine iw_seq <| iw_text ?_
  refine il_ro (fun _ => (ro_assign ev_c)) trivial rfl ?_
  refine il_end (fun e_1 he_1 => ?_)
  have s0_1 := ef 0 he_1 (up_m rfl s0_0)
  have s1_1 := ef 1 he_1 (up_m rfl s1_0)
  have s2_1 := ef 2 he_1 (up_m rfl s2_0)
  have s4_1 := ef 4 he_1 up_h
  clear he_1 s0_0 s1_0 s2_0
  refine theni_n <| iw_block <| iw_loop (S := (Int × Nat)) (fun s e b i => match s with | ⟨p, k⟩ => (evA e (.tmp 4) = .v (.int .i64 p)) ∧ (evA e (.tmp 0) = evA e_1 (.tmp 0)) ∧ (evA e (.tmp 1) = evA e_1 (.tmp 1)) ∧ (evA e (.tmp 2) = evA e_1 (.tmp 2)) ∧ (b = true) ∧ (i = k) ∧ ((p = (k : Int) * u ∧ 0 ≤ p ∧ p ≤ 1300000 ∧ k ≤ posN l L u))) (fun s => match s with | ⟨p, k⟩ => (1300000 - p).toNat) ⟨_, 0⟩ ⟨s4_1, rfl, rfl, rfl, rfl, (by rfl), ?_⟩ ?_
  · (exact ⟨by omega, by omega, by omega, by omega⟩)
  · rintro ⟨p, k⟩ e_2 _ i_2 ⟨s4_2, k0_2, k1_2, k2_2, rfl, hix, hinv⟩
    have s0_2 := k0_2.trans s0_1
    have s1_2 := k1_2.trans s1_1
    have s2_2 := k2_2.trans s2_1
    (obtain ⟨q1, q2, q3, q4⟩ := hinv)
    refine iw_seq <| iw_seq <| iw_draw 10 (by kernel_rfl) (by kernel_rfl) (by kernel_rfl) (by kernel_rfl) ?_
    refine dsi_ro' (fun _ => (ro_move s4_2)) trivial rfl ?_
    refine dsi_ro' (fun _ => (ro_eq (ro_fld_ref y39_fl28_0 rfl (up_m rfl s1_2)) (by simp only [pS, Value.cells, Nat.reduceAdd] <;> rfl))) trivial rfl ?_
    refine dsi_ro' (fun _ => (ro_eq (ro_ld_ref y39_ty3 rfl up_h (nle rfl)) (by simp only [pS, Value.cells, Nat.reduceAdd] <;> rfl))) trivial rfl ?_
    (refine dsi_ro' (fun _ => (ro_add' (u2 rfl up_h) up_h ?_)) trivial rfl ?_; · (unfold In64; omega))
    refine dsi_ro' (fun _ => (ro_eq (ro_ld_ref y39_ty124 rfl (u4 rfl s2_2) (nle rfl)) (by simp only [pS, Value.cells, Nat.reduceAdd] <;> rfl))) trivial rfl ?_
    refine dsi_ro' (fun _ => (ro_call (evL_cons up_h evL_nil) rfl (length_ok l h) y39_hcf98)) trivial rfl ?_
    refine dsi_ro' (fun _ => (ro_leq (u2 rfl up_h) up_h)) trivial rfl ?_
    refine dsi_ro' (fun _ => (ro_move up_h)) trivial rfl ?_
    refine dsi_case up_h (fun hb_3 hq_3 => ?_) (fun hb_3 hq_3 => ?_)
    ·replace hq_3 := bt hq_3
     refine dsi_ro' (fun _ => (ro_move (u8 rfl s0_2))) ⟨_, rfl, hb_3⟩ rfl ?_
     refine dsi_ro' (fun _ => (ro_move (up_m rfl (u8 rfl s4_2)))) ⟨_, rfl, (up_m rfl hb_3)⟩ rfl ?_
     refine dsi_nil ?_
     refine il_yield2 (up_m rfl up_h) (evL_cons up_h evL_nil) rfl ⟨_, rfl, (u2 rfl hb_3)⟩ rfl (by (rw [q1]; exact posY_at ((pos_lt hu.1 k).2 (by omega)) hix)) ?_ ?_
     ·
       refine il_ro (fun _ => (ro_pickT (up_m rfl (u2 rfl hb_3)) up_h)) trivial rfl ?_
       refine il_end (fun e_4 he_4 => ?_)
       have s0_4 := ef 0 he_4 (u4 rfl (u8 rfl s0_2))
       have s1_4 := ef 1 he_4 (u4 rfl (u8 rfl s1_2))
       have s2_4 := ef 2 he_4 (u4 rfl (u8 rfl s2_2))
       have s4_4 := ef 4 he_4 (u4 rfl (u8 rfl s4_2))
       have s16_4 := ef 16 he_4 up_h
       clear he_4 hb_3 s0_2 s1_2 s2_2 s4_2
       refine theni_n <| iw_true s16_4 ?_
       refine iw_skip <| theni_n <| iw_seq <| iw_block <| iw_skip <| blocki_n <| theni_n <| iw_text ?_
       refine il_ro (fun _ => (ro_move s4_4)) trivial rfl ?_
       refine il_ro (fun _ => (ro_eq (ro_fld_ref y39_fl28_2 rfl (up_m rfl s1_4)) (by simp only [pS, Value.cells, Nat.reduceAdd] <;> rfl))) trivial rfl ?_
       refine il_ro (fun _ => (ro_eq (ro_ld_ref y39_ty3 rfl up_h (nle rfl)) (by simp only [pS, Value.cells, Nat.reduceAdd] <;> rfl))) trivial rfl ?_
       (refine il_ro (fun _ => (ro_add' (u2 rfl up_h) up_h ?_)) trivial rfl ?_; · (unfold In64; omega))
       refine il_ro (fun _ => (ro_assign up_h)) trivial rfl ?_
       refine il_end (fun e_6 he_6 => ?_)
       have s0_6 := ef 0 he_6 (up_m rfl (u4 rfl s0_4))
       have s1_6 := ef 1 he_6 (up_m rfl (u4 rfl s1_4))
       have s2_6 := ef 2 he_6 (up_m rfl (u4 rfl s2_4))
       have s4_6 := ef 4 he_6 up_h
       clear he_6 s0_4 s16_4 s1_4 s2_4 s4_4
       refine theni_n <| ⟨⟨_, k + 1⟩, ⟨s4_6, (s0_6.trans s0_1.symm), (s1_6.trans s1_1.symm), (s2_6.trans s2_1.symm), rfl, (by (rw [hix])), ?_⟩, ?_⟩
       · (have hk := (pos_lt (l := l) (L := L) hu.1 k).2 (by omega); refine ⟨?_, by omega, by omega, by omega⟩; rw [q1]; show _ = ((k : Int) + 1) * u; rw [Int.add_mul, Int.one_mul])
       · ((try dsimp only); omega)
     ·
       refine il_ro (fun _ => (ro_pickT (up_m rfl (u2 rfl hb_3)) up_h)) trivial rfl ?_
       refine il_end (fun e_7 he_7 => ?_)
       have s0_7 := ef 0 he_7 (u4 rfl (u8 rfl s0_2))
       have s1_7 := ef 1 he_7 (u4 rfl (u8 rfl s1_2))
       have s2_7 := ef 2 he_7 (u4 rfl (u8 rfl s2_2))
       have s4_7 := ef 4 he_7 (u4 rfl (u8 rfl s4_2))
       have s16_7 := ef 16 he_7 up_h
       clear he_7 hb_3 s0_2 s1_2 s2_2 s4_2
       refine theni_n <| iw_false s16_7 ?_
       refine iw_exit <| theni_x <| theni_x <| blocki_hit ?_
       refine gen_n (fun hb_ => (by cases hb_))
    replace hq_3 := bf hq_3
    refine dsi_skip' ⟨_, rfl, .inl hb_3⟩ rfl ?_
    refine dsi_skip' ⟨_, rfl, .inl (up_m rfl hb_3)⟩ rfl ?_
    refine dsi_nil ?_
    refine il_skip ⟨_, rfl, .inl (u2 rfl hb_3)⟩ rfl ?_
    refine il_ro (fun _ => (ro_pickF (up_m rfl (u2 rfl hb_3)) ev_c)) trivial rfl ?_
    refine il_end (fun e_9 he_9 => ?_)
    have s0_9 := ef 0 he_9 (u4 rfl (u8 rfl s0_2))
    have s1_9 := ef 1 he_9 (u4 rfl (u8 rfl s1_2))
    have s2_9 := ef 2 he_9 (u4 rfl (u8 rfl s2_2))
    have s4_9 := ef 4 he_9 (u4 rfl (u8 rfl s4_2))
    have s16_9 := ef 16 he_9 up_h
    clear he_9 hb_3 s0_2 s1_2 s2_2 s4_2
    refine theni_n <| iw_false s16_9 ?_
    refine iw_exit <| theni_x <| theni_x <| blocki_hit ?_
    refine gen_n (fun hb_ => ?_)
    (rw [hix, posY_len]; have hn : ¬ k < posN l L u := (fun hh => by have := (pos_lt hu.1 k).1 hh; omega); omega)
set_option maxRecDepth 100000 in
set_option maxHeartbeats 4000000 in
theorem poses_ok (l : Lin) (L c u : Int) : FnOk Try.prog 79 [tkA l, vehA L c u] (fun q => q = .clo (.func 134) [] [.ref [mA L, mA c, mA u], .ref [tkA l]]) := by
  refine fnOk_of (fn := Try.f79) 6 (by kernel_rfl) rfl (by kernel_rfl) (Nat.le_of_ble_eq_true rfl) ?_
  intro e_0 m_0 hA hm_0
  have s0_0 : evA e_0 (.tmp 0) = _ := hA 0 _ rfl
  have s1_0 : evA e_0 (.tmp 1) = _ := hA 1 _ rfl
  have ml_0 : m_0.length = 0 := by rw [hm_0]; rfl
  clear hA hm_0
  refine aw_seq <| at_ <| al_stm (st_box s0_0 rfl ml_0) trivial rfl (fun m_1 hm_1 => ?_)
  have mo0_1 := m_push hm_1 ml_0
  (first | (simp only [pS, Value.cells, Nat.reduceAdd] at mo0_1; trace "W2.N.1.1") | skip)
  have ml_1 := m_push_l hm_1 ml_0
  have ml_1 : _ = 1 := ml_1
  clear hm_1
  refine al_stm (st_box (up_m rfl s1_0) rfl ml_1) trivial rfl (fun m_2 hm_2 => ?_)
  have mo1_2 := m_push hm_2 ml_1
  (first | (simp only [pS, Value.cells, Nat.reduceAdd] at mo1_2; trace "W2.N.2.1") | skip)
  have mo0_2 := m_push_o hm_2 mo0_1
  have ml_2 := m_push_l hm_2 ml_1
  have ml_2 : _ = 2 := ml_2
  clear hm_2 mo0_1
  refine ar (ro_assign ev_c) rfl <| ae2 (u2 rfl up_h) (up_m rfl up_h) ?_; clear s0_0 s1_0; intro e_3 s2_3 s3_3
  refine then_n <| aw_seq <| at_ <| ar (ro_makeFunc evL_nil (evL_cons s3_3 (evL_cons s2_3 evL_nil))) rfl <| ar (ro_assign up_h) rfl <| ae1 up_h ?_; clear s2_3 s3_3; intro e_4 s4_4
  refine then_n <| aw_ret <| ret1 (.inr rfl) (by kernel_rfl) (resV_tmp s4_4) (vw_clo vwl_nil (vwl_cons (vw_ptr mo1_2 (vwl_cons (.ro _ rfl) (vwl_cons (.ro _ rfl) (vwl_cons (.ro _ rfl) vwl_nil)))) (vwl_cons (vw_ptr mo0_2 (vwl_cons (.ro _ rfl) vwl_nil)) vwl_nil))) ?_
  clear s4_4 mo1_2 mo0_2 ml_2
  rfl
/-- Whether a deviation is clear: 2 yes, 1 maybe, 0 no. -/
def ansV (c lo hi : Int) : Int := if -c ≤ lo ∧ hi ≤ c then 2 else if hi < -c ∨ c < lo then 0 else 1
set_option maxRecDepth 100000 in
set_option maxHeartbeats 4000000 in
theorem answer_ok (L c u lo hi : Int) (hc : 0 ≤ c ∧ c ≤ 1000) : FnOk Try.prog 73 [vehA L c u, .agg [mA lo, mA hi]] (fun q => q = mA (ansV c lo hi)) := by
  refine fnOk_of (fn := Try.f73) 31 (by kernel_rfl) rfl (by kernel_rfl) (Nat.le_of_ble_eq_true rfl) ?_
  intro e_0 m_0 hA hm_0
  have s0_0 : evA e_0 (.tmp 0) = _ := hA 0 _ rfl
  have s1_0 : evA e_0 (.tmp 1) = _ := hA 1 _ rfl
  have ml_0 : m_0.length = 0 := by rw [hm_0]; rfl
  clear hA hm_0
  refine aw_seq <| at_ <| al_stm (st_box s0_0 rfl ml_0) trivial rfl (fun m_1 hm_1 => ?_)
  have mo0_1 := m_push hm_1 ml_0
  have ml_1 := m_push_l hm_1 ml_0
  have ml_1 : _ = 1 := ml_1
  clear hm_1
  refine al_stm (st_box (up_m rfl s1_0) rfl ml_1) trivial rfl (fun m_2 hm_2 => ?_)
  have mo1_2 := m_push hm_2 ml_1
  have mo0_2 := m_push_o hm_2 mo0_1
  have ml_2 := m_push_l hm_2 ml_1
  have ml_2 : _ = 2 := ml_2
  clear hm_2 mo0_1
  refine ar (ro_assign ev_c) rfl <| ae2 (u2 rfl up_h) (up_m rfl up_h) ?_; clear s0_0 s1_0; intro e_3 s2_3 s3_3
  refine then_n <| aw_seq <| aw_block <| aw_seq <| at_ <| ar (ro_fld_ptr y39_fl39_0 rfl s3_3) rfl <| ar (ro_eq (ro_ld_ptr y39_ty3 rfl mo1_2 up_h (nle rfl)) (by simp only [pS, Value.cells, Nat.reduceAdd] <;> rfl)) rfl ?_
  refine ar (ro_fld_ptr y39_fl28_1 rfl (u2 rfl s2_3)) rfl <| ar (ro_eq (ro_ld_ptr y39_ty3 rfl mo0_2 up_h (nle rfl)) (by simp only [pS, Value.cells, Nat.reduceAdd] <;> rfl)) rfl ?_
  (refine ar (ro_neg' up_h ?_) rfl ?_; · (unfold In64; omega))
  refine ar (ro_geq (up_m rfl (u2 rfl up_h)) up_h) rfl <| ar (ro_move up_h) rfl <| al_case up_h (fun hb_4 hq_4 => ?_) (fun hb_4 hq_4 => ?_)
  ·replace hq_4 := bt hq_4
   refine al_ro' (ro_fld_ptr y39_fl39_1 rfl (up_m rfl (u2 rfl (u4 rfl s3_3)))) ⟨_, rfl, hb_4⟩ rfl ?_
   refine al_ro' (ro_eq (ro_ld_ptr y39_ty3 rfl mo1_2 up_h (nle rfl)) (by simp only [pS, Value.cells, Nat.reduceAdd] <;> rfl)) ⟨_, rfl, (up_m rfl hb_4)⟩ rfl ?_
   refine al_ro' (ro_fld_ptr y39_fl28_1 rfl (up_m rfl (u8 rfl s2_3))) ⟨_, rfl, (u2 rfl hb_4)⟩ rfl ?_
   refine al_ro' (ro_eq (ro_ld_ptr y39_ty3 rfl mo0_2 up_h (nle rfl)) (by simp only [pS, Value.cells, Nat.reduceAdd] <;> rfl)) ⟨_, rfl, (up_m rfl (u2 rfl hb_4))⟩ rfl ?_
   refine al_ro' (ro_leq (u2 rfl up_h) up_h) ⟨_, rfl, (u4 rfl hb_4)⟩ rfl ?_
   refine ar (ro_pickT (up_m rfl (u4 rfl hb_4)) up_h) rfl <| ar (ro_assign up_h) rfl <| ae3 (u2 rfl (u4 rfl (u8 rfl s2_3))) (u2 rfl (u4 rfl (u8 rfl s3_3))) up_h ?_; clear hb_4 s2_3 s3_3; intro e_5 s2_5 s3_5 s5_5
   refine then_n <| aw_case s5_5 (fun hq_6 => ?_) (fun hq_6 => ?_)
   ·replace hq_6 := bt hq_6
    refine aw_seq <| at_ <| ar (ro_assign ev_c) rfl <| ae1 up_h ?_; clear s2_5 s3_5 s5_5; intro e_7 s4_7
    refine then_n <| aw_ret <| block_r <| then_r <| ret1 (.inr rfl) (by kernel_rfl) (resV_tmp s4_7) (.ro _ rfl) ?_
    clear s4_7 mo1_2 mo0_2 ml_2
    (refine avj ?_; unfold ansV; (repeat' split) <;> first | rfl | omega)
   replace hq_6 := bf hq_6
   refine aw_seq <| aw_seq <| at_ <| ar (ro_fld_ptr y39_fl39_1 rfl s3_5) rfl <| ar (ro_eq (ro_ld_ptr y39_ty3 rfl mo1_2 up_h (nle rfl)) (by simp only [pS, Value.cells, Nat.reduceAdd] <;> rfl)) rfl ?_
   refine ar (ro_fld_ptr y39_fl28_1 rfl (u2 rfl s2_5)) rfl <| ar (ro_eq (ro_ld_ptr y39_ty3 rfl mo0_2 up_h (nle rfl)) (by simp only [pS, Value.cells, Nat.reduceAdd] <;> rfl)) rfl ?_
   (refine ar (ro_neg' up_h ?_) rfl ?_; · (unfold In64; omega))
   refine ar (ro_lss (up_m rfl (u2 rfl up_h)) up_h) rfl <| ar (ro_assign up_h) rfl <| ae3 (up_m rfl (u2 rfl (u4 rfl s2_5))) (up_m rfl (u2 rfl (u4 rfl s3_5))) up_h ?_; clear s2_5 s3_5 s5_5; intro e_8 s2_8 s3_8 s19_8
   refine then_n <| aw_case s19_8 (fun hq_9 => ?_) (fun hq_9 => ?_)
   · replace hq_9 := bt hq_9; exfalso; omega
   replace hq_9 := bf hq_9
   refine at_ <| ar (ro_fld_ptr y39_fl39_0 rfl s3_8) rfl <| ar (ro_eq (ro_ld_ptr y39_ty3 rfl mo1_2 up_h (nle rfl)) (by simp only [pS, Value.cells, Nat.reduceAdd] <;> rfl)) rfl ?_
   refine ar (ro_fld_ptr y39_fl28_1 rfl (u2 rfl s2_8)) rfl <| ar (ro_eq (ro_ld_ptr y39_ty3 rfl mo0_2 up_h (nle rfl)) (by simp only [pS, Value.cells, Nat.reduceAdd] <;> rfl)) rfl ?_
   refine ar (ro_gtr (u2 rfl up_h) up_h) rfl <| ar (ro_assign up_h) rfl <| ae1 up_h ?_; clear s19_8 s2_8 s3_8; intro e_13 s19_13
   refine then_n <| aw_case s19_13 (fun hq_14 => ?_) (fun hq_14 => ?_)
   ·replace hq_14 := bt hq_14
    refine aw_seq <| at_ <| ar (ro_assign ev_c) rfl <| ae1 up_h ?_; clear s19_13; intro e_15 s4_15
    refine then_n <| aw_ret <| block_r <| then_r <| ret1 (.inr rfl) (by kernel_rfl) (resV_tmp s4_15) (.ro _ rfl) ?_
    clear s4_15 mo1_2 mo0_2 ml_2
    (refine avj ?_; unfold ansV; (repeat' split) <;> first | rfl | omega)
   replace hq_14 := bf hq_14
   refine aw_skip <| block_n <| then_n <| aw_seq <| at_ <| ar (ro_assign ev_c) rfl <| ae1 up_h ?_; clear s19_13; intro e_16 s4_16
   refine then_n <| aw_ret <| ret1 (.inr rfl) (by kernel_rfl) (resV_tmp s4_16) (.ro _ rfl) ?_
   clear s4_16 mo1_2 mo0_2 ml_2
   (refine avj ?_; unfold ansV; (repeat' split) <;> first | rfl | omega)
  replace hq_4 := bf hq_4
  refine al_skip' ⟨_, rfl, .inl hb_4⟩ rfl ?_
  refine al_skip' ⟨_, rfl, .inl (up_m rfl hb_4)⟩ rfl ?_
  refine al_skip' ⟨_, rfl, .inl (u2 rfl hb_4)⟩ rfl ?_
  refine al_skip' ⟨_, rfl, .inl (up_m rfl (u2 rfl hb_4))⟩ rfl ?_
  refine al_skip' ⟨_, rfl, .inl (u4 rfl hb_4)⟩ rfl ?_
  refine ar (ro_pickF (up_m rfl (u4 rfl hb_4)) ev_c) rfl <| ar (ro_assign up_h) rfl <| ae3 (u2 rfl (u4 rfl (u8 rfl s2_3))) (u2 rfl (u4 rfl (u8 rfl s3_3))) up_h ?_; clear hb_4 s2_3 s3_3; intro e_17 s2_17 s3_17 s5_17
  refine then_n <| aw_false s5_17 <| aw_seq <| aw_seq <| at_ <| ar (ro_fld_ptr y39_fl39_1 rfl s3_17) rfl <| ar (ro_eq (ro_ld_ptr y39_ty3 rfl mo1_2 up_h (nle rfl)) (by simp only [pS, Value.cells, Nat.reduceAdd] <;> rfl)) rfl ?_
  refine ar (ro_fld_ptr y39_fl28_1 rfl (u2 rfl s2_17)) rfl <| ar (ro_eq (ro_ld_ptr y39_ty3 rfl mo0_2 up_h (nle rfl)) (by simp only [pS, Value.cells, Nat.reduceAdd] <;> rfl)) rfl ?_
  (refine ar (ro_neg' up_h ?_) rfl ?_; · (unfold In64; omega))
  refine ar (ro_lss (up_m rfl (u2 rfl up_h)) up_h) rfl <| ar (ro_assign up_h) rfl <| ae3 (up_m rfl (u2 rfl (u4 rfl s2_17))) (up_m rfl (u2 rfl (u4 rfl s3_17))) up_h ?_; clear s2_17 s3_17 s5_17; intro e_19 s2_19 s3_19 s19_19
  refine then_n <| aw_case s19_19 (fun hq_20 => ?_) (fun hq_20 => ?_)
  ·replace hq_20 := bt hq_20
   refine aw_skip <| then_n <| aw_case s19_19 (fun hq_21 => ?_) (fun hq_21 => ?_)
   ·replace hq_21 := bt hq_21
    refine aw_seq <| at_ <| ar (ro_assign ev_c) rfl <| ae1 up_h ?_; clear s19_19 s2_19 s3_19; intro e_22 s4_22
    refine then_n <| aw_ret <| block_r <| then_r <| ret1 (.inr rfl) (by kernel_rfl) (resV_tmp s4_22) (.ro _ rfl) ?_
    clear s4_22 mo1_2 mo0_2 ml_2
    (refine avj ?_; unfold ansV; (repeat' split) <;> first | rfl | omega)
   · replace hq_21 := bf hq_21; exfalso; omega
  replace hq_20 := bf hq_20
  refine at_ <| ar (ro_fld_ptr y39_fl39_0 rfl s3_19) rfl <| ar (ro_eq (ro_ld_ptr y39_ty3 rfl mo1_2 up_h (nle rfl)) (by simp only [pS, Value.cells, Nat.reduceAdd] <;> rfl)) rfl ?_
  refine ar (ro_fld_ptr y39_fl28_1 rfl (u2 rfl s2_19)) rfl <| ar (ro_eq (ro_ld_ptr y39_ty3 rfl mo0_2 up_h (nle rfl)) (by simp only [pS, Value.cells, Nat.reduceAdd] <;> rfl)) rfl ?_
  refine ar (ro_gtr (u2 rfl up_h) up_h) rfl <| ar (ro_assign up_h) rfl <| ae1 up_h ?_; clear s19_19 s2_19 s3_19; intro e_24 s19_24
  refine then_n <| aw_case s19_24 (fun hq_25 => ?_) (fun hq_25 => ?_)
  · replace hq_25 := bt hq_25; exfalso; omega
  replace hq_25 := bf hq_25
  refine aw_skip <| block_n <| then_n <| aw_seq <| at_ <| ar (ro_assign ev_c) rfl <| ae1 up_h ?_; clear s19_24; intro e_27 s4_27
  refine then_n <| aw_ret <| ret1 (.inr rfl) (by kernel_rfl) (resV_tmp s4_27) (.ro _ rfl) ?_
  clear s4_27 mo1_2 mo0_2 ml_2
  (refine avj ?_; unfold ansV; (repeat' split) <;> first | rfl | omega)
theorem ben_pos {l : Lin} {L p : Int} {n : Nat} (hL : 1000 ≤ L ∧ L ≤ 30000) (hp : 0 ≤ p ∧ p + L ≤ plaP l.bs l.bs.length) (n1 : n < l.js.length) (n2 : p < plaP l.bs n) (n3 : plaP l.bs n < p + L) : Pos l L p n := ⟨by omega, by omega, by omega, by omega, by omega, by omega, n1⟩
end Go.Proofs.Ytonjcljnpcmenaa

/- Contracts of chapter 1: a copy of a line with joints of one's own; narrower ranges. No conditions on a program. -/
namespace Go.Proofs.Ytonjcljnpcmenaa
open Go Go.RowKit Go.Proofs
set_option linter.unusedSimpArgs false
set_option linter.unusedVariables false
theorem y40_az26 : (Try.prog.info? 26).bind (·.zero) = some (.agg #[.string ByteArray.empty, .slice none 0 0, .slice none 0 0, .slice none 0 0]) := by kernel_rfl
theorem y40_az91 : (Try.prog.info? 91).bind (·.zero) = some (.agg #[.string ByteArray.empty, .int .i64 0, .slice none 0 0]) := by kernel_rfl
theorem y40_fl26_1 : FldIs Try.prog 26 1 1 false 1 := by unfold FldIs; kernel_rfl
theorem y40_fl26_2 : FldIs Try.prog 26 2 2 false 1 := by unfold FldIs; kernel_rfl
theorem y40_fl26_3 : FldIs Try.prog 26 3 3 false 1 := by unfold FldIs; kernel_rfl
theorem y40_fl91_2 : FldIs Try.prog 91 2 2 false 1 := by unfold FldIs; kernel_rfl
theorem y40_hcf75 : ∀ args w, (callFunc 75 args).run Try.prog w = .ok (.enter 75 args) w := fun _ _ => by kernel_rfl
theorem y40_sl22 : SlIs Try.prog 22 70 4 32 (.agg #[.int .i64 0, .int .i64 0, .int .i64 0, .int .i64 0]) := ⟨by kernel_rfl, by kernel_rfl, by kernel_rfl⟩
theorem y40_sl23 : SlIs Try.prog 23 87 2 16 (.agg #[.int .i64 0, .int .i64 0]) := ⟨by kernel_rfl, by kernel_rfl, by kernel_rfl⟩
theorem y40_sl24 : SlIs Try.prog 24 91 3 48 (.agg #[.string ByteArray.empty, .int .i64 0, .slice none 0 0]) := ⟨by kernel_rfl, by kernel_rfl, by kernel_rfl⟩
theorem y40_sz22 : (Try.prog.info? 22).map (·.size) = some 1 := by kernel_rfl
theorem y40_sz23 : (Try.prog.info? 23).map (·.size) = some 1 := by kernel_rfl
theorem y40_sz24 : (Try.prog.info? 24).map (·.size) = some 1 := by kernel_rfl
theorem y40_sz26 : (Try.prog.info? 26).map (·.size) = some 4 := by kernel_rfl
theorem y40_sz49 : (Try.prog.info? 49).map (·.size) = some 1 := by kernel_rfl
theorem y40_sz91 : (Try.prog.info? 91).map (·.size) = some 3 := by kernel_rfl
theorem y40_ty22 : TyIs Try.prog 22 false 1 := ⟨by kernel_rfl, by kernel_rfl⟩
theorem y40_ty23 : TyIs Try.prog 23 false 1 := ⟨by kernel_rfl, by kernel_rfl⟩
theorem y40_ty24 : TyIs Try.prog 24 false 1 := ⟨by kernel_rfl, by kernel_rfl⟩
theorem y40_ty26 : TyIs Try.prog 26 true 4 := ⟨by kernel_rfl, by kernel_rfl⟩
theorem y40_ty49 : TyIs Try.prog 49 false 1 := ⟨by kernel_rfl, by kernel_rfl⟩
theorem y40_ty91 : TyIs Try.prog 91 true 3 := ⟨by kernel_rfl, by kernel_rfl⟩

theorem jnE_plain (l : List Jnt) : (l.map jnE).flatten.all plainA = true := by
  induction l with
  | nil => rfl
  | cons p l ih => simp only [List.map_cons, List.flatten_cons, List.all_append, ih, Bool.and_true]; rfl
set_option maxRecDepth 100000 in
set_option maxHeartbeats 4000000 in
theorem copyOwn_ok (l : Lin) (hl : Sho l) (h0 : l.js ≠ []) : FnRowL Try.prog 18 [lnA l] 70 4 (l.js.map jnE) [some (.v (.string l.nam)), none, some (.row 2 (l.bs.map beE)), some (.row 3 (l.ss.map swE))] := by
  obtain ⟨h1, h2, h3, h4, h5⟩ := id hl
  refine fnRowL_of (fn := Try.f18) 39 (by kernel_rfl) rfl (by kernel_rfl) (Nat.le_of_ble_eq_true rfl) (by exact jnE_plain l.js) rfl ?_
  intro e_0 m_0 hA hm_0
  have s0_0 : evA e_0 (.tmp 0) = _ := hA 0 _ rfl
  have ml_0 : m_0.length = 0 := by rw [hm_0]; rfl
  clear hA hm_0
  refine aw_seq <| at_ <| al_stm (st_box s0_0 rfl ml_0) trivial rfl (fun m_1 hm_1 => ?_)
  have mo0_1 := m_push hm_1 ml_0
  have ml_1 := m_push_l hm_1 ml_0
  have ml_1 : _ = 1 := ml_1
  clear hm_1
  refine al_stm (st_alloc y40_az26 rfl ml_1) trivial rfl (fun m_2 hm_2 => ?_)
  have mo1_2 := m_push hm_2 ml_1
  simp only [pS, Value.cells, Nat.reduceAdd, swE, one_swE, app_m] at mo1_2
  have mo0_2 := m_push_o hm_2 mo0_1
  have ml_2 := m_push_l hm_2 ml_1
  have ml_2 : _ = 2 := ml_2
  clear hm_2 mo0_1
  refine ae2 (up_m rfl up_h) up_h ?_; clear s0_0; intro e_3 s1_3 s2_3
  refine then_n <| aw_seq <| at_ <| ar (ro_lit0 y40_sl22) rfl <| ar (ro_fld_ptr y40_fl26_1 rfl (up_m rfl s1_3)) rfl <| ar (ro_eq (ro_ld_ptr y40_ty22 rfl mo0_2 up_h (nle rfl)) (by simp only [pS, Value.cells, Nat.reduceAdd, swE, one_swE, app_m] <;> rfl)) rfl ?_
  refine al_stm (st_ape (by simpa using h0) (by exact jnE_plain l.js) ml_2 y40_sl22 rfl (u2 rfl up_h) up_h (by simp only [lnS] <;> omega)) trivial rfl (fun m_4 hm_4 => ?_)
  have mo2_4 := m_push hm_4 ml_2
  have mo1_4 := m_push_o hm_4 mo1_2
  have mo0_4 := m_push_o hm_4 mo0_2
  have ml_4 := m_push_l hm_4 ml_2
  have ml_4 : _ = 3 := ml_4
  clear hm_4 mo1_2 mo0_2
  refine ar (ro_fld_ptr y40_fl26_1 rfl (u4 rfl s1_3)) rfl <| al_stm (st_store_own up_h (up_m rfl up_h) mo0_4 mo2_4 y40_sz22 (nle rfl)) trivial rfl (fun m_5 hm_5 => ?_)
  have mo0_5 := m_set hm_5 mo0_4
  simp only [pS, Value.cells, Nat.reduceAdd, swE, one_swE, app_m] at mo0_5
  have mo2_5 := m_set_o hm_5 mo2_4 (by decide)
  have mo1_5 := m_set_o hm_5 mo1_4 (by decide)
  have ml_5 := m_set_l hm_5 ml_4
  clear hm_5 mo2_4 mo1_4 mo0_4
  refine ae2 (up_n (up_m rfl (u4 rfl s1_3))) (up_n (up_m rfl (u4 rfl s2_3))) ?_; clear s1_3 s2_3; intro e_6 s1_6 s2_6
  refine then_n <| aw_seq <| at_ <| ar (ro_lit0 y40_sl23) rfl <| ar (ro_fld_ptr y40_fl26_2 rfl (up_m rfl s1_6)) rfl <| ar (ro_eq (ro_ld_ptr y40_ty23 rfl mo0_5 up_h (nle rfl)) (by simp only [pS, Value.cells, Nat.reduceAdd, swE, one_swE, app_m] <;> rfl)) rfl ?_
  refine ar (ro_ape y40_sl23 rfl (u2 rfl up_h) up_h (by simp only [lnS] <;> omega)) rfl ?_
  refine ar (ro_fld_ptr y40_fl26_2 rfl (u4 rfl s1_6)) rfl <| al_stm (st_store up_h (up_m rfl up_h) rfl rfl mo0_5 y40_sz23 rfl (nle rfl)) trivial rfl (fun m_7 hm_7 => ?_)
  have mo0_7 := m_set hm_7 mo0_5
  simp only [pS, Value.cells, Nat.reduceAdd, swE, one_swE, app_m] at mo0_7
  have mo2_7 := m_set_o hm_7 mo2_5 (by decide)
  have mo1_7 := m_set_o hm_7 mo1_5 (by decide)
  have ml_7 := m_set_l hm_7 ml_5
  clear hm_7 mo0_5 mo2_5 mo1_5
  refine ae2 (up_n (up_m rfl (u4 rfl s1_6))) (up_n (up_m rfl (u4 rfl s2_6))) ?_; clear s1_6 s2_6; intro e_8 s1_8 s2_8
  refine then_n <| aw_seq <| at_ <| ar (ro_assign ev_c) rfl <| ae3 (up_m rfl s1_8) (up_m rfl s2_8) up_h ?_; clear s1_8 s2_8; intro e_9 s1_9 s2_9 s3_9
  refine then_n <| aw_seq <| aw_seq <| at_ <| ar (ro_assign ev_c) rfl <| ae4 (up_m rfl s1_9) (up_m rfl s2_9) (up_m rfl s3_9) up_h ?_; clear s1_9 s2_9 s3_9; intro e_10 s1_10 s2_10 s3_10 s4_10
  refine then_n <| aw_block <| aw_adopt 91 3 s3_10 ml_7 (fun m_11 e_11 hm_11 he_11 => ?_)
  have mo3_11 := m_push hm_11 ml_7
  have mo0_11 := m_push_o hm_11 mo0_7
  have mo2_11 := m_push_o hm_11 mo2_7
  have mo1_11 := m_push_o hm_11 mo1_7
  have ml_11 := m_push_l hm_11 ml_7
  have ml_11 : _ = 4 := ml_11
  have s1_11 : evA e_11 (.tmp 1) = _ := (congrArg (fun q => evA q (.tmp 1)) he_11).trans (up_m rfl s1_10)
  have s2_11 : evA e_11 (.tmp 2) = _ := (congrArg (fun q => evA q (.tmp 2)) he_11).trans (up_m rfl s2_10)
  have s3_11 : evA e_11 (.tmp 3) = _ := (congrArg (fun q => evA q (.tmp 3)) he_11).trans up_h
  have s4_11 : evA e_11 (.tmp 4) = _ := (congrArg (fun q => evA q (.tmp 4)) he_11).trans (up_m rfl s4_10)
  clear hm_11 he_11
  refine aw_loop (S := (Int × List Swi)) (fun s e mem => match s with | ⟨k, xs⟩ => (evA e (.tmp 4) = .v (.int .i64 k)) ∧ (evA e (.tmp 1) = evA e_11 (.tmp 1)) ∧ (evA e (.tmp 2) = evA e_11 (.tmp 2)) ∧ (mem[0]? = m_11[0]?) ∧ (mem[2]? = m_11[2]?) ∧ (mem[1]? = m_11[1]?) ∧ (∃ j, evA e (.tmp 3) = .own j ∧ mem[j]? = some (.row 91 3 (xs.map swE)) ∧ j ≠ 0 ∧ j ≠ 2 ∧ j ≠ 1) ∧ (∃ n, mem.length = n ∧ 4 ≤ n) ∧ ((0 ≤ k ∧ k ≤ l.ss.length ∧ xs = l.ss.take k.toNat))) (fun s => match s with | ⟨k, xs⟩ => (l.ss.length - k).toNat) ⟨_, []⟩ ⟨s4_11, rfl, rfl, rfl, rfl, rfl, ⟨_, s3_11, mo3_11, (by decide), (by decide), (by decide)⟩, ⟨_, ml_11, Nat.le_refl _⟩, ?_⟩ ?_
  · (exact ⟨by omega, by omega, rfl⟩)
  · rintro ⟨k, xs⟩ e_12 m_12 ⟨s4_12, k1_12, k2_12, mk0_12, mk2_12, mk1_12, ⟨j3_12, s3_12, mo_j3_12, nj3_0_12, nj3_2_12, nj3_1_12⟩, ⟨n_12, ml_12, hn_12⟩, hinv⟩
    have s1_12 := k1_12.trans s1_11
    have s2_12 := k2_12.trans s2_11
    have mo0_12 := mk0_12.trans mo0_11
    have mo2_12 := mk2_12.trans mo2_11
    have mo1_12 := mk1_12.trans mo1_11
    have jl3_12 := m_lt mo_j3_12 ml_12
    (obtain ⟨p1, p2, p3⟩ := hinv; have hso := hl.at k.toNat; have hxl : xs.length ≤ 1000000 := (by rw [p3, List.length_take]; omega))
    refine aw_seq <| aw_seq <| at_ <| ar (ro_move s4_12) rfl <| ar (ro_fld_ptr y40_fl26_3 rfl (up_m rfl s1_12)) rfl <| ar (ro_eq (ro_ld_ptr y40_ty24 rfl mo0_12 up_h (nle rfl)) (by simp only [pS, Value.cells, Nat.reduceAdd, swE, one_swE, app_m] <;> rfl)) rfl ?_
    refine ar (ro_eq (ro_len_row up_h rfl y40_sl24.1) (by simp only [lnS] <;> rfl)) rfl ?_
    refine ar (ro_lss (up_m rfl (u2 rfl up_h)) up_h) rfl <| ae5 (up_m rfl (u4 rfl s1_12)) (up_m rfl (u4 rfl s2_12)) (up_m rfl (u4 rfl s3_12)) (up_m rfl (u4 rfl s4_12)) up_h ?_; clear s1_12 s2_12 s3_12 s4_12; intro e_13 s1_13 s2_13 s3_13 s4_13 s20_13
    refine then_n <| aw_case s20_13 (fun hq_14 => ?_) (fun hq_14 => ?_)
    ·replace hq_14 := bt hq_14
     refine aw_skip <| then_n <| aw_seq <| aw_block <| aw_seq <| at_ <| ar (ro_fld_ptr y40_fl26_3 rfl s1_13) rfl <| ar (ro_eq (ro_ld_ptr y40_ty24 rfl mo0_12 up_h (nle rfl)) (by simp only [pS, Value.cells, Nat.reduceAdd, swE, one_swE, app_m] <;> rfl)) rfl ?_
     refine ar (ro_move (u2 rfl s4_13)) rfl <| ar (ro_eq (ro_ix y40_sl24 (up_m rfl up_h) up_h (by omega) (by first | (refine idx_map ?_; first | omega | (simp only [lnS]; omega)) | (refine idx_mapI ?_; first | omega | (simp only [lnS]; omega)) | (refine idx_mapN ?_; first | omega | (simp only [lnS]; omega)) | rfl)) (by simp only [pS, Value.cells, Nat.reduceAdd, swE, one_swE, app_m] <;> rfl)) rfl ?_
     refine ar (ro_eq (ro_ld_ref y40_ty91 rfl up_h (nle rfl)) (by simp only [pS, Value.cells, Nat.reduceAdd, swE, one_swE, app_m] <;> rfl)) rfl ?_
     refine al_stm (st_alloc y40_az91 rfl ml_12) trivial rfl (fun m_15 hm_15 => ?_)
     have mon_12_15 := m_push hm_15 ml_12
     simp only [pS, Value.cells, Nat.reduceAdd, swE, one_swE, app_m] at mon_12_15
     have mo0_15 := m_push_o hm_15 mo0_12
     have mo2_15 := m_push_o hm_15 mo2_12
     have mo1_15 := m_push_o hm_15 mo1_12
     have moj3_12_15 := m_push_o hm_15 mo_j3_12
     have ml_15 := m_push_l hm_15 ml_12
     clear hm_15 mo0_12 mo2_12 mo1_12 mo_j3_12
     refine al_stm (st_store up_h (up_m rfl up_h) rfl rfl mon_12_15 y40_sz91 rfl (nle rfl)) trivial rfl (fun m_16 hm_16 => ?_)
     have mon_12_16 := m_set hm_16 mon_12_15
     simp only [pS, Value.cells, Nat.reduceAdd, swE, one_swE, app_m] at mon_12_16
     have mo0_16 := m_set_o hm_16 mo0_15 (by omega)
     have mo2_16 := m_set_o hm_16 mo2_15 (by omega)
     have mo1_16 := m_set_o hm_16 mo1_15 (by omega)
     have moj3_12_16 := m_set_o hm_16 moj3_12_15 (by omega)
     have ml_16 := m_set_l hm_16 ml_15
     clear hm_16 mon_12_15 mo0_15 mo2_15 mo1_15 moj3_12_15
     refine ae5 (up_n (u2 rfl (u4 rfl s1_13))) (up_n (u2 rfl (u4 rfl s2_13))) (up_n (u2 rfl (u4 rfl s3_13))) (up_n (u2 rfl (u4 rfl s4_13))) (up_n up_h) ?_; clear s1_13 s20_13 s2_13 s3_13 s4_13; intro e_17 s1_17 s2_17 s3_17 s4_17 s5_17
     refine then_n <| aw_seq <| at_ <| ar (ro_fld_ptr y40_fl91_2 rfl s5_17) rfl <| ar (ro_eq (ro_ld_ptr y40_ty49 rfl mon_12_16 up_h (nle rfl)) (by simp only [pS, Value.cells, Nat.reduceAdd, swE, one_swE, app_m] <;> rfl)) rfl ?_
     refine ar (ro_call (evL_cons up_h evL_nil) rfl (yCopyInts_ok _ (by omega)) y40_hcf75) rfl ?_
     refine ar (ro_fld_ptr y40_fl91_2 rfl (up_m rfl (u2 rfl s5_17))) rfl <| al_stm (st_store up_h (up_m rfl up_h) rfl rfl mon_12_16 y40_sz49 rfl (nle rfl)) trivial rfl (fun m_18 hm_18 => ?_)
     have mon_12_18 := m_set hm_18 mon_12_16
     simp only [pS, Value.cells, Nat.reduceAdd, swE, one_swE, app_m] at mon_12_18
     have mo0_18 := m_set_o hm_18 mo0_16 (by omega)
     have mo2_18 := m_set_o hm_18 mo2_16 (by omega)
     have mo1_18 := m_set_o hm_18 mo1_16 (by omega)
     have moj3_12_18 := m_set_o hm_18 moj3_12_16 (by omega)
     have ml_18 := m_set_l hm_18 ml_16
     clear hm_18 mon_12_16 mo0_16 mo2_16 mo1_16 moj3_12_16
     refine ae5 (up_n (u4 rfl s1_17)) (up_n (u4 rfl s2_17)) (up_n (u4 rfl s3_17)) (up_n (u4 rfl s4_17)) (up_n (u4 rfl s5_17)) ?_; clear s1_17 s2_17 s3_17 s4_17 s5_17; intro e_19 s1_19 s2_19 s3_19 s4_19 s5_19
     refine then_n <| at_ <| ar (ro_move s3_19) rfl <| ar (ro_eq (ro_ld_ptr y40_ty91 rfl mon_12_18 (up_m rfl s5_19) (nle rfl)) (by simp only [pS, Value.cells, Nat.reduceAdd, swE, one_swE, app_m] <;> rfl)) rfl ?_
     refine ar (ro_lit y40_sl24 (evP_cons up_h evP_nil) rfl rfl rfl rfl) rfl <| al_stm (st_app y40_sl24 rfl ml_18 moj3_12_18 (u2 rfl up_h) up_h (by rfl) (by simp only [lnS] <;> omega)) trivial rfl (fun m_20 hm_20 => ?_)
     have mon_12_1_20 := m_swap hm_20 ml_18
     simp only [pS, Value.cells, Nat.reduceAdd, swE, one_swE, app_m] at mon_12_1_20
     have mon_12_20 := m_swap_o hm_20 mon_12_18 (by omega)
     have mo0_20 := m_swap_o hm_20 mo0_18 (by omega)
     have mo2_20 := m_swap_o hm_20 mo2_18 (by omega)
     have mo1_20 := m_swap_o hm_20 mo1_18 (by omega)
     have ml_20 := m_swap_l hm_20 ml_18
     clear hm_20 mon_12_18 mo0_18 mo2_18 mo1_18 moj3_12_18
     refine ar (ro_assign up_h) rfl <| ae4 (up_m rfl (u4 rfl s1_19)) (up_m rfl (u4 rfl s2_19)) up_h (up_m rfl (u4 rfl s4_19)) ?_; clear s1_19 s2_19 s3_19 s4_19 s5_19; intro e_21 s1_21 s2_21 s3_21 s4_21
     refine block_n <| then_n <| at_ <| ar (ro_move s4_21) rfl ?_
     (refine ar (ro_add' up_h ev_c ?_) rfl ?_; · (unfold In64; omega))
     refine ar (ro_assign up_h) rfl <| ae4 (up_m rfl (u2 rfl s1_21)) (up_m rfl (u2 rfl s2_21)) (up_m rfl (u2 rfl s3_21)) up_h ?_; clear s1_21 s2_21 s3_21 s4_21; intro e_22 s1_22 s2_22 s3_22 s4_22
     refine then_n <| ⟨⟨_, _⟩, ⟨s4_22, (s1_22.trans s1_11.symm), (s2_22.trans s2_11.symm), (mo0_20.trans mo0_11.symm), (mo2_20.trans mo2_11.symm), (mo1_20.trans mo1_11.symm), ⟨_, s3_22, mon_12_1_20, (by omega), (by omega), (by omega)⟩, ⟨_, ml_20, by omega⟩, ?_⟩, ?_⟩
     · (refine ⟨by omega, by omega, ?_⟩; rw [take_suc p1 (by omega), ← p3])
     · ((try dsimp only); omega)
    replace hq_14 := bf hq_14
    (have hx : xs = l.ss := (by rw [p3, List.take_of_length_le (by omega)]); clear p3; subst hx)
    refine aw_exit <| then_x <| then_x <| block_hit <| then_n <| aw_seq <| aw_freezeR s3_13 mo_j3_12 (fun m_23 e_23 hm_23 he_23 => ?_)
    have mo0_23 := m_set_o hm_23 mo0_12 (by omega)
    have mo2_23 := m_set_o hm_23 mo2_12 (by omega)
    have mo1_23 := m_set_o hm_23 mo1_12 (by omega)
    have ml_23 := m_set_l hm_23 ml_12
    have s1_23 : evA e_23 (.tmp 1) = _ := (congrArg (fun q => evA q (.tmp 1)) he_23).trans (up_m rfl s1_13)
    have s2_23 : evA e_23 (.tmp 2) = _ := (congrArg (fun q => evA q (.tmp 2)) he_23).trans (up_m rfl s2_13)
    have s3_23 : evA e_23 (.tmp 3) = _ := (congrArg (fun q => evA q (.tmp 3)) he_23).trans up_h
    have s4_23 : evA e_23 (.tmp 4) = _ := (congrArg (fun q => evA q (.tmp 4)) he_23).trans (up_m rfl s4_13)
    have s20_23 : evA e_23 (.tmp 20) = _ := (congrArg (fun q => evA q (.tmp 20)) he_23).trans (up_m rfl s20_13)
    clear hm_23 he_23
    refine at_ <| ar (ro_move s3_23) rfl <| ar (ro_fld_ptr y40_fl26_3 rfl (up_m rfl s1_23)) rfl <| al_stm (st_store up_h (up_m rfl up_h) rfl rfl mo0_23 y40_sz24 rfl (nle rfl)) trivial rfl (fun m_24 hm_24 => ?_)
    have mo0_24 := m_set hm_24 mo0_23
    simp only [pS, Value.cells, Nat.reduceAdd, swE, one_swE, app_m] at mo0_24
    have mo2_24 := m_set_o hm_24 mo2_23 (by decide)
    have mo1_24 := m_set_o hm_24 mo1_23 (by decide)
    have ml_24 := m_set_l hm_24 ml_23
    clear hm_24 mo0_23 mo2_23 mo1_23
    refine ae2 (up_n (u2 rfl s1_23)) (up_n (u2 rfl s2_23)) ?_; clear s1_23 s20_23 s2_23 s3_23 s4_23; intro e_25 s1_25 s2_25
    refine then_n <| aw_seq <| at_ <| ar (ro_eq (ro_ld_ptr y40_ty26 rfl mo0_24 s1_25 (nle rfl)) (by simp only [pS, Value.cells, Nat.reduceAdd, swE, one_swE, app_m] <;> rfl)) rfl ?_
    refine al_stm (st_storeO (up_m rfl s2_25) up_h rfl (oneL_c rfl (oneL_o mo2_24 (oneL_c rfl (oneL_c rfl oneL_nil)))) mo1_24 y40_sz26 rfl (nle rfl)) trivial rfl (fun m_26 hm_26 => ?_)
    have mo1_26 := m_set hm_26 mo1_24
    simp only [pS, Value.cells, Nat.reduceAdd, swE, one_swE, app_m] at mo1_26
    have mo0_26 := m_set_o hm_26 mo0_24 (by decide)
    have mo2_26 := m_set_o hm_26 mo2_24 (by decide)
    have ml_26 := m_set_l hm_26 ml_24
    clear hm_26 mo0_24 mo2_24 mo1_24
    refine ae1 (up_n (up_m rfl s2_25)) ?_; clear s1_25 s2_25; intro e_27 s2_27
    refine then_n <| aw_ret <| retRowL (.inr rfl) (by kernel_rfl) mo2_26 (resV_cell s2_27 mo1_26 y40_ty26 (nle rfl) (by simp)) rfl ?_
    rfl
theorem set_jn4 (js : List Jnt) (i : Nat) (a b c d : Int) : (js.map jnE).set i [AV.v (.int .i64 a), AV.v (.int .i64 b), AV.v (.int .i64 c), AV.v (.int .i64 d)] = (js.set i ⟨a, b, c, d⟩).map jnE := by simp [List.map_set, jnE]
end Go.Proofs.Ytonjcljnpcmenaa

/- Plain law of chapter 1: narrower ranges, narrower deviations. No program in sight. -/
namespace Go.Proofs.Ytonjcljnpcmenaa
open Go Go.RowKit Go.Proofs
set_option linter.unusedSimpArgs false
set_option linter.unusedVariables false

theorem lisM_of {k : Int} {f : Nat → Int} {n : Nat} {z : (Int × Int) × Int} (h : ∀ j : Nat, j < n → f j = 0) : lisM k f n z = z := by
  unfold lisM; rw [firN_none h]
theorem rgt_to {l : Lin} (h : Rgt l) : (linM l).2 = 0 := by
  have h1 := h.n0
  have h2 := h.n1
  have h3 := h.js
  have h4 := h.s1
  unfold linM
  rw [h.nam, if_neg (by decide), if_neg (by omega), if_neg (by omega), lisM_of h.ja, lisM_of h.ba, if_neg (by omega), lisM_of h.sa]
/-- A joint with a narrower range. -/
structure Nar (a b : Jnt) : Prop where
  acr : b.acr = a.acr
  up : b.up = a.up
  lo : a.lo ≤ b.lo
  le : b.lo ≤ b.hi
  hi : b.hi ≤ a.hi
/-- A line whose joints have narrower ranges. -/
structure NarL (l m : Lin) : Prop where
  nam : m.nam = l.nam
  bs : m.bs = l.bs
  ss : m.ss = l.ss
  len : m.js.length = l.js.length
  js : ∀ i : Nat, i < l.js.length → Nar (l.js.getD i default) (m.js.getD i default)
theorem jntE_of {j : Jnt} (h : (-20000 ≤ j.acr ∧ j.acr ≤ 20000) ∧ (-20000 ≤ j.up ∧ j.up ≤ 20000) ∧ -100 ≤ j.lo ∧ j.hi ≤ 100 ∧ j.lo ≤ j.hi) : jntE j = 0 := by
  have h1 : jntB j = true := by
    simp only [jntB, smaB, Bool.and_eq_true, withinB_iff]
    omega
  unfold jntE
  rw [if_pos h1, if_pos h.2.2.2.2]
theorem Nar.f {a b : Jnt} (h : Nar a b) (w : Int) : loF w a ≤ loF w b ∧ loF w b ≤ hiF w b ∧ hiF w b ≤ hiF w a := by
  obtain ⟨h1, h2, h3, h4, h5⟩ := h
  unfold loF hiF
  rw [h1]
  rcases Int.le_total 0 w with hw | hw
  · have a1 := Int.mul_le_mul_of_nonneg_left h3 hw
    have a2 := Int.mul_le_mul_of_nonneg_left h4 hw
    have a3 := Int.mul_le_mul_of_nonneg_left h5 hw
    omega
  · have a1 := Int.mul_le_mul_of_nonpos_left hw h3
    have a2 := Int.mul_le_mul_of_nonpos_left hw h4
    have a3 := Int.mul_le_mul_of_nonpos_left hw h5
    omega
theorem NarL.at {l m : Lin} (n : NarL l m) (p : Int) : atI m p = atI l p ∧ atD m p = atD l p := by unfold atD atI; rw [n.bs]; exact ⟨rfl, rfl⟩
theorem NarL.refl {l : Lin} (h : Rgt l) : NarL l l := ⟨rfl, rfl, rfl, rfl, fun i hi => ⟨rfl, rfl, Int.le_refl _, (h.jnt i hi).2.2.2.2, Int.le_refl _⟩⟩
end Go.Proofs.Ytonjcljnpcmenaa

/- Contracts of chapter 1: lines copied by the program, with joints of one's own. No conditions on a program. -/
namespace Go.Proofs.Ytonjcljnpcmenaa
open Go Go.RowKit Go.Proofs
set_option linter.unusedSimpArgs false
set_option linter.unusedVariables false
theorem beE_plain (l : List Bea) : (l.map beE).flatten.all plainA = true := by
  induction l with
  | nil => rfl
  | cons p l ih => simp only [List.map_cons, List.flatten_cons, List.all_append, ih, Bool.and_true]; rfl
/-- A line that can be copied part by part. -/
def Ful (l : Lin) : Prop := l.js ≠ [] ∧ l.bs ≠ [] ∧ ∀ s ∈ l.ss, s.acr ≠ []
theorem Ful.at {l : Lin} (h : Ful l) {i : Nat} (hi : i < l.ss.length) : (l.ss.getD i default).acr ≠ [] := by
  rw [List.getD_eq_getElem?_getD, List.getElem?_eq_getElem hi]; exact h.2.2 _ (List.getElem_mem hi)
end Go.Proofs.Ytonjcljnpcmenaa

/- Contracts of chapter 1: surveyed and warmed lines. No conditions on a program. -/
namespace Go.Proofs.Ytonjcljnpcmenaa
open Go Go.RowKit Go.Proofs
set_option linter.unusedSimpArgs false
set_option linter.unusedVariables false
theorem Rgt.ful {l : Lin} (h : Rgt l) : Ful l := by
  have hjs := h.js
  have hn1 := h.n1
  have hn0 := h.n0
  refine ⟨fun hc => ?_, fun hc => ?_, fun t ht hc => ?_⟩
  · rw [hc] at hjs; simp at hjs
  · rw [hc] at hn0; simp at hn0
  · obtain ⟨i, hi, rfl⟩ := List.mem_iff_getElem.1 ht
    have h1 := h.sa i hi
    have h2 : l.ss.getD i default = l.ss[i] := by rw [List.getD_eq_getElem?_getD, List.getElem?_eq_getElem hi]; rfl
    unfold swiE at h1
    rw [h2, hc] at h1
    split at h1
    · cases h1
    · split at h1
      · cases h1
      · rw [if_pos List.length_nil] at h1; cases h1
theorem Rgt.jn0 {l : Lin} (h : Rgt l) : l.js ≠ [] := h.ful.1
end Go.Proofs.Ytonjcljnpcmenaa

