/- Texts of this claim, one behind the other: lemmas for the statement. -/
import Derived.Test.YtknclifdncmgpaaY40
import Derived.Test.YtknclifdncmgpaaM7
/- Plain law of chapter 1: narrower ranges, narrower deviations. No program in sight. -/
namespace Go.Proofs.Ytknclifdncmgpaa
open Go Go.RowKit Go.Proofs
set_option linter.unusedSimpArgs false
set_option linter.unusedVariables false

theorem lisM_of {k : Int} {f : Nat → Int} {n : Nat} {z : (Int × Int) × Int} (h : ∀ j : Nat, j < n → f j = 0) : lisM k f n z = z := by
  unfold lisM; rw [firN_none h]
theorem rgt_to {l : Lin} (h : Rgt l) : (linM l).2 = 0 := by
  have h1 := h.n0
  have h2 := h.n1
  have h3 := h.js
  have h4 := h.s1
  unfold linM
  rw [h.nam, if_neg (by decide), if_neg (by omega), if_neg (by omega), lisM_of h.ja, lisM_of h.ba, if_neg (by omega), lisM_of h.sa]
/-- A joint with a narrower range. -/
structure Nar (a b : Jnt) : Prop where
  acr : b.acr = a.acr
  up : b.up = a.up
  lo : a.lo ≤ b.lo
  le : b.lo ≤ b.hi
  hi : b.hi ≤ a.hi
theorem inn_nar {j : Jnt} {b : Int} (hj : -100 ≤ j.lo ∧ j.hi ≤ 100 ∧ j.lo ≤ j.hi) (hb : 0 ≤ b ∧ b < 256) : Nar j (innJ j b) := by
  obtain ⟨t1, t2, t3, t4⟩ := part_bd hb
  obtain ⟨u1, u2, u3⟩ := wide_bd (w := j.hi - j.lo) (by omega) t1
  obtain ⟨v1, v2, v3⟩ := wide_bd (w := j.hi - j.lo) (by omega) t4
  refine ⟨rfl, rfl, ?_, ?_, ?_⟩
  · show j.lo ≤ j.lo + _; omega
  · show j.lo + _ ≤ max _ _; omega
  · show max _ _ ≤ j.hi; omega
theorem innL_lt (js : List Jnt) (ps : List Int) : ∀ {n i : Nat}, i < n → i < js.length → (innL js ps n).getD i default = innJ (js.getD i default) (ps.getD i default)
  | n + 1, i, h, hl => by
    simp only [innL]
    by_cases hi : n = i
    · subst hi
      rw [List.getD_eq_getElem?_getD, List.getElem?_set_self (by rw [innL_len]; exact hl)]; rfl
    · rw [List.getD_eq_getElem?_getD, List.getElem?_set_ne hi, ← List.getD_eq_getElem?_getD]
      exact innL_lt js ps (by omega) hl
/-- A line whose joints have narrower ranges. -/
structure NarL (l m : Lin) : Prop where
  nam : m.nam = l.nam
  bs : m.bs = l.bs
  ss : m.ss = l.ss
  len : m.js.length = l.js.length
  js : ∀ i : Nat, i < l.js.length → Nar (l.js.getD i default) (m.js.getD i default)
theorem inA_nar {l : Lin} (h : Rgt l) {ps : List Int} (hp : ∀ b ∈ ps, 0 ≤ b ∧ b < 256) : NarL l (inA l ps) := by
  refine ⟨rfl, rfl, rfl, innL_len _ _ _, fun i hi => ?_⟩
  have hj := h.jnt i hi
  show Nar _ ((innL l.js ps (min l.js.length ps.length)).getD i default)
  by_cases hlt : i < min l.js.length ps.length
  · rw [innL_lt _ _ hlt hi]
    exact inn_nar hj.2.2 (getD_by hp i)
  · rw [innL_ge _ _ (by omega)]
    exact ⟨rfl, rfl, Int.le_refl _, hj.2.2.2.2, Int.le_refl _⟩
theorem swiE_same {l m : Lin} (hb : m.bs = l.bs) (hs : m.ss = l.ss) (i : Nat) : swiE m i = swiE l i := by unfold swiE; rw [hb, hs]
theorem jntE_of {j : Jnt} (h : (-20000 ≤ j.acr ∧ j.acr ≤ 20000) ∧ (-20000 ≤ j.up ∧ j.up ≤ 20000) ∧ -100 ≤ j.lo ∧ j.hi ≤ 100 ∧ j.lo ≤ j.hi) : jntE j = 0 := by
  have h1 : jntB j = true := by
    simp only [jntB, smaB, Bool.and_eq_true, withinB_iff]
    omega
  unfold jntE
  rw [if_pos h1, if_pos h.2.2.2.2]
theorem NarL.rgt {l m : Lin} (n : NarL l m) (h : Rgt l) : Rgt m := by
  refine ⟨by rw [n.nam]; exact h.nam, by rw [n.bs]; exact h.n0, by rw [n.bs]; exact h.n1, by rw [n.len, n.bs]; exact h.js, fun j hj => ?_, fun j hj => ?_, by rw [n.ss]; exact h.s1, fun j hj => ?_⟩
  · rw [n.len] at hj
    have h1 := h.jnt j hj
    have h2 := n.js j hj
    exact jntE_of (by have := h2.acr; have := h2.up; have := h2.lo; have := h2.le; have := h2.hi; omega)
  · rw [n.bs] at hj ⊢; exact h.ba j hj
  · rw [n.ss] at hj; rw [swiE_same n.bs n.ss]; exact h.sa j hj
theorem Nar.f {a b : Jnt} (h : Nar a b) (w : Int) : loF w a ≤ loF w b ∧ loF w b ≤ hiF w b ∧ hiF w b ≤ hiF w a := by
  obtain ⟨h1, h2, h3, h4, h5⟩ := h
  unfold loF hiF
  rw [h1]
  rcases Int.le_total 0 w with hw | hw
  · have a1 := Int.mul_le_mul_of_nonneg_left h3 hw
    have a2 := Int.mul_le_mul_of_nonneg_left h4 hw
    have a3 := Int.mul_le_mul_of_nonneg_left h5 hw
    omega
  · have a1 := Int.mul_le_mul_of_nonpos_left hw h3
    have a2 := Int.mul_le_mul_of_nonpos_left hw h4
    have a3 := Int.mul_le_mul_of_nonpos_left hw h5
    omega
theorem devS_nar {l m : Lin} (n : NarL l m) (ws : List Int) : ∀ {k : Nat}, k ≤ l.js.length → devS loF ws l.js k ≤ devS loF ws m.js k ∧ devS loF ws m.js k ≤ devS hiF ws m.js k ∧ devS hiF ws m.js k ≤ devS hiF ws l.js k
  | 0, _ => ⟨Int.le_refl _, Int.le_refl _, Int.le_refl _⟩
  | k + 1, hk => by
    have ih := devS_nar n ws (k := k) (by omega)
    have h1 := (n.js k (by omega)).f (ws.getD k default)
    simp only [devS]
    omega
theorem floor_le {x y d : Int} (hd : 0 < d) (h : x ≤ y) : x / d ≤ -(-y / d) := by
  have h1 : x / d * d ≤ x := Int.ediv_mul_le x (by omega)
  have h2 : -y / d ≤ -(x / d) := by
    have h3 : -y ≤ -(x / d) * d := by rw [Int.neg_mul]; omega
    have := Int.ediv_le_ediv hd h3
    rwa [Int.mul_ediv_cancel _ (by omega)] at this
  omega
theorem ceil_le {x y d : Int} (hd : 0 < d) (h : x ≤ y) : -(-x / d) ≤ -(-y / d) := by
  have := Int.ediv_le_ediv hd (show -y ≤ -x by omega)
  omega
theorem NarL.at {l m : Lin} (n : NarL l m) (p : Int) : atI m p = atI l p ∧ atD m p = atD l p := by unfold atD atI; rw [n.bs]; exact ⟨rfl, rfl⟩
theorem NarL.wts {l m : Lin} (n : NarL l m) (L p : Int) (j : Nat) : wtsL m L p j = wtsL l L p j ∧ devD m L p = devD l L p := by
  have e1 := n.at p
  have e2 := n.at (p + L)
  have e3 : devD m L p = devD l L p := by unfold devD; rw [e1.1, e2.1, n.bs]
  refine ⟨?_, e3⟩
  unfold wtsL wts4 wts3 wts2 wts1
  rw [e1.1, e2.1, e1.2, e2.2, e3, n.bs, n.len]
/-- **Narrower ranges: all deviations lie within those that there were.** -/
theorem NarL.dev {l m : Lin} (n : NarL l m) (h : Rgt l) {L p : Int} {j : Nat} (q : Pos l L p j) : devLo l L p j ≤ devLo m L p j ∧ devLo m L p j ≤ devHi m L p j ∧ devHi m L p j ≤ devHi l L p j := by
  obtain ⟨e1, e2⟩ := n.wts L p j
  have hd := (q.bd h).1
  obtain ⟨s1, s2, s3⟩ := devS_nar n (wtsL l L p j) (Nat.le_refl _)
  unfold devLo devHi
  rw [e1, e2, n.len]
  exact ⟨Int.ediv_le_ediv (by omega) s1, floor_le (by omega) s2, ceil_le (by omega) s3⟩
theorem NarL.refl {l : Lin} (h : Rgt l) : NarL l l := ⟨rfl, rfl, rfl, rfl, fun i hi => ⟨rfl, rfl, Int.le_refl _, (h.jnt i hi).2.2.2.2, Int.le_refl _⟩⟩
theorem NarL.ben {l m : Lin} (n : NarL l m) (L p : Int) : benL m L p = benL l L p := by unfold benL benB; rw [n.len, n.bs]
end Go.Proofs.Ytknclifdncmgpaa

/- Contracts of chapter 1: whether the program is awake. No conditions on a program. -/
namespace Go.Proofs.Ytknclifdncmgpaa
open Go Go.RowKit Go.Proofs
set_option linter.unusedSimpArgs false
set_option linter.unusedVariables false
theorem y27_az26 : (Try.prog.info? 26).bind (·.zero) = some (.agg #[.string ByteArray.empty, .slice none 0 0, .slice none 0 0, .slice none 0 0]) := by kernel_rfl
theorem y27_az40 : (Try.prog.info? 40).bind (·.zero) = some (.agg #[.int .i64 0, .int .i64 0]) := by kernel_rfl
theorem y27_bz53 : (Try.prog.info? 53).bind (·.zero) = some (.agg #[.int .i64 0, .int .i64 0]) := by kernel_rfl
theorem y27_bu53 : Try.prog.underlying 53 = some (.array 2 3) := by kernel_rfl
theorem y27_bp53 : (Try.prog.info? 3).map (·.size) = some 1 := by kernel_rfl
theorem y27_bz26 : (Try.prog.info? 26).bind (·.zero) = some (.agg #[.string ByteArray.empty, .slice none 0 0, .slice none 0 0, .slice none 0 0]) := by kernel_rfl
theorem y27_bu26 : Try.prog.underlying 26 = some (.struct (fsOf Try.prog 26)) := by kernel_rfl
theorem y27_bp26 : ∀ w, ((fsOf Try.prog 26).mapM fun f => Prod.mk f.offset <$> sizeOf f.type : Sem (Array (Nat × Nat))).run Try.prog w = .ok (#[(0, 1), (1, 1), (2, 1), (3, 1)]) w := fun _ => by kernel_rfl
theorem y27_bz40 : (Try.prog.info? 40).bind (·.zero) = some (.agg #[.int .i64 0, .int .i64 0]) := by kernel_rfl
theorem y27_bu40 : Try.prog.underlying 40 = some (.struct (fsOf Try.prog 40)) := by kernel_rfl
theorem y27_bp40 : ∀ w, ((fsOf Try.prog 40).mapM fun f => Prod.mk f.offset <$> sizeOf f.type : Sem (Array (Nat × Nat))).run Try.prog w = .ok (#[(0, 1), (1, 1)]) w := fun _ => by kernel_rfl
theorem y27_bz42 : (Try.prog.info? 42).bind (·.zero) = some (.agg #[.int .i64 0, .int .i64 0, .int .i64 0, .int .i64 0]) := by kernel_rfl
theorem y27_bu42 : Try.prog.underlying 42 = some (.struct (fsOf Try.prog 42)) := by kernel_rfl
theorem y27_bp42 : ∀ w, ((fsOf Try.prog 42).mapM fun f => Prod.mk f.offset <$> sizeOf f.type : Sem (Array (Nat × Nat))).run Try.prog w = .ok (#[(0, 1), (1, 1), (2, 2)]) w := fun _ => by kernel_rfl
theorem y27_bz47 : (Try.prog.info? 47).bind (·.zero) = some (.agg #[.int .i64 0, .int .i64 0]) := by kernel_rfl
theorem y27_bu47 : Try.prog.underlying 47 = some (.struct (fsOf Try.prog 47)) := by kernel_rfl
theorem y27_bp47 : ∀ w, ((fsOf Try.prog 47).mapM fun f => Prod.mk f.offset <$> sizeOf f.type : Sem (Array (Nat × Nat))).run Try.prog w = .ok (#[(0, 1), (1, 1)]) w := fun _ => by kernel_rfl
theorem y27_bz52 : (Try.prog.info? 52).bind (·.zero) = some (.agg #[.int .i64 0, .int .i64 0, .int .i64 0]) := by kernel_rfl
theorem y27_bu52 : Try.prog.underlying 52 = some (.struct (fsOf Try.prog 52)) := by kernel_rfl
theorem y27_bp52 : ∀ w, ((fsOf Try.prog 52).mapM fun f => Prod.mk f.offset <$> sizeOf f.type : Sem (Array (Nat × Nat))).run Try.prog w = .ok (#[(0, 1), (1, 1), (2, 1)]) w := fun _ => by kernel_rfl
theorem y27_hcf27 : ∀ args w, (callFunc 27 args).run Try.prog w = .ok (.enter 27 args) w := fun _ _ => by kernel_rfl
theorem y27_hcf49 : ∀ args w, (callFunc 49 args).run Try.prog w = .ok (.enter 49 args) w := fun _ _ => by kernel_rfl
theorem y27_hcf58 : ∀ args w, (callFunc 58 args).run Try.prog w = .ok (.enter 58 args) w := fun _ _ => by kernel_rfl
theorem y27_hcf63 : ∀ args w, (callFunc 63 args).run Try.prog w = .ok (.enter 63 args) w := fun _ _ => by kernel_rfl
theorem y27_sl22 : SlIs Try.prog 22 42 4 32 (.agg #[.int .i64 0, .int .i64 0, .int .i64 0, .int .i64 0]) := ⟨by kernel_rfl, by kernel_rfl, by kernel_rfl⟩
theorem y27_sl23 : SlIs Try.prog 23 47 2 16 (.agg #[.int .i64 0, .int .i64 0]) := ⟨by kernel_rfl, by kernel_rfl, by kernel_rfl⟩
theorem y27_sz26 : (Try.prog.info? 26).map (·.size) = some 4 := by kernel_rfl
theorem y27_sz40 : (Try.prog.info? 40).map (·.size) = some 2 := by kernel_rfl
theorem y27_ty26 : TyIs Try.prog 26 true 4 := ⟨by kernel_rfl, by kernel_rfl⟩
theorem y27_ty40 : TyIs Try.prog 40 true 2 := ⟨by kernel_rfl, by kernel_rfl⟩

def lin0 : Lin := ⟨⟨#[115, 104, 111, 114, 116]⟩, [⟨0, 0, 0, 0⟩, ⟨0, 100, 0, 0⟩, ⟨200, 100, 0, 0⟩], [⟨10000, 0⟩, ⟨10000, 100⟩], []⟩
set_option maxRecDepth 100000 in
set_option maxHeartbeats 1000000 in
theorem lin0_ok : FnOk Try.prog 63 [] (fun q => q = lnA lin0) := by
  refine fnOk_of (fn := Try.f63) 9 (by kernel_rfl) rfl (by kernel_rfl) (Nat.le_of_ble_eq_true rfl) ?_
  intro e_0 m_0 hA hm_0
  have ml_0 : m_0.length = 0 := by rw [hm_0]; rfl
  clear hA hm_0
  refine aw_seq ?_
  refine aw_text (by kernel_rfl) ?_
  refine al_stm (st_alloc y27_az26 rfl ml_0) trivial rfl (fun m_1 hm_1 => ?_)
  have mo0_1 := m_push hm_1 ml_0
  simp only [packA_t, packA_f, iE, bE, setAt, cellsA, Value.cells, map_vc, map_vn, Nat.reduceAdd, qS] at mo0_1
  have ml_1 := m_push_l hm_1 ml_0
  have ml_1 : _ = 1 := ml_1
  clear hm_1
  refine al_end (fun e_2 he_2 => ?_)
  have s0_2 := ef 0 he_2 up_h
  clear he_2
  refine then_n ?_
  refine aw_seq ?_
  refine aw_text (by kernel_rfl) ?_
  refine al_ro' (ro_build evP_nil y27_bz42 y27_bu42 y27_bp42 rfl) trivial rfl ?_
  refine al_ro' (ro_build (evP_cons ev_c evP_nil) y27_bz42 y27_bu42 y27_bp42 rfl) trivial rfl ?_
  refine al_ro' (ro_build (evP_cons ev_c (evP_cons ev_c evP_nil)) y27_bz42 y27_bu42 y27_bp42 rfl) trivial rfl ?_
  refine al_ro' (ro_lit y27_sl22 (evP_cons (u2 rfl up_h) (evP_cons (up_m rfl up_h) (evP_cons up_h evP_nil))) rfl rfl rfl rfl) trivial rfl ?_
  refine al_ro' (ro_build (evP_cons ev_c evP_nil) y27_bz47 y27_bu47 y27_bp47 rfl) trivial rfl ?_
  refine al_ro' (ro_build (evP_cons ev_c (evP_cons ev_c evP_nil)) y27_bz47 y27_bu47 y27_bp47 rfl) trivial rfl ?_
  refine al_ro' (ro_lit y27_sl23 (evP_cons (up_m rfl up_h) (evP_cons up_h evP_nil)) rfl rfl rfl rfl) trivial rfl ?_
  refine al_ro' (ro_build (evP_cons ev_c (evP_cons (up_m rfl (u2 rfl up_h)) (evP_cons up_h evP_nil))) y27_bz26 y27_bu26 y27_bp26 rfl) trivial rfl ?_
  refine al_stm (st_store (u8 rfl s0_2) up_h rfl rfl mo0_1 y27_sz26 rfl (by exact Nat.le_of_ble_eq_true rfl)) trivial rfl (fun m_3 hm_3 => ?_)
  have mo0_3 := m_set hm_3 mo0_1
  simp only [packA_t, packA_f, iE, bE, setAt, cellsA, Value.cells, map_vc, map_vn, Nat.reduceAdd, qS] at mo0_3
  have ml_3 := m_set_l hm_3 ml_1
  clear hm_3 mo0_1
  refine al_end (fun e_4 he_4 => ?_)
  have s0_4 := ef 0 he_4 (up_n (u8 rfl s0_2))
  clear he_4 s0_2
  refine then_n ?_
  refine aw_ret ?_
  refine ret1 (.inr rfl) (by kernel_rfl) (resV_cell s0_4 mo0_3 y27_ty26 (by exact Nat.le_of_ble_eq_true rfl) (by simp)) (vw_r (vw_agg (vwl_cons (.ro _ rfl) (vwl_cons (.ro _ rfl) (vwl_cons (.ro _ rfl) (vwl_cons (.nil 3) vwl_nil)))))) ?_
  clear s0_4 mo0_3 ml_3
  rfl
theorem lin0_sho : Sho lin0 := ⟨by decide, by decide, by decide, by decide, by intro s hs; cases hs⟩
theorem lin0_good : (linM lin0).2 = 0 := by kernel_rfl
theorem len0_ok : FnOk Try.prog 49 [lnA lin0] (fun q => q = .tuple [mA 20000, mA 0]) :=
  (lengthOf_good lin0 lin0_sho lin0_good).mono fun q h => h.trans (by kernel_rfl)
theorem lim0_ok : FnOk Try.prog 58 [lnA lin0, mA 1000, mA 1] (fun q => q = .tuple [mA 745250000, mA 0]) :=
  (limitAt_good lin0 lin0_sho lin0_good 1000 1 (fun hs n hn => by
    obtain rfl : n = 1 := by have : lin0.js.length = 3 := rfl
                             omega
    exact limit_low lin0 (rgt_of lin0_good) 1000 (by decide) 1 (by decide) (by decide))).mono fun q h => h.trans (by kernel_rfl)
theorem dev0_ok : FnOk Try.prog 27 [lnA lin0, vehA 10000 60 2500, .agg [mA 2500, mA 1]] (fun q => q = .tuple [.agg [mA (-38), mA (-37)], mA 0]) :=
  (deviationAt_good lin0 lin0_sho lin0_good 10000 60 2500 2500 1 (by decide) (by decide)).mono fun q h => h.trans (by kernel_rfl)
set_option maxRecDepth 100000 in
set_option maxHeartbeats 4000000 in
theorem awake_ok : FnOk Try.prog 13 [] (fun q => q = tbA true) := by
  refine fnOk_of (fn := Try.f13) 47 (by kernel_rfl) rfl (by kernel_rfl) (Nat.le_of_ble_eq_true rfl) ?_
  intro e_0 m_0 hA hm_0
  have ml_0 : m_0.length = 0 := by rw [hm_0]; rfl
  clear hA hm_0
  refine aw_seq ?_
  refine aw_text (by kernel_rfl) ?_
  refine al_ro' (ro_assign ev_c) trivial rfl ?_
  refine al_end (fun e_1 he_1 => ?_)
  clear he_1
  refine then_n ?_
  refine aw_seq ?_
  refine aw_text (by kernel_rfl) ?_
  refine al_ro' (ro_call evL_nil rfl (lin0_ok) y27_hcf63) trivial rfl ?_
  refine al_ro' (ro_call (evL_cons up_h evL_nil) rfl (len0_ok) y27_hcf49) trivial rfl ?_
  refine al_ro' (ro_move up_h) trivial rfl ?_
  refine al_ro' (ro_extract up_h rfl) trivial rfl ?_
  refine al_ro' (ro_extract (up_m rfl up_h) rfl) trivial rfl ?_
  refine al_ro' (ro_assign (up_m rfl up_h)) trivial rfl ?_
  refine al_ro' (ro_assign (up_m rfl up_h)) trivial rfl ?_
  refine al_end (fun e_2 he_2 => ?_)
  have s1_2 := ef 1 he_2 (up_m rfl up_h)
  have s2_2 := ef 2 he_2 up_h
  clear he_2
  refine then_n ?_
  refine aw_seq ?_
  refine aw_text (by kernel_rfl) ?_
  refine al_ro' (ro_call evL_nil rfl (lin0_ok) y27_hcf63) trivial rfl ?_
  refine al_ro' (ro_call (evL_cons up_h (evL_cons ev_c (evL_cons ev_c evL_nil))) rfl (lim0_ok) y27_hcf58) trivial rfl ?_
  refine al_ro' (ro_move up_h) trivial rfl ?_
  refine al_ro' (ro_extract up_h rfl) trivial rfl ?_
  refine al_ro' (ro_extract (up_m rfl up_h) rfl) trivial rfl ?_
  refine al_ro' (ro_assign (up_m rfl up_h)) trivial rfl ?_
  refine al_ro' (ro_assign (up_m rfl up_h)) trivial rfl ?_
  refine al_end (fun e_3 he_3 => ?_)
  have s1_3 := ef 1 he_3 (up_m rfl (u2 rfl (u4 rfl s1_2)))
  have s2_3 := ef 2 he_3 (up_m rfl (u2 rfl (u4 rfl s2_2)))
  have s3_3 := ef 3 he_3 (up_m rfl up_h)
  have s4_3 := ef 4 he_3 up_h
  clear he_3 s1_2 s2_2
  refine then_n ?_
  refine aw_seq ?_
  refine aw_text (by kernel_rfl) ?_
  refine al_ro' (ro_call evL_nil rfl (lin0_ok) y27_hcf63) trivial rfl ?_
  refine al_ro' (ro_build (evP_cons ev_c (evP_cons ev_c (evP_cons ev_c evP_nil))) y27_bz52 y27_bu52 y27_bp52 rfl) trivial rfl ?_
  refine al_ro' (ro_buildA (evP_cons ev_c (evP_cons ev_c evP_nil)) y27_bz53 y27_bu53 y27_bp53 rfl) trivial rfl ?_
  refine al_ro' (ro_call (evL_cons (u2 rfl up_h) (evL_cons (up_m rfl up_h) (evL_cons up_h evL_nil))) rfl (dev0_ok) y27_hcf27) trivial rfl ?_
  refine al_ro' (ro_move up_h) trivial rfl ?_
  refine al_ro' (ro_extract up_h rfl) trivial rfl ?_
  refine al_ro' (ro_extract (up_m rfl up_h) rfl) trivial rfl ?_
  refine al_stm (st_alloc y27_az40 rfl ml_0) trivial rfl (fun m_4 hm_4 => ?_)
  have mo0_4 := m_push hm_4 ml_0
  simp only [packA_t, packA_f, iE, bE, setAt, cellsA, Value.cells, map_vc, map_vn, Nat.reduceAdd, qS] at mo0_4
  have ml_4 := m_push_l hm_4 ml_0
  have ml_4 : _ = 1 := ml_4
  clear hm_4
  refine al_stm (st_store up_h (u2 rfl up_h) rfl rfl mo0_4 y27_sz40 rfl (by exact Nat.le_of_ble_eq_true rfl)) trivial rfl (fun m_5 hm_5 => ?_)
  have mo0_5 := m_set hm_5 mo0_4
  simp only [packA_t, packA_f, iE, bE, setAt, cellsA, Value.cells, map_vc, map_vn, Nat.reduceAdd, qS] at mo0_5
  have ml_5 := m_set_l hm_5 ml_4
  clear hm_5 mo0_4
  refine al_ro' (ro_assign (up_n (up_m rfl up_h))) trivial rfl ?_
  refine al_end (fun e_6 he_6 => ?_)
  have s1_6 := ef 1 he_6 (up_m rfl (up_n (u8 rfl s1_3)))
  have s2_6 := ef 2 he_6 (up_m rfl (up_n (u8 rfl s2_3)))
  have s3_6 := ef 3 he_6 (up_m rfl (up_n (u8 rfl s3_3)))
  have s4_6 := ef 4 he_6 (up_m rfl (up_n (u8 rfl s4_3)))
  have s5_6 := ef 5 he_6 (up_m rfl (up_n up_h))
  have s6_6 := ef 6 he_6 up_h
  clear he_6 s1_3 s2_3 s3_3 s4_3
  refine then_n ?_
  refine aw_seq ?_
  refine aw_text (by kernel_rfl) ?_
  refine al_ro' (ro_move s2_6) trivial rfl ?_
  refine al_ro' (ro_eql up_h ev_c) trivial rfl ?_
  refine al_ro' (ro_move up_h) trivial rfl ?_
  refine al_case up_h (fun hb_7 hq_7 => ?_) (fun hb_7 hq_7 => ?_)
  ·replace hq_7 := bt hq_7
   refine al_ro' (ro_move (up_m rfl (u2 rfl s1_6))) ⟨_, rfl, hb_7⟩ rfl ?_
   refine al_ro' (ro_eql up_h ev_c) ⟨_, rfl, (up_m rfl hb_7)⟩ rfl ?_
   refine al_ro' (ro_pickT (u2 rfl hb_7) up_h) trivial rfl ?_
   refine al_ro' (ro_move up_h) trivial rfl ?_
   refine al_case up_h (fun hb_8 hq_8 => ?_) (fun hb_8 hq_8 => ?_)
   ·replace hq_8 := bt hq_8
    refine al_ro' (ro_move (up_m rfl (u2 rfl (u4 rfl s4_6)))) ⟨_, rfl, hb_8⟩ rfl ?_
    refine al_ro' (ro_eql up_h ev_c) ⟨_, rfl, (up_m rfl hb_8)⟩ rfl ?_
    refine al_ro' (ro_pickT (u2 rfl hb_8) up_h) trivial rfl ?_
    refine al_ro' (ro_move up_h) trivial rfl ?_
    refine al_case up_h (fun hb_9 hq_9 => ?_) (fun hb_9 hq_9 => ?_)
    ·replace hq_9 := bt hq_9
     refine al_ro' (ro_move (up_m rfl (u2 rfl (u8 rfl s3_6)))) ⟨_, rfl, hb_9⟩ rfl ?_
     refine al_ro' (ro_eql up_h ev_c) ⟨_, rfl, (up_m rfl hb_9)⟩ rfl ?_
     refine al_ro' (ro_pickT (u2 rfl hb_9) up_h) trivial rfl ?_
     refine al_ro' (ro_move up_h) trivial rfl ?_
     refine al_case up_h (fun hb_10 hq_10 => ?_) (fun hb_10 hq_10 => ?_)
     ·replace hq_10 := bt hq_10
      refine al_ro' (ro_move (up_m rfl (u2 rfl (u4 rfl (u8 rfl s6_6))))) ⟨_, rfl, hb_10⟩ rfl ?_
      refine al_ro' (ro_eql up_h ev_c) ⟨_, rfl, (up_m rfl hb_10)⟩ rfl ?_
      refine al_ro' (ro_pickT (u2 rfl hb_10) up_h) trivial rfl ?_
      refine al_ro' (ro_move up_h) trivial rfl ?_
      refine al_case up_h (fun hb_11 hq_11 => ?_) (fun hb_11 hq_11 => ?_)
      ·replace hq_11 := bt hq_11
       refine al_ro' (ro_eq (ro_ld_ptr y27_ty40 rfl mo0_5 (up_m rfl (u2 rfl (u16 rfl s5_6))) (by exact Nat.le_of_ble_eq_true rfl)) (by simp only [packA_t, packA_f, iE, bE, setAt, cellsA, Value.cells, map_vc, map_vn, Nat.reduceAdd, qS] <;> rfl)) ⟨_, rfl, hb_11⟩ rfl ?_
       refine al_ro' (ro_build (evP_cons ev_c (evP_cons ev_c evP_nil)) y27_bz40 y27_bu40 y27_bp40 rfl) ⟨_, rfl, (up_m rfl hb_11)⟩ rfl ?_
       refine al_ro' (ro_aeql (up_m rfl up_h) up_h (xs := [.int .i64 (-38), .int .i64 (-37)]) (ys := [.int .i64 (-38), .int .i64 (-37)]) (b := true) ⟨rfl, by kernel_rfl, fun _ => by kernel_rfl⟩) ⟨_, rfl, (u2 rfl hb_11)⟩ rfl ?_
       refine al_ro' (ro_pickT (up_m rfl (u2 rfl hb_11)) up_h) trivial rfl ?_
       refine al_ro' (ro_assign up_h) trivial rfl ?_
       refine al_end (fun e_12 he_12 => ?_)
       have s0_12 := ef 0 he_12 up_h
       clear he_12 hb_10 hb_11 hb_7 hb_8 hb_9 s1_6 s2_6 s3_6 s4_6 s5_6 s6_6
       refine then_n ?_
       refine aw_ret ?_
       refine ret1 (.inr rfl) (by kernel_rfl) (resV_tmp s0_12) (.ro _ rfl) ?_
       clear s0_12 mo0_5 ml_5
       rfl
      · replace hq_11 := bf hq_11; exfalso; omega
     · replace hq_10 := bf hq_10; exfalso; omega
    · replace hq_9 := bf hq_9; exfalso; omega
   · replace hq_8 := bf hq_8; exfalso; omega
  · replace hq_7 := bf hq_7; exfalso; omega
end Go.Proofs.Ytknclifdncmgpaa

/- The law of chapter 1 on deviations. No conditions on a program. -/
namespace Go.Proofs.Ytknclifdncmgpaa
open Go Go.RowKit Go.Proofs
set_option linter.unusedSimpArgs false
set_option linter.unusedVariables false
theorem deviationAt_in (l : Lin) (hl : Sho l) (hg : (linM l).2 = 0) (L c s p j : Int) (hv : vehE L c s = 0) (hp : posE l L s p = 0) (hb : benI l L p j = true) : FnOk Try.prog 27 [lnA l, vehA L c s, .agg [mA p, mA j]] (fun q => q = .tuple [.agg [mA (devLo l L p j.toNat), mA (devHi l L p j.toNat)], mA 0]) :=
  (deviationAt_good l hl hg L c s p j hv hp).mono fun q h => by rw [if_pos hb] at h; exact h
end Go.Proofs.Ytknclifdncmgpaa

/- The law of chapter 1 on narrower ranges. No conditions on a program. -/
namespace Go.Proofs.Ytknclifdncmgpaa
open Go Go.RowKit Go.Proofs
set_option linter.unusedSimpArgs false
set_option linter.unusedVariables false
theorem y42_fl52_2 : FldIs Try.prog 52 2 2 false 1 := by unfold FldIs; kernel_rfl
theorem y42_hcf39 : ∀ args w, (callFunc 39 args).run Try.prog w = .ok (.enter 39 args) w := fun _ _ => by kernel_rfl
theorem y42_ty26 : TyIs Try.prog 26 true 4 := ⟨by kernel_rfl, by kernel_rfl⟩
theorem y42_ty3 : TyIs Try.prog 3 false 1 := ⟨by kernel_rfl, by kernel_rfl⟩

theorem NarL.sho {l m : Lin} (n : NarL l m) (h : Sho l) : Sho m := by
  obtain ⟨h1, h2, h3, h4, h5⟩ := h
  exact ⟨by rw [n.nam]; exact h1, by rw [n.len]; exact h2, by rw [n.bs]; exact h3, by rw [n.ss]; exact h4, by rw [n.ss]; exact h5⟩
/-- The joints beneath a pose, one by one. -/
theorem benP_at {l : Lin} {L p : Int} {i : Nat} (hi : i < (benP l L p l.js.length).length) : ∃ n : Nat, (benP l L p l.js.length).getD i default = (n : Int) ∧ (benL l L p)[i]? = some n ∧ n < l.js.length ∧ p < plaP l.bs n ∧ plaP l.bs n < p + L := by
  have e : benP l L p l.js.length = (benL l L p).map fun (i : Nat) => (i : Int) := rfl
  have hi2 : i < (benL l L p).length := by rw [e] at hi; simpa using hi
  have hm := List.getElem_mem hi2
  have hm2 := List.mem_filter.1 hm
  refine ⟨(benL l L p)[i], ?_, List.getElem?_eq_getElem hi2, List.mem_range.1 hm2.1, ?_⟩
  · rw [e, List.getD_eq_getElem?_getD, List.getElem?_map, List.getElem?_eq_getElem hi2]; rfl
  · have := hm2.2
    unfold benB at this
    simpa using this
theorem benP_len2 {l : Lin} {L p : Int} : (benP l L p l.js.length).length = (benL l L p).length := by
  have e : benP l L p l.js.length = (benL l L p).map fun (i : Nat) => (i : Int) := rfl
  rw [e, List.length_map]
theorem ans_bd (c lo hi : Int) : 0 ≤ ansV c lo hi ∧ ansV c lo hi ≤ 2 := by unfold ansV; (repeat' split) <;> omega
theorem ans_2 {c lo hi : Int} : ansV c lo hi = 2 ↔ -c ≤ lo ∧ hi ≤ c := by unfold ansV; (repeat' split) <;> omega
theorem ans_0 {c lo hi : Int} (hc : 0 ≤ c) (h : lo ≤ hi) : ansV c lo hi = 0 ↔ hi < -c ∨ c < lo := by unfold ansV; (repeat' split) <;> omega
/-- The worst answers of a line and of its narrower one. -/
structure Kep (a b : Int) : Prop where
  bd : 0 ≤ a ∧ a ≤ 2
  bd2 : 0 ≤ b ∧ b ≤ 2
  yes : a = 2 → b = 2
  no : a = 0 → b = 0
theorem worL_kep {l m : Lin} (n : NarL l m) (h : Rgt l) {L c p : Int} (hL : 1000 ≤ L ∧ L ≤ 30000) (hc : 0 ≤ c) (hp : 0 ≤ p ∧ p + L ≤ plaP l.bs l.bs.length) : ∀ i : Nat, i ≤ (benL l L p).length → Kep (worL l L c p ((benL l L p).take i)) (worL m L c p ((benL l L p).take i))
  | 0, _ => ⟨⟨show (0 : Int) ≤ 2 by decide, show (2 : Int) ≤ 2 by decide⟩, ⟨show (0 : Int) ≤ 2 by decide, show (2 : Int) ≤ 2 by decide⟩, fun _ => rfl, fun h => absurd (show (2 : Int) = 0 from h) (by decide)⟩
  | i + 1, hi => by
    have ih := worL_kep n h hL hc hp i (by omega)
    obtain ⟨k, hk, k1, k2, k3⟩ : ∃ k : Nat, (benL l L p)[i]? = some k ∧ k < l.js.length ∧ p < plaP l.bs k ∧ plaP l.bs k < p + L := by
      obtain ⟨k, _, hk⟩ := benP_at (l := l) (L := L) (p := p) (i := i) (by rw [benP_len2]; omega)
      exact ⟨k, hk⟩
    have q := ben_pos hL hp k1 k2 k3
    obtain ⟨d1, d2, d3⟩ := n.dev h q
    have b1 := ans_bd c (devLo l L p k) (devHi l L p k)
    have b2 := ans_bd c (devLo m L p k) (devHi m L p k)
    have y1 := ans_2 (c := c) (lo := devLo l L p k) (hi := devHi l L p k)
    have y2 := ans_2 (c := c) (lo := devLo m L p k) (hi := devHi m L p k)
    have z1 := ans_0 (c := c) (lo := devLo l L p k) (hi := devHi l L p k) hc (by omega)
    have z2 := ans_0 (c := c) (lo := devLo m L p k) (hi := devHi m L p k) hc (by omega)
    rw [worL_next hk, worL_next hk]
    generalize ansV c (devLo l L p k) (devHi l L p k) = A at *
    generalize ansV c (devLo m L p k) (devHi m L p k) = B at *
    obtain ⟨e1, e2, e3, e4⟩ := ih
    refine ⟨by omega, by omega, fun q => ?_, fun q => ?_⟩
    · have := e3 (by omega); have := y1.1 (by omega); have := y2.2 (by omega); omega
    · by_cases ha : A = 0
      · have := z1.1 ha; have := z2.2 (by omega); omega
      · have := e4 (by omega); omega
/-- Whether all answers so far are yes; whether one is no. -/
def yesB (l : Lin) (L c p : Int) (i : Nat) : Bool := decide (worL l L c p ((benL l L p).take i) = 2)
def noB (l : Lin) (L c p : Int) (i : Nat) : Bool := decide (worL l L c p ((benL l L p).take i) = 0)
theorem yesB_next {l : Lin} (h : Rgt l) {L c p : Int} (hL : 1000 ≤ L ∧ L ≤ 30000) (hc : 0 ≤ c) (hp : 0 ≤ p ∧ p + L ≤ plaP l.bs l.bs.length) {i n : Nat} (hn : (benL l L p)[i]? = some n) : yesB l L c p (i + 1) = (yesB l L c p i && decide (-c ≤ devLo l L p n) && decide (devHi l L p n ≤ c)) := by
  have hi : i < (benL l L p).length := (List.getElem?_eq_some_iff.1 hn).1
  have k1 := (worL_kep (NarL.refl h) h hL hc hp i (by omega)).bd
  have b1 := ans_bd c (devLo l L p n) (devHi l L p n)
  have y1 := ans_2 (c := c) (lo := devLo l L p n) (hi := devHi l L p n)
  unfold yesB
  rw [worL_next hn, Bool.eq_iff_iff]
  simp only [Bool.and_eq_true, decide_eq_true_eq]
  generalize ansV c (devLo l L p n) (devHi l L p n) = A at *
  constructor
  · intro q; have := y1.1 (by omega); omega
  · intro q; have := y1.2 (by omega); omega
theorem noB_next {l : Lin} (h : Rgt l) {L c p : Int} (hL : 1000 ≤ L ∧ L ≤ 30000) (hc : 0 ≤ c) (hp : 0 ≤ p ∧ p + L ≤ plaP l.bs l.bs.length) {i n : Nat} (hn : (benL l L p)[i]? = some n) (q : Pos l L p n) : noB l L c p (i + 1) = (noB l L c p i || decide (devHi l L p n < -c) || decide (c < devLo l L p n)) := by
  have hi : i < (benL l L p).length := (List.getElem?_eq_some_iff.1 hn).1
  have k1 := (worL_kep (NarL.refl h) h hL hc hp i (by omega)).bd
  have b1 := ans_bd c (devLo l L p n) (devHi l L p n)
  have d := (NarL.refl h).dev h q
  have y1 := ans_0 (c := c) (lo := devLo l L p n) (hi := devHi l L p n) hc (by omega)
  unfold noB
  rw [worL_next hn, Bool.eq_iff_iff]
  simp only [Bool.or_eq_true, decide_eq_true_eq]
  generalize ansV c (devLo l L p n) (devHi l L p n) = A at *
  constructor
  · intro q
    by_cases ha : A = 0
    · have := y1.1 ha; omega
    · exact .inl (.inl (by omega))
  · intro q
    by_cases ha : A = 0
    · omega
    · have := mt y1.2 ha; omega
/-- At most a hundred poses. -/
def posB (l : Lin) (u : Int) : Bool := decide ((plaP l.bs l.bs.length).tdiv u ≤ 100)
set_option maxRecDepth 100000 in
set_option maxHeartbeats 4000000 in
theorem lposes_ok (l : Lin) (h : Rgt l) (L c u : Int) (hu : 1 ≤ u) : FnOk Try.prog 33 [lnA l, vehA L c u] (fun q => q = tbA (posB l u)) := by
  refine fnOk_of (fn := Try.f33) 11 (by kernel_rfl) rfl (by kernel_rfl) (Nat.le_of_ble_eq_true rfl) ?_
  intro e_0 m_0 hA hm_0
  have s0_0 : evA e_0 (.tmp 0) = _ := hA 0 _ rfl
  have s1_0 : evA e_0 (.tmp 1) = _ := hA 1 _ rfl
  have ml_0 : m_0.length = 0 := by rw [hm_0]; rfl
  clear hA hm_0
  have hpb := h.pla (n := l.bs.length) (Nat.le_refl _); have hq1 := Int.tdiv_nonneg (a := plaP l.bs l.bs.length) (b := u) (by omega) (by omega); have hq2 := Int.tdiv_le_self u (a := plaP l.bs l.bs.length) (by omega)
  refine aw_seq ?_
  refine aw_text (by kernel_rfl) ?_
  refine al_stm (st_box s0_0 rfl ml_0) trivial rfl (fun m_1 hm_1 => ?_)
  have mo0_1 := m_push hm_1 ml_0
  have ml_1 := m_push_l hm_1 ml_0
  have ml_1 : _ = 1 := ml_1
  clear hm_1
  refine al_stm (st_box (up_m rfl s1_0) rfl ml_1) trivial rfl (fun m_2 hm_2 => ?_)
  have mo1_2 := m_push hm_2 ml_1
  have mo0_2 := m_push_o hm_2 mo0_1
  have ml_2 := m_push_l hm_2 ml_1
  have ml_2 : _ = 2 := ml_2
  clear hm_2 mo0_1
  refine al_ro' (ro_assign ev_c) trivial rfl ?_
  refine al_end (fun e_3 he_3 => ?_)
  have s2_3 := ef 2 he_3 (u2 rfl up_h)
  have s3_3 := ef 3 he_3 (up_m rfl up_h)
  clear he_3 s0_0 s1_0
  refine then_n ?_
  refine aw_seq ?_
  refine aw_draw 7 (by kernel_rfl) (by kernel_rfl) (by kernel_rfl) (by kernel_rfl) ?_
  refine ds_ro' (ro_eq (ro_ld_ptr y42_ty26 rfl mo0_2 s2_3 (by exact Nat.le_of_ble_eq_true rfl)) (by simp only [packA_t, packA_f, iE, bE, setAt, cellsA, Value.cells, map_vc, map_vn, Nat.reduceAdd, qS] <;> rfl)) trivial rfl ?_
  refine ds_ro' (ro_call (evL_cons up_h evL_nil) rfl (rLengthOf_ok l (by have := h.n1; have := h.n0; omega) (fun j hj => by have := h.bea j hj; omega)) y42_hcf39) trivial rfl ?_
  refine ds_ro' (ro_fld_ptr y42_fl52_2 rfl (u2 rfl s3_3)) trivial rfl ?_
  refine ds_ro' (ro_eq (ro_ld_ptr y42_ty3 rfl mo1_2 up_h (by exact Nat.le_of_ble_eq_true rfl)) (by simp only [packA_t, packA_f, iE, bE, setAt, cellsA, Value.cells, map_vc, map_vn, Nat.reduceAdd, qS] <;> rfl)) trivial rfl ?_
  (refine ds_ro' (ro_quo' (u2 rfl up_h) up_h (by omega) ?_) trivial rfl ?_; · (unfold In64; omega))
  refine ds_ro' (ro_leq up_h ev_c) trivial rfl ?_
  refine ds_ro' (ro_assign up_h) trivial rfl ?_
  refine ds_nil ?_
  refine al_end (fun e_4 he_4 => ?_)
  have s4_4 := ef 4 he_4 up_h
  clear he_4 s2_3 s3_3
  refine then_n ?_
  refine aw_ret ?_
  refine ret1 (.inr rfl) (by kernel_rfl) (resV_tmp s4_4) (.ro _ rfl) ?_
  clear s4_4 mo1_2 mo0_2 ml_2
  rfl
theorem tmod_add {p u : Int} (hu : 1 ≤ u) (hp : 0 ≤ p) (h : p.tmod u = 0) : (p + u).tmod u = 0 := by
  rw [Int.tmod_eq_emod_of_nonneg (by omega)] at h ⊢
  rw [Int.add_emod_right]; exact h
end Go.Proofs.Ytknclifdncmgpaa

/- The law of chapter 1 on narrower ranges, walked. No conditions on a program. -/
namespace Go.Proofs.Ytknclifdncmgpaa
open Go Go.RowKit Go.Proofs
set_option linter.unusedSimpArgs false
set_option linter.unusedVariables false
theorem y43_az26 : (Try.prog.info? 26).bind (·.zero) = some (.agg #[.string ByteArray.empty, .slice none 0 0, .slice none 0 0, .slice none 0 0]) := by kernel_rfl
theorem y43_az40 : (Try.prog.info? 40).bind (·.zero) = some (.agg #[.int .i64 0, .int .i64 0]) := by kernel_rfl
theorem y43_bz53 : (Try.prog.info? 53).bind (·.zero) = some (.agg #[.int .i64 0, .int .i64 0]) := by kernel_rfl
theorem y43_bu53 : Try.prog.underlying 53 = some (.array 2 3) := by kernel_rfl
theorem y43_bp53 : (Try.prog.info? 3).map (·.size) = some 1 := by kernel_rfl
theorem y43_bn4 (a b : Bool) : ∀ w, (binOp .neq 4 (.bool a) (.bool b)).run Try.prog w = .ok (.bool (!(a == b))) w := fun _ => by cases a <;> cases b <;> kernel_rfl
theorem y43_fl40_0 : FldIs Try.prog 40 0 0 false 1 := by unfold FldIs; kernel_rfl
theorem y43_fl40_1 : FldIs Try.prog 40 1 1 false 1 := by unfold FldIs; kernel_rfl
theorem y43_fl52_0 : FldIs Try.prog 52 0 0 false 1 := by unfold FldIs; kernel_rfl
theorem y43_fl52_1 : FldIs Try.prog 52 1 1 false 1 := by unfold FldIs; kernel_rfl
theorem y43_fl52_2 : FldIs Try.prog 52 2 2 false 1 := by unfold FldIs; kernel_rfl
theorem y43_hcf13 : ∀ args w, (callFunc 13 args).run Try.prog w = .ok (.enter 13 args) w := fun _ _ => by kernel_rfl
theorem y43_hcf14 : ∀ args w, (callFunc 14 args).run Try.prog w = .ok (.enter 14 args) w := fun _ _ => by kernel_rfl
theorem y43_hcf15 : ∀ args w, (callFunc 15 args).run Try.prog w = .ok (.enter 15 args) w := fun _ _ => by kernel_rfl
theorem y43_hcf17 : ∀ args w, (callFunc 17 args).run Try.prog w = .ok (.enter 17 args) w := fun _ _ => by kernel_rfl
theorem y43_hcf27 : ∀ args w, (callFunc 27 args).run Try.prog w = .ok (.enter 27 args) w := fun _ _ => by kernel_rfl
theorem y43_hcf28 : ∀ args w, (callFunc 28 args).run Try.prog w = .ok (.enter 28 args) w := fun _ _ => by kernel_rfl
theorem y43_hcf31 : ∀ args w, (callFunc 31 args).run Try.prog w = .ok (.enter 31 args) w := fun _ _ => by kernel_rfl
theorem y43_hcf33 : ∀ args w, (callFunc 33 args).run Try.prog w = .ok (.enter 33 args) w := fun _ _ => by kernel_rfl
theorem y43_hcf34 : ∀ args w, (callFunc 34 args).run Try.prog w = .ok (.enter 34 args) w := fun _ _ => by kernel_rfl
theorem y43_hcf38 : ∀ args w, (callFunc 38 args).run Try.prog w = .ok (.enter 38 args) w := fun _ _ => by kernel_rfl
theorem y43_hcf39 : ∀ args w, (callFunc 39 args).run Try.prog w = .ok (.enter 39 args) w := fun _ _ => by kernel_rfl
theorem y43_sl60 : SlIs Try.prog 60 3 1 8 (.int .i64 0) := ⟨by kernel_rfl, by kernel_rfl, by kernel_rfl⟩
theorem y43_sl73 : SlIs Try.prog 73 5 1 1 (.int .u8 0) := ⟨by kernel_rfl, by kernel_rfl, by kernel_rfl⟩
theorem y43_sz26 : (Try.prog.info? 26).map (·.size) = some 4 := by kernel_rfl
theorem y43_sz40 : (Try.prog.info? 40).map (·.size) = some 2 := by kernel_rfl
theorem y43_ty26 : TyIs Try.prog 26 true 4 := ⟨by kernel_rfl, by kernel_rfl⟩
theorem y43_ty3 : TyIs Try.prog 3 false 1 := ⟨by kernel_rfl, by kernel_rfl⟩
theorem y43_ty52 : TyIs Try.prog 52 true 3 := ⟨by kernel_rfl, by kernel_rfl⟩

set_option maxRecDepth 100000 in
set_option maxHeartbeats 4000000 in
theorem lineClearAll_many (l : Lin) (hf : fewL l = false) (L c u : Int) (ps : List Int) (hps : ∀ b ∈ ps, 0 ≤ b ∧ b < 256) : FnOk Try.prog 6 [lnA l, vehA L c u, .row 1 (ps.map byE)] (fun q => q = tbA true) := by
  refine fnOk_of (fn := Try.f6) 204 (by kernel_rfl) rfl (by kernel_rfl) (Nat.le_of_ble_eq_true rfl) ?_
  intro e_0 m_0 hA hm_0
  have s0_0 : evA e_0 (.tmp 0) = _ := hA 0 _ rfl
  have s1_0 : evA e_0 (.tmp 1) = _ := hA 1 _ rfl
  have s2_0 : evA e_0 (.tmp 2) = _ := hA 2 _ rfl
  have ml_0 : m_0.length = 0 := by rw [hm_0]; rfl
  clear hA hm_0
  refine aw_seq ?_
  refine aw_text (by kernel_rfl) ?_
  refine al_stm (st_box s0_0 rfl ml_0) trivial rfl (fun m_1 hm_1 => ?_)
  have mo0_1 := m_push hm_1 ml_0
  have ml_1 := m_push_l hm_1 ml_0
  have ml_1 : _ = 1 := ml_1
  clear hm_1
  refine al_stm (st_box (up_m rfl s1_0) rfl ml_1) trivial rfl (fun m_2 hm_2 => ?_)
  have mo1_2 := m_push hm_2 ml_1
  have mo0_2 := m_push_o hm_2 mo0_1
  have ml_2 := m_push_l hm_2 ml_1
  have ml_2 : _ = 2 := ml_2
  clear hm_2 mo0_1
  refine al_ro' (ro_assign ev_c) trivial rfl ?_
  refine al_end (fun e_3 he_3 => ?_)
  have s2_3 := ef 2 he_3 (up_m rfl (u2 rfl s2_0))
  have s3_3 := ef 3 he_3 (u2 rfl up_h)
  have s4_3 := ef 4 he_3 (up_m rfl up_h)
  clear he_3 s0_0 s1_0 s2_0
  refine then_n ?_
  refine aw_seq ?_
  refine aw_seq ?_
  refine aw_text (by kernel_rfl) ?_
  refine al_ro' (ro_call evL_nil rfl (awake_ok) y43_hcf13) trivial rfl ?_
  refine al_ro' (ro_not up_h) trivial rfl ?_
  refine al_end (fun e_4 he_4 => ?_)
  have s2_4 := ef 2 he_4 (u2 rfl s2_3)
  have s3_4 := ef 3 he_4 (u2 rfl s3_3)
  have s4_4 := ef 4 he_4 (u2 rfl s4_3)
  have s22_4 := ef 22 he_4 up_h
  clear he_4 s2_3 s3_3 s4_3
  refine then_n ?_
  refine aw_case s22_4 (fun hq_5 => ?_) (fun hq_5 => ?_)
  · cases hq_5
  replace hq_5 := bf' hq_5
  refine aw_skip ?_
  refine then_n ?_
  refine aw_seq ?_
  refine aw_seq ?_
  refine aw_text (by kernel_rfl) ?_
  refine al_ro' (ro_eq (ro_ld_ptr y43_ty26 rfl mo0_2 s3_4 (by exact Nat.le_of_ble_eq_true rfl)) (by simp only [packA_t, packA_f, iE, bE, setAt, cellsA, Value.cells, map_vc, map_vn, Nat.reduceAdd, qS] <;> rfl)) trivial rfl ?_
  refine al_ro' (ro_call (evL_cons up_h evL_nil) rfl ((fewL_ok l).mono (fun q h => h.trans (by rw [hf]))) y43_hcf14) trivial rfl ?_
  refine al_ro' (ro_not up_h) trivial rfl ?_
  refine al_ro' (ro_move up_h) trivial rfl ?_
  refine al_case up_h (fun hb_6 hq_6 => ?_) (fun hb_6 hq_6 => ?_)
  ·replace hq_6 := bt' hq_6
   refine al_skip' ⟨_, rfl, .inl hb_6⟩ rfl ?_
   refine al_skip' ⟨_, rfl, .inl (up_m rfl hb_6)⟩ rfl ?_
   refine al_skip' ⟨_, rfl, .inl (u2 rfl hb_6)⟩ rfl ?_
   refine al_ro' (ro_pickT (up_m rfl (u2 rfl hb_6)) ev_c) trivial rfl ?_
   refine al_ro' (ro_move up_h) trivial rfl ?_
   refine al_skip' ⟨_, rfl, .inl up_h⟩ rfl ?_
   refine al_skip' ⟨_, rfl, .inl (up_m rfl up_h)⟩ rfl ?_
   refine al_skip' ⟨_, rfl, .inl (u2 rfl up_h)⟩ rfl ?_
   refine al_ro' (ro_pickT (up_m rfl (u2 rfl up_h)) ev_c) trivial rfl ?_
   refine al_ro' (ro_move up_h) trivial rfl ?_
   refine al_skip' ⟨_, rfl, .inl up_h⟩ rfl ?_
   refine al_skip' ⟨_, rfl, .inl (up_m rfl up_h)⟩ rfl ?_
   refine al_skip' ⟨_, rfl, .inl (u2 rfl up_h)⟩ rfl ?_
   refine al_skip' ⟨_, rfl, .inl (up_m rfl (u2 rfl up_h))⟩ rfl ?_
   refine al_ro' (ro_pickT (u4 rfl up_h) ev_c) trivial rfl ?_
   refine al_ro' (ro_move up_h) trivial rfl ?_
   refine al_skip' ⟨_, rfl, .inl up_h⟩ rfl ?_
   refine al_skip' ⟨_, rfl, .inl (up_m rfl up_h)⟩ rfl ?_
   refine al_skip' ⟨_, rfl, .inl (u2 rfl up_h)⟩ rfl ?_
   refine al_ro' (ro_pickT (up_m rfl (u2 rfl up_h)) ev_c) trivial rfl ?_
   refine al_end (fun e_7 he_7 => ?_)
   have s2_7 := ef 2 he_7 (u8 rfl (u16 rfl s2_4))
   have s3_7 := ef 3 he_7 (u8 rfl (u16 rfl s3_4))
   have s4_7 := ef 4 he_7 (u8 rfl (u16 rfl s4_4))
   have s46_7 := ef 46 he_7 up_h
   clear he_7 hb_6 s22_4 s2_4 s3_4 s4_4
   refine then_n ?_
   refine aw_true s46_7 ?_
   refine aw_seq ?_
   refine aw_text (by kernel_rfl) ?_
   refine al_ro' (ro_assign ev_c) trivial rfl ?_
   refine al_end (fun e_9 he_9 => ?_)
   have s6_9 := ef 6 he_9 up_h
   clear he_9 s2_7 s3_7 s46_7 s4_7
   refine then_n ?_
   refine aw_ret ?_
   refine then_r ?_
   refine ret1 (.inr rfl) (by kernel_rfl) (resV_tmp s6_9) (.ro _ rfl) ?_
   clear s6_9 mo1_2 mo0_2 ml_2
   first | rfl | simp_all
  · cases hq_6
set_option maxRecDepth 100000 in
set_option maxHeartbeats 4000000 in
theorem lineClearAll_bad (l : Lin) (hf : fewL l = true) (hb : (linM l).2 ≠ 0) (L c u : Int) (ps : List Int) (hps : ∀ b ∈ ps, 0 ≤ b ∧ b < 256) : FnOk Try.prog 6 [lnA l, vehA L c u, .row 1 (ps.map byE)] (fun q => q = tbA true) := by
  refine fnOk_of (fn := Try.f6) 204 (by kernel_rfl) rfl (by kernel_rfl) (Nat.le_of_ble_eq_true rfl) ?_
  intro e_0 m_0 hA hm_0
  have s0_0 : evA e_0 (.tmp 0) = _ := hA 0 _ rfl
  have s1_0 : evA e_0 (.tmp 1) = _ := hA 1 _ rfl
  have s2_0 : evA e_0 (.tmp 2) = _ := hA 2 _ rfl
  have ml_0 : m_0.length = 0 := by rw [hm_0]; rfl
  clear hA hm_0
  have hl := fewL_sho hf
  refine aw_seq ?_
  refine aw_text (by kernel_rfl) ?_
  refine al_stm (st_box s0_0 rfl ml_0) trivial rfl (fun m_1 hm_1 => ?_)
  have mo0_1 := m_push hm_1 ml_0
  have ml_1 := m_push_l hm_1 ml_0
  have ml_1 : _ = 1 := ml_1
  clear hm_1
  refine al_stm (st_box (up_m rfl s1_0) rfl ml_1) trivial rfl (fun m_2 hm_2 => ?_)
  have mo1_2 := m_push hm_2 ml_1
  have mo0_2 := m_push_o hm_2 mo0_1
  have ml_2 := m_push_l hm_2 ml_1
  have ml_2 : _ = 2 := ml_2
  clear hm_2 mo0_1
  refine al_ro' (ro_assign ev_c) trivial rfl ?_
  refine al_end (fun e_3 he_3 => ?_)
  have s2_3 := ef 2 he_3 (up_m rfl (u2 rfl s2_0))
  have s3_3 := ef 3 he_3 (u2 rfl up_h)
  have s4_3 := ef 4 he_3 (up_m rfl up_h)
  clear he_3 s0_0 s1_0 s2_0
  refine then_n ?_
  refine aw_seq ?_
  refine aw_seq ?_
  refine aw_text (by kernel_rfl) ?_
  refine al_ro' (ro_call evL_nil rfl (awake_ok) y43_hcf13) trivial rfl ?_
  refine al_ro' (ro_not up_h) trivial rfl ?_
  refine al_end (fun e_4 he_4 => ?_)
  have s2_4 := ef 2 he_4 (u2 rfl s2_3)
  have s3_4 := ef 3 he_4 (u2 rfl s3_3)
  have s4_4 := ef 4 he_4 (u2 rfl s4_3)
  have s22_4 := ef 22 he_4 up_h
  clear he_4 s2_3 s3_3 s4_3
  refine then_n ?_
  refine aw_case s22_4 (fun hq_5 => ?_) (fun hq_5 => ?_)
  · cases hq_5
  replace hq_5 := bf' hq_5
  refine aw_skip ?_
  refine then_n ?_
  refine aw_seq ?_
  refine aw_seq ?_
  refine aw_text (by kernel_rfl) ?_
  refine al_ro' (ro_eq (ro_ld_ptr y43_ty26 rfl mo0_2 s3_4 (by exact Nat.le_of_ble_eq_true rfl)) (by simp only [packA_t, packA_f, iE, bE, setAt, cellsA, Value.cells, map_vc, map_vn, Nat.reduceAdd, qS] <;> rfl)) trivial rfl ?_
  refine al_ro' (ro_call (evL_cons up_h evL_nil) rfl ((fewL_ok l).mono (fun q h => h.trans (by rw [hf]))) y43_hcf14) trivial rfl ?_
  refine al_ro' (ro_not up_h) trivial rfl ?_
  refine al_ro' (ro_move up_h) trivial rfl ?_
  refine al_case up_h (fun hb_6 hq_6 => ?_) (fun hb_6 hq_6 => ?_)
  · cases hq_6
  replace hq_6 := bf' hq_6
  refine al_ro' (ro_eq (ro_ld_ptr y43_ty26 rfl mo0_2 (u4 rfl s3_4) (by exact Nat.le_of_ble_eq_true rfl)) (by simp only [packA_t, packA_f, iE, bE, setAt, cellsA, Value.cells, map_vc, map_vn, Nat.reduceAdd, qS] <;> rfl)) ⟨_, rfl, hb_6⟩ rfl ?_
  refine al_ro' (ro_call (evL_cons up_h evL_nil) rfl (lineErr_ok l hl) y43_hcf15) ⟨_, rfl, (up_m rfl hb_6)⟩ rfl ?_
  refine al_ro' (ro_neq up_h ev_c) ⟨_, rfl, (u2 rfl hb_6)⟩ rfl ?_
  refine al_ro' (ro_pickF (up_m rfl (u2 rfl hb_6)) up_h) trivial rfl ?_
  refine al_ro' (ro_move up_h) trivial rfl ?_
  refine al_case up_h (fun hb_7 hq_7 => ?_) (fun hb_7 hq_7 => ?_)
  ·replace hq_7 := bnt hq_7
   refine al_skip' ⟨_, rfl, .inl hb_7⟩ rfl ?_
   refine al_skip' ⟨_, rfl, .inl (up_m rfl hb_7)⟩ rfl ?_
   refine al_skip' ⟨_, rfl, .inl (u2 rfl hb_7)⟩ rfl ?_
   refine al_ro' (ro_pickT (up_m rfl (u2 rfl hb_7)) ev_c) trivial rfl ?_
   refine al_ro' (ro_move up_h) trivial rfl ?_
   refine al_skip' ⟨_, rfl, .inl up_h⟩ rfl ?_
   refine al_skip' ⟨_, rfl, .inl (up_m rfl up_h)⟩ rfl ?_
   refine al_skip' ⟨_, rfl, .inl (u2 rfl up_h)⟩ rfl ?_
   refine al_skip' ⟨_, rfl, .inl (up_m rfl (u2 rfl up_h))⟩ rfl ?_
   refine al_ro' (ro_pickT (u4 rfl up_h) ev_c) trivial rfl ?_
   refine al_ro' (ro_move up_h) trivial rfl ?_
   refine al_skip' ⟨_, rfl, .inl up_h⟩ rfl ?_
   refine al_skip' ⟨_, rfl, .inl (up_m rfl up_h)⟩ rfl ?_
   refine al_skip' ⟨_, rfl, .inl (u2 rfl up_h)⟩ rfl ?_
   refine al_ro' (ro_pickT (up_m rfl (u2 rfl up_h)) ev_c) trivial rfl ?_
   refine al_end (fun e_8 he_8 => ?_)
   have s2_8 := ef 2 he_8 (u8 rfl (u16 rfl s2_4))
   have s3_8 := ef 3 he_8 (u8 rfl (u16 rfl s3_4))
   have s4_8 := ef 4 he_8 (u8 rfl (u16 rfl s4_4))
   have s46_8 := ef 46 he_8 up_h
   clear he_8 hb_6 hb_7 s22_4 s2_4 s3_4 s4_4
   refine then_n ?_
   refine aw_true s46_8 ?_
   refine aw_seq ?_
   refine aw_text (by kernel_rfl) ?_
   refine al_ro' (ro_assign ev_c) trivial rfl ?_
   refine al_end (fun e_10 he_10 => ?_)
   have s6_10 := ef 6 he_10 up_h
   clear he_10 s2_8 s3_8 s46_8 s4_8
   refine then_n ?_
   refine aw_ret ?_
   refine then_r ?_
   refine ret1 (.inr rfl) (by kernel_rfl) (resV_tmp s6_10) (.ro _ rfl) ?_
   clear s6_10 mo1_2 mo0_2 ml_2
   first | rfl | simp_all
  · replace hq_7 := bnf hq_7; exfalso; omega
set_option maxRecDepth 100000 in
set_option maxHeartbeats 4000000 in
theorem lineClearAll_veh (l : Lin) (hf : fewL l = true) (hg : (linM l).2 = 0) (L c u : Int) (hv : vehE L c u ≠ 0) (ps : List Int) (hps : ∀ b ∈ ps, 0 ≤ b ∧ b < 256) : FnOk Try.prog 6 [lnA l, vehA L c u, .row 1 (ps.map byE)] (fun q => q = tbA true) := by
  refine fnOk_of (fn := Try.f6) 204 (by kernel_rfl) rfl (by kernel_rfl) (Nat.le_of_ble_eq_true rfl) ?_
  intro e_0 m_0 hA hm_0
  have s0_0 : evA e_0 (.tmp 0) = _ := hA 0 _ rfl
  have s1_0 : evA e_0 (.tmp 1) = _ := hA 1 _ rfl
  have s2_0 : evA e_0 (.tmp 2) = _ := hA 2 _ rfl
  have ml_0 : m_0.length = 0 := by rw [hm_0]; rfl
  clear hA hm_0
  have hl := fewL_sho hf
  refine aw_seq ?_
  refine aw_text (by kernel_rfl) ?_
  refine al_stm (st_box s0_0 rfl ml_0) trivial rfl (fun m_1 hm_1 => ?_)
  have mo0_1 := m_push hm_1 ml_0
  have ml_1 := m_push_l hm_1 ml_0
  have ml_1 : _ = 1 := ml_1
  clear hm_1
  refine al_stm (st_box (up_m rfl s1_0) rfl ml_1) trivial rfl (fun m_2 hm_2 => ?_)
  have mo1_2 := m_push hm_2 ml_1
  have mo0_2 := m_push_o hm_2 mo0_1
  have ml_2 := m_push_l hm_2 ml_1
  have ml_2 : _ = 2 := ml_2
  clear hm_2 mo0_1
  refine al_ro' (ro_assign ev_c) trivial rfl ?_
  refine al_end (fun e_3 he_3 => ?_)
  have s2_3 := ef 2 he_3 (up_m rfl (u2 rfl s2_0))
  have s3_3 := ef 3 he_3 (u2 rfl up_h)
  have s4_3 := ef 4 he_3 (up_m rfl up_h)
  clear he_3 s0_0 s1_0 s2_0
  refine then_n ?_
  refine aw_seq ?_
  refine aw_seq ?_
  refine aw_text (by kernel_rfl) ?_
  refine al_ro' (ro_call evL_nil rfl (awake_ok) y43_hcf13) trivial rfl ?_
  refine al_ro' (ro_not up_h) trivial rfl ?_
  refine al_end (fun e_4 he_4 => ?_)
  have s2_4 := ef 2 he_4 (u2 rfl s2_3)
  have s3_4 := ef 3 he_4 (u2 rfl s3_3)
  have s4_4 := ef 4 he_4 (u2 rfl s4_3)
  have s22_4 := ef 22 he_4 up_h
  clear he_4 s2_3 s3_3 s4_3
  refine then_n ?_
  refine aw_case s22_4 (fun hq_5 => ?_) (fun hq_5 => ?_)
  · cases hq_5
  replace hq_5 := bf' hq_5
  refine aw_skip ?_
  refine then_n ?_
  refine aw_seq ?_
  refine aw_seq ?_
  refine aw_text (by kernel_rfl) ?_
  refine al_ro' (ro_eq (ro_ld_ptr y43_ty26 rfl mo0_2 s3_4 (by exact Nat.le_of_ble_eq_true rfl)) (by simp only [packA_t, packA_f, iE, bE, setAt, cellsA, Value.cells, map_vc, map_vn, Nat.reduceAdd, qS] <;> rfl)) trivial rfl ?_
  refine al_ro' (ro_call (evL_cons up_h evL_nil) rfl ((fewL_ok l).mono (fun q h => h.trans (by rw [hf]))) y43_hcf14) trivial rfl ?_
  refine al_ro' (ro_not up_h) trivial rfl ?_
  refine al_ro' (ro_move up_h) trivial rfl ?_
  refine al_case up_h (fun hb_6 hq_6 => ?_) (fun hb_6 hq_6 => ?_)
  · cases hq_6
  replace hq_6 := bf' hq_6
  refine al_ro' (ro_eq (ro_ld_ptr y43_ty26 rfl mo0_2 (u4 rfl s3_4) (by exact Nat.le_of_ble_eq_true rfl)) (by simp only [packA_t, packA_f, iE, bE, setAt, cellsA, Value.cells, map_vc, map_vn, Nat.reduceAdd, qS] <;> rfl)) ⟨_, rfl, hb_6⟩ rfl ?_
  refine al_ro' (ro_call (evL_cons up_h evL_nil) rfl (lineErr_ok l hl) y43_hcf15) ⟨_, rfl, (up_m rfl hb_6)⟩ rfl ?_
  refine al_ro' (ro_neq up_h ev_c) ⟨_, rfl, (u2 rfl hb_6)⟩ rfl ?_
  refine al_ro' (ro_pickF (up_m rfl (u2 rfl hb_6)) up_h) trivial rfl ?_
  refine al_ro' (ro_move up_h) trivial rfl ?_
  refine al_case up_h (fun hb_7 hq_7 => ?_) (fun hb_7 hq_7 => ?_)
  · replace hq_7 := bnt hq_7; exfalso; omega
  replace hq_7 := bnf hq_7
  refine al_ro' (ro_eq (ro_ld_ptr y43_ty52 rfl mo1_2 (up_m rfl (u8 rfl s4_4)) (by exact Nat.le_of_ble_eq_true rfl)) (by simp only [packA_t, packA_f, iE, bE, setAt, cellsA, Value.cells, map_vc, map_vn, Nat.reduceAdd, qS] <;> rfl)) ⟨_, rfl, hb_7⟩ rfl ?_
  refine al_ro' (ro_call (evL_cons up_h evL_nil) rfl (rVehicleErr_ok L c u) y43_hcf28) ⟨_, rfl, (up_m rfl hb_7)⟩ rfl ?_
  refine al_ro' (ro_neq up_h ev_c) ⟨_, rfl, (u2 rfl hb_7)⟩ rfl ?_
  refine al_ro' (ro_pickF (up_m rfl (u2 rfl hb_7)) up_h) trivial rfl ?_
  refine al_ro' (ro_move up_h) trivial rfl ?_
  refine al_case up_h (fun hb_8 hq_8 => ?_) (fun hb_8 hq_8 => ?_)
  ·replace hq_8 := bnt hq_8
   refine al_skip' ⟨_, rfl, .inl hb_8⟩ rfl ?_
   refine al_skip' ⟨_, rfl, .inl (up_m rfl hb_8)⟩ rfl ?_
   refine al_skip' ⟨_, rfl, .inl (u2 rfl hb_8)⟩ rfl ?_
   refine al_skip' ⟨_, rfl, .inl (up_m rfl (u2 rfl hb_8))⟩ rfl ?_
   refine al_ro' (ro_pickT (u4 rfl hb_8) ev_c) trivial rfl ?_
   refine al_ro' (ro_move up_h) trivial rfl ?_
   refine al_skip' ⟨_, rfl, .inl up_h⟩ rfl ?_
   refine al_skip' ⟨_, rfl, .inl (up_m rfl up_h)⟩ rfl ?_
   refine al_skip' ⟨_, rfl, .inl (u2 rfl up_h)⟩ rfl ?_
   refine al_ro' (ro_pickT (up_m rfl (u2 rfl up_h)) ev_c) trivial rfl ?_
   refine al_end (fun e_9 he_9 => ?_)
   have s2_9 := ef 2 he_9 (u8 rfl (u16 rfl s2_4))
   have s3_9 := ef 3 he_9 (u8 rfl (u16 rfl s3_4))
   have s4_9 := ef 4 he_9 (u8 rfl (u16 rfl s4_4))
   have s46_9 := ef 46 he_9 up_h
   clear he_9 hb_6 hb_7 hb_8 s22_4 s2_4 s3_4 s4_4
   refine then_n ?_
   refine aw_true s46_9 ?_
   refine aw_seq ?_
   refine aw_text (by kernel_rfl) ?_
   refine al_ro' (ro_assign ev_c) trivial rfl ?_
   refine al_end (fun e_11 he_11 => ?_)
   have s6_11 := ef 6 he_11 up_h
   clear he_11 s2_9 s3_9 s46_9 s4_9
   refine then_n ?_
   refine aw_ret ?_
   refine then_r ?_
   refine ret1 (.inr rfl) (by kernel_rfl) (resV_tmp s6_11) (.ro _ rfl) ?_
   clear s6_11 mo1_2 mo0_2 ml_2
   first | rfl | simp_all
  · replace hq_8 := bnf hq_8; exfalso; omega
set_option maxRecDepth 100000 in
set_option maxHeartbeats 4000000 in
theorem lineClearAll_poses (l : Lin) (hf : fewL l = true) (hg : (linM l).2 = 0) (L c u : Int) (hv : vehE L c u = 0) (hq : posB l u = false) (ps : List Int) (hps : ∀ b ∈ ps, 0 ≤ b ∧ b < 256) : FnOk Try.prog 6 [lnA l, vehA L c u, .row 1 (ps.map byE)] (fun q => q = tbA true) := by
  refine fnOk_of (fn := Try.f6) 204 (by kernel_rfl) rfl (by kernel_rfl) (Nat.le_of_ble_eq_true rfl) ?_
  intro e_0 m_0 hA hm_0
  have s0_0 : evA e_0 (.tmp 0) = _ := hA 0 _ rfl
  have s1_0 : evA e_0 (.tmp 1) = _ := hA 1 _ rfl
  have s2_0 : evA e_0 (.tmp 2) = _ := hA 2 _ rfl
  have ml_0 : m_0.length = 0 := by rw [hm_0]; rfl
  clear hA hm_0
  have hl := fewL_sho hf; have hr := rgt_of hg; have hv2 := vehE_z.1 hv
  refine aw_seq ?_
  refine aw_text (by kernel_rfl) ?_
  refine al_stm (st_box s0_0 rfl ml_0) trivial rfl (fun m_1 hm_1 => ?_)
  have mo0_1 := m_push hm_1 ml_0
  have ml_1 := m_push_l hm_1 ml_0
  have ml_1 : _ = 1 := ml_1
  clear hm_1
  refine al_stm (st_box (up_m rfl s1_0) rfl ml_1) trivial rfl (fun m_2 hm_2 => ?_)
  have mo1_2 := m_push hm_2 ml_1
  have mo0_2 := m_push_o hm_2 mo0_1
  have ml_2 := m_push_l hm_2 ml_1
  have ml_2 : _ = 2 := ml_2
  clear hm_2 mo0_1
  refine al_ro' (ro_assign ev_c) trivial rfl ?_
  refine al_end (fun e_3 he_3 => ?_)
  have s2_3 := ef 2 he_3 (up_m rfl (u2 rfl s2_0))
  have s3_3 := ef 3 he_3 (u2 rfl up_h)
  have s4_3 := ef 4 he_3 (up_m rfl up_h)
  clear he_3 s0_0 s1_0 s2_0
  refine then_n ?_
  refine aw_seq ?_
  refine aw_seq ?_
  refine aw_text (by kernel_rfl) ?_
  refine al_ro' (ro_call evL_nil rfl (awake_ok) y43_hcf13) trivial rfl ?_
  refine al_ro' (ro_not up_h) trivial rfl ?_
  refine al_end (fun e_4 he_4 => ?_)
  have s2_4 := ef 2 he_4 (u2 rfl s2_3)
  have s3_4 := ef 3 he_4 (u2 rfl s3_3)
  have s4_4 := ef 4 he_4 (u2 rfl s4_3)
  have s22_4 := ef 22 he_4 up_h
  clear he_4 s2_3 s3_3 s4_3
  refine then_n ?_
  refine aw_case s22_4 (fun hq_5 => ?_) (fun hq_5 => ?_)
  · cases hq_5
  replace hq_5 := bf' hq_5
  refine aw_skip ?_
  refine then_n ?_
  refine aw_seq ?_
  refine aw_seq ?_
  refine aw_text (by kernel_rfl) ?_
  refine al_ro' (ro_eq (ro_ld_ptr y43_ty26 rfl mo0_2 s3_4 (by exact Nat.le_of_ble_eq_true rfl)) (by simp only [packA_t, packA_f, iE, bE, setAt, cellsA, Value.cells, map_vc, map_vn, Nat.reduceAdd, qS] <;> rfl)) trivial rfl ?_
  refine al_ro' (ro_call (evL_cons up_h evL_nil) rfl ((fewL_ok l).mono (fun q h => h.trans (by rw [hf]))) y43_hcf14) trivial rfl ?_
  refine al_ro' (ro_not up_h) trivial rfl ?_
  refine al_ro' (ro_move up_h) trivial rfl ?_
  refine al_case up_h (fun hb_6 hq_6 => ?_) (fun hb_6 hq_6 => ?_)
  · cases hq_6
  replace hq_6 := bf' hq_6
  refine al_ro' (ro_eq (ro_ld_ptr y43_ty26 rfl mo0_2 (u4 rfl s3_4) (by exact Nat.le_of_ble_eq_true rfl)) (by simp only [packA_t, packA_f, iE, bE, setAt, cellsA, Value.cells, map_vc, map_vn, Nat.reduceAdd, qS] <;> rfl)) ⟨_, rfl, hb_6⟩ rfl ?_
  refine al_ro' (ro_call (evL_cons up_h evL_nil) rfl (lineErr_ok l hl) y43_hcf15) ⟨_, rfl, (up_m rfl hb_6)⟩ rfl ?_
  refine al_ro' (ro_neq up_h ev_c) ⟨_, rfl, (u2 rfl hb_6)⟩ rfl ?_
  refine al_ro' (ro_pickF (up_m rfl (u2 rfl hb_6)) up_h) trivial rfl ?_
  refine al_ro' (ro_move up_h) trivial rfl ?_
  refine al_case up_h (fun hb_7 hq_7 => ?_) (fun hb_7 hq_7 => ?_)
  · replace hq_7 := bnt hq_7; exfalso; omega
  replace hq_7 := bnf hq_7
  refine al_ro' (ro_eq (ro_ld_ptr y43_ty52 rfl mo1_2 (up_m rfl (u8 rfl s4_4)) (by exact Nat.le_of_ble_eq_true rfl)) (by simp only [packA_t, packA_f, iE, bE, setAt, cellsA, Value.cells, map_vc, map_vn, Nat.reduceAdd, qS] <;> rfl)) ⟨_, rfl, hb_7⟩ rfl ?_
  refine al_ro' (ro_call (evL_cons up_h evL_nil) rfl (rVehicleErr_ok L c u) y43_hcf28) ⟨_, rfl, (up_m rfl hb_7)⟩ rfl ?_
  refine al_ro' (ro_neq up_h ev_c) ⟨_, rfl, (u2 rfl hb_7)⟩ rfl ?_
  refine al_ro' (ro_pickF (up_m rfl (u2 rfl hb_7)) up_h) trivial rfl ?_
  refine al_ro' (ro_move up_h) trivial rfl ?_
  refine al_case up_h (fun hb_8 hq_8 => ?_) (fun hb_8 hq_8 => ?_)
  · replace hq_8 := bnt hq_8; exfalso; omega
  replace hq_8 := bnf hq_8
  refine al_ro' (ro_eq (ro_ld_ptr y43_ty26 rfl mo0_2 (u2 rfl (u4 rfl (u8 rfl s3_4))) (by exact Nat.le_of_ble_eq_true rfl)) (by simp only [packA_t, packA_f, iE, bE, setAt, cellsA, Value.cells, map_vc, map_vn, Nat.reduceAdd, qS] <;> rfl)) ⟨_, rfl, hb_8⟩ rfl ?_
  refine al_ro' (ro_eq (ro_ld_ptr y43_ty52 rfl mo1_2 (up_m rfl (u2 rfl (u4 rfl (u8 rfl s4_4)))) (by exact Nat.le_of_ble_eq_true rfl)) (by simp only [packA_t, packA_f, iE, bE, setAt, cellsA, Value.cells, map_vc, map_vn, Nat.reduceAdd, qS] <;> rfl)) ⟨_, rfl, (up_m rfl hb_8)⟩ rfl ?_
  refine al_ro' (ro_call (evL_cons (up_m rfl up_h) (evL_cons up_h evL_nil)) rfl (lposes_ok l hr L c u (by omega)) y43_hcf33) ⟨_, rfl, (u2 rfl hb_8)⟩ rfl ?_
  refine al_ro' (ro_not up_h) ⟨_, rfl, (up_m rfl (u2 rfl hb_8))⟩ rfl ?_
  refine al_ro' (ro_pickF (u4 rfl hb_8) up_h) trivial rfl ?_
  refine al_ro' (ro_move up_h) trivial rfl ?_
  refine al_case up_h (fun hb_9 hq_9 => ?_) (fun hb_9 hq_9 => ?_)
  ·replace hq_9 := bnt hq_9
   refine al_skip' ⟨_, rfl, .inl hb_9⟩ rfl ?_
   refine al_skip' ⟨_, rfl, .inl (up_m rfl hb_9)⟩ rfl ?_
   refine al_skip' ⟨_, rfl, .inl (u2 rfl hb_9)⟩ rfl ?_
   refine al_ro' (ro_pickT (up_m rfl (u2 rfl hb_9)) ev_c) trivial rfl ?_
   refine al_end (fun e_10 he_10 => ?_)
   have s2_10 := ef 2 he_10 (u8 rfl (u16 rfl s2_4))
   have s3_10 := ef 3 he_10 (u8 rfl (u16 rfl s3_4))
   have s4_10 := ef 4 he_10 (u8 rfl (u16 rfl s4_4))
   have s46_10 := ef 46 he_10 up_h
   clear he_10 hb_6 hb_7 hb_8 hb_9 s22_4 s2_4 s3_4 s4_4
   refine then_n ?_
   refine aw_true s46_10 ?_
   refine aw_seq ?_
   refine aw_text (by kernel_rfl) ?_
   refine al_ro' (ro_assign ev_c) trivial rfl ?_
   refine al_end (fun e_12 he_12 => ?_)
   have s6_12 := ef 6 he_12 up_h
   clear he_12 s2_10 s3_10 s46_10 s4_10
   refine then_n ?_
   refine aw_ret ?_
   refine then_r ?_
   refine ret1 (.inr rfl) (by kernel_rfl) (resV_tmp s6_12) (.ro _ rfl) ?_
   clear s6_12 mo1_2 mo0_2 ml_2
   first | rfl | simp_all
  · first | (simp at hq_9; done) | (exact absurd hg hq_9) | (exact absurd hq_9 hv) | (exact absurd hv hq_9) | (exact absurd (by simpa using hq_9) hv) | (exact absurd hv (by simpa using hq_9)) | (rw [hq] at hq_9; simp at hq_9; done)
set_option maxRecDepth 100000 in
set_option maxHeartbeats 4000000 in
theorem lineClearAll_long (l : Lin) (hf : fewL l = true) (hg : (linM l).2 = 0) (L c u : Int) (hv : vehE L c u = 0) (hq : posB l u = true) (ps : List Int) (hk : 50 < ps.length) (hps : ∀ b ∈ ps, 0 ≤ b ∧ b < 256) : FnOk Try.prog 6 [lnA l, vehA L c u, .row 1 (ps.map byE)] (fun q => q = tbA true) := by
  refine fnOk_of (fn := Try.f6) 204 (by kernel_rfl) rfl (by kernel_rfl) (Nat.le_of_ble_eq_true rfl) ?_
  intro e_0 m_0 hA hm_0
  have s0_0 : evA e_0 (.tmp 0) = _ := hA 0 _ rfl
  have s1_0 : evA e_0 (.tmp 1) = _ := hA 1 _ rfl
  have s2_0 : evA e_0 (.tmp 2) = _ := hA 2 _ rfl
  have ml_0 : m_0.length = 0 := by rw [hm_0]; rfl
  clear hA hm_0
  have hl := fewL_sho hf; have hr := rgt_of hg; have hv2 := vehE_z.1 hv
  refine aw_seq ?_
  refine aw_text (by kernel_rfl) ?_
  refine al_stm (st_box s0_0 rfl ml_0) trivial rfl (fun m_1 hm_1 => ?_)
  have mo0_1 := m_push hm_1 ml_0
  have ml_1 := m_push_l hm_1 ml_0
  have ml_1 : _ = 1 := ml_1
  clear hm_1
  refine al_stm (st_box (up_m rfl s1_0) rfl ml_1) trivial rfl (fun m_2 hm_2 => ?_)
  have mo1_2 := m_push hm_2 ml_1
  have mo0_2 := m_push_o hm_2 mo0_1
  have ml_2 := m_push_l hm_2 ml_1
  have ml_2 : _ = 2 := ml_2
  clear hm_2 mo0_1
  refine al_ro' (ro_assign ev_c) trivial rfl ?_
  refine al_end (fun e_3 he_3 => ?_)
  have s2_3 := ef 2 he_3 (up_m rfl (u2 rfl s2_0))
  have s3_3 := ef 3 he_3 (u2 rfl up_h)
  have s4_3 := ef 4 he_3 (up_m rfl up_h)
  clear he_3 s0_0 s1_0 s2_0
  refine then_n ?_
  refine aw_seq ?_
  refine aw_seq ?_
  refine aw_text (by kernel_rfl) ?_
  refine al_ro' (ro_call evL_nil rfl (awake_ok) y43_hcf13) trivial rfl ?_
  refine al_ro' (ro_not up_h) trivial rfl ?_
  refine al_end (fun e_4 he_4 => ?_)
  have s2_4 := ef 2 he_4 (u2 rfl s2_3)
  have s3_4 := ef 3 he_4 (u2 rfl s3_3)
  have s4_4 := ef 4 he_4 (u2 rfl s4_3)
  have s22_4 := ef 22 he_4 up_h
  clear he_4 s2_3 s3_3 s4_3
  refine then_n ?_
  refine aw_case s22_4 (fun hq_5 => ?_) (fun hq_5 => ?_)
  · cases hq_5
  replace hq_5 := bf' hq_5
  refine aw_skip ?_
  refine then_n ?_
  refine aw_seq ?_
  refine aw_seq ?_
  refine aw_text (by kernel_rfl) ?_
  refine al_ro' (ro_eq (ro_ld_ptr y43_ty26 rfl mo0_2 s3_4 (by exact Nat.le_of_ble_eq_true rfl)) (by simp only [packA_t, packA_f, iE, bE, setAt, cellsA, Value.cells, map_vc, map_vn, Nat.reduceAdd, qS] <;> rfl)) trivial rfl ?_
  refine al_ro' (ro_call (evL_cons up_h evL_nil) rfl ((fewL_ok l).mono (fun q h => h.trans (by rw [hf]))) y43_hcf14) trivial rfl ?_
  refine al_ro' (ro_not up_h) trivial rfl ?_
  refine al_ro' (ro_move up_h) trivial rfl ?_
  refine al_case up_h (fun hb_6 hq_6 => ?_) (fun hb_6 hq_6 => ?_)
  · cases hq_6
  replace hq_6 := bf' hq_6
  refine al_ro' (ro_eq (ro_ld_ptr y43_ty26 rfl mo0_2 (u4 rfl s3_4) (by exact Nat.le_of_ble_eq_true rfl)) (by simp only [packA_t, packA_f, iE, bE, setAt, cellsA, Value.cells, map_vc, map_vn, Nat.reduceAdd, qS] <;> rfl)) ⟨_, rfl, hb_6⟩ rfl ?_
  refine al_ro' (ro_call (evL_cons up_h evL_nil) rfl (lineErr_ok l hl) y43_hcf15) ⟨_, rfl, (up_m rfl hb_6)⟩ rfl ?_
  refine al_ro' (ro_neq up_h ev_c) ⟨_, rfl, (u2 rfl hb_6)⟩ rfl ?_
  refine al_ro' (ro_pickF (up_m rfl (u2 rfl hb_6)) up_h) trivial rfl ?_
  refine al_ro' (ro_move up_h) trivial rfl ?_
  refine al_case up_h (fun hb_7 hq_7 => ?_) (fun hb_7 hq_7 => ?_)
  · replace hq_7 := bnt hq_7; exfalso; omega
  replace hq_7 := bnf hq_7
  refine al_ro' (ro_eq (ro_ld_ptr y43_ty52 rfl mo1_2 (up_m rfl (u8 rfl s4_4)) (by exact Nat.le_of_ble_eq_true rfl)) (by simp only [packA_t, packA_f, iE, bE, setAt, cellsA, Value.cells, map_vc, map_vn, Nat.reduceAdd, qS] <;> rfl)) ⟨_, rfl, hb_7⟩ rfl ?_
  refine al_ro' (ro_call (evL_cons up_h evL_nil) rfl (rVehicleErr_ok L c u) y43_hcf28) ⟨_, rfl, (up_m rfl hb_7)⟩ rfl ?_
  refine al_ro' (ro_neq up_h ev_c) ⟨_, rfl, (u2 rfl hb_7)⟩ rfl ?_
  refine al_ro' (ro_pickF (up_m rfl (u2 rfl hb_7)) up_h) trivial rfl ?_
  refine al_ro' (ro_move up_h) trivial rfl ?_
  refine al_case up_h (fun hb_8 hq_8 => ?_) (fun hb_8 hq_8 => ?_)
  · replace hq_8 := bnt hq_8; exfalso; omega
  replace hq_8 := bnf hq_8
  refine al_ro' (ro_eq (ro_ld_ptr y43_ty26 rfl mo0_2 (u2 rfl (u4 rfl (u8 rfl s3_4))) (by exact Nat.le_of_ble_eq_true rfl)) (by simp only [packA_t, packA_f, iE, bE, setAt, cellsA, Value.cells, map_vc, map_vn, Nat.reduceAdd, qS] <;> rfl)) ⟨_, rfl, hb_8⟩ rfl ?_
  refine al_ro' (ro_eq (ro_ld_ptr y43_ty52 rfl mo1_2 (up_m rfl (u2 rfl (u4 rfl (u8 rfl s4_4)))) (by exact Nat.le_of_ble_eq_true rfl)) (by simp only [packA_t, packA_f, iE, bE, setAt, cellsA, Value.cells, map_vc, map_vn, Nat.reduceAdd, qS] <;> rfl)) ⟨_, rfl, (up_m rfl hb_8)⟩ rfl ?_
  refine al_ro' (ro_call (evL_cons (up_m rfl up_h) (evL_cons up_h evL_nil)) rfl (lposes_ok l hr L c u (by omega)) y43_hcf33) ⟨_, rfl, (u2 rfl hb_8)⟩ rfl ?_
  refine al_ro' (ro_not up_h) ⟨_, rfl, (up_m rfl (u2 rfl hb_8))⟩ rfl ?_
  refine al_ro' (ro_pickF (u4 rfl hb_8) up_h) trivial rfl ?_
  refine al_ro' (ro_move up_h) trivial rfl ?_
  refine al_case up_h (fun hb_9 hq_9 => ?_) (fun hb_9 hq_9 => ?_)
  · first | (simp at hq_9; done) | (exact absurd hg hq_9) | (exact absurd hq_9 hv) | (exact absurd hv hq_9) | (exact absurd (by simpa using hq_9) hv) | (exact absurd hv (by simpa using hq_9)) | (rw [hq] at hq_9; simp at hq_9; done)
  replace hq_9 := bnf hq_9
  refine al_ro' (ro_move (u4 rfl (u16 rfl s2_4))) ⟨_, rfl, hb_9⟩ rfl ?_
  refine al_ro' (ro_eq (ro_len_row up_h rfl y43_sl73.1) (by simp only [lnS] <;> rfl)) ⟨_, rfl, (up_m rfl hb_9)⟩ rfl ?_
  refine al_ro' (ro_gtr up_h ev_c) ⟨_, rfl, (u2 rfl hb_9)⟩ rfl ?_
  refine al_ro' (ro_pickF (up_m rfl (u2 rfl hb_9)) up_h) trivial rfl ?_
  refine al_end (fun e_10 he_10 => ?_)
  have s2_10 := ef 2 he_10 (u8 rfl (u16 rfl s2_4))
  have s3_10 := ef 3 he_10 (u8 rfl (u16 rfl s3_4))
  have s4_10 := ef 4 he_10 (u8 rfl (u16 rfl s4_4))
  have s46_10 := ef 46 he_10 up_h
  clear he_10 hb_6 hb_7 hb_8 hb_9 s22_4 s2_4 s3_4 s4_4
  refine then_n ?_
  refine aw_case s46_10 (fun hq_11 => ?_) (fun hq_11 => ?_)
  ·replace hq_11 := bt hq_11
   refine aw_seq ?_
   refine aw_text (by kernel_rfl) ?_
   refine al_ro' (ro_assign ev_c) trivial rfl ?_
   refine al_end (fun e_12 he_12 => ?_)
   have s6_12 := ef 6 he_12 up_h
   clear he_12 s2_10 s3_10 s46_10 s4_10
   refine then_n ?_
   refine aw_ret ?_
   refine then_r ?_
   refine ret1 (.inr rfl) (by kernel_rfl) (resV_tmp s6_12) (.ro _ rfl) ?_
   clear s6_12 mo1_2 mo0_2 ml_2
   first | rfl | simp_all
  · replace hq_11 := bf hq_11; exfalso; omega
set_option maxRecDepth 100000 in
set_option maxHeartbeats 4000000 in
theorem lineClearAll_in (l : Lin) (hf : fewL l = true) (hg : (linM l).2 = 0) (L c u : Int) (hv : vehE L c u = 0) (hq : posB l u = true) (ps : List Int) (hk : ps.length ≤ 50) (hps : ∀ b ∈ ps, 0 ≤ b ∧ b < 256) : FnOk Try.prog 6 [lnA l, vehA L c u, .row 1 (ps.map byE)] (fun q => q = tbA true) := by
  refine fnOk_of (fn := Try.f6) 204 (by kernel_rfl) rfl (by kernel_rfl) (Nat.le_of_ble_eq_true rfl) ?_
  intro e_0 m_0 hA hm_0
  have s0_0 : evA e_0 (.tmp 0) = _ := hA 0 _ rfl
  have s1_0 : evA e_0 (.tmp 1) = _ := hA 1 _ rfl
  have s2_0 : evA e_0 (.tmp 2) = _ := hA 2 _ rfl
  have ml_0 : m_0.length = 0 := by rw [hm_0]; rfl
  clear hA hm_0
  have hl := fewL_sho hf; have hr := rgt_of hg; have hv2 := vehE_z.1 hv; have hn := inA_nar hr hps; have hmr := hn.rgt hr; have hmg := rgt_to hmr; have hms := hn.sho hl; have hn0 := hr.n0; have hn1 := hr.n1; have hjs := hr.js; have hpb := hr.pla (n := l.bs.length) (Nat.le_refl _)
  refine aw_seq ?_
  refine aw_text (by kernel_rfl) ?_
  refine al_stm (st_box s0_0 rfl ml_0) trivial rfl (fun m_1 hm_1 => ?_)
  have mo0_1 := m_push hm_1 ml_0
  have ml_1 := m_push_l hm_1 ml_0
  have ml_1 : _ = 1 := ml_1
  clear hm_1
  refine al_stm (st_box (up_m rfl s1_0) rfl ml_1) trivial rfl (fun m_2 hm_2 => ?_)
  have mo1_2 := m_push hm_2 ml_1
  have mo0_2 := m_push_o hm_2 mo0_1
  have ml_2 := m_push_l hm_2 ml_1
  have ml_2 : _ = 2 := ml_2
  clear hm_2 mo0_1
  refine al_ro' (ro_assign ev_c) trivial rfl ?_
  refine al_end (fun e_3 he_3 => ?_)
  have s2_3 := ef 2 he_3 (up_m rfl (u2 rfl s2_0))
  have s3_3 := ef 3 he_3 (u2 rfl up_h)
  have s4_3 := ef 4 he_3 (up_m rfl up_h)
  clear he_3 s0_0 s1_0 s2_0
  refine then_n ?_
  refine aw_seq ?_
  refine aw_seq ?_
  refine aw_text (by kernel_rfl) ?_
  refine al_ro' (ro_call evL_nil rfl (awake_ok) y43_hcf13) trivial rfl ?_
  refine al_ro' (ro_not up_h) trivial rfl ?_
  refine al_end (fun e_4 he_4 => ?_)
  have s2_4 := ef 2 he_4 (u2 rfl s2_3)
  have s3_4 := ef 3 he_4 (u2 rfl s3_3)
  have s4_4 := ef 4 he_4 (u2 rfl s4_3)
  have s22_4 := ef 22 he_4 up_h
  clear he_4 s2_3 s3_3 s4_3
  refine then_n ?_
  refine aw_case s22_4 (fun hq_5 => ?_) (fun hq_5 => ?_)
  · cases hq_5
  replace hq_5 := bf' hq_5
  refine aw_skip ?_
  refine then_n ?_
  refine aw_seq ?_
  refine aw_seq ?_
  refine aw_text (by kernel_rfl) ?_
  refine al_ro' (ro_eq (ro_ld_ptr y43_ty26 rfl mo0_2 s3_4 (by exact Nat.le_of_ble_eq_true rfl)) (by simp only [packA_t, packA_f, iE, bE, setAt, cellsA, Value.cells, map_vc, map_vn, Nat.reduceAdd, qS, iE, jnE] <;> rfl)) trivial rfl ?_
  refine al_ro' (ro_call (evL_cons up_h evL_nil) rfl ((fewL_ok l).mono (fun q h => h.trans (by rw [hf]))) y43_hcf14) trivial rfl ?_
  refine al_ro' (ro_not up_h) trivial rfl ?_
  refine al_ro' (ro_move up_h) trivial rfl ?_
  refine al_case up_h (fun hb_6 hq_6 => ?_) (fun hb_6 hq_6 => ?_)
  · cases hq_6
  replace hq_6 := bf' hq_6
  refine al_ro' (ro_eq (ro_ld_ptr y43_ty26 rfl mo0_2 (u4 rfl s3_4) (by exact Nat.le_of_ble_eq_true rfl)) (by simp only [packA_t, packA_f, iE, bE, setAt, cellsA, Value.cells, map_vc, map_vn, Nat.reduceAdd, qS, iE, jnE] <;> rfl)) ⟨_, rfl, hb_6⟩ rfl ?_
  refine al_ro' (ro_call (evL_cons up_h evL_nil) rfl (lineErr_ok l hl) y43_hcf15) ⟨_, rfl, (up_m rfl hb_6)⟩ rfl ?_
  refine al_ro' (ro_neq up_h ev_c) ⟨_, rfl, (u2 rfl hb_6)⟩ rfl ?_
  refine al_ro' (ro_pickF (up_m rfl (u2 rfl hb_6)) up_h) trivial rfl ?_
  refine al_ro' (ro_move up_h) trivial rfl ?_
  refine al_case up_h (fun hb_7 hq_7 => ?_) (fun hb_7 hq_7 => ?_)
  · replace hq_7 := bnt hq_7; exfalso; omega
  replace hq_7 := bnf hq_7
  refine al_ro' (ro_eq (ro_ld_ptr y43_ty52 rfl mo1_2 (up_m rfl (u8 rfl s4_4)) (by exact Nat.le_of_ble_eq_true rfl)) (by simp only [packA_t, packA_f, iE, bE, setAt, cellsA, Value.cells, map_vc, map_vn, Nat.reduceAdd, qS, iE, jnE] <;> rfl)) ⟨_, rfl, hb_7⟩ rfl ?_
  refine al_ro' (ro_call (evL_cons up_h evL_nil) rfl (rVehicleErr_ok L c u) y43_hcf28) ⟨_, rfl, (up_m rfl hb_7)⟩ rfl ?_
  refine al_ro' (ro_neq up_h ev_c) ⟨_, rfl, (u2 rfl hb_7)⟩ rfl ?_
  refine al_ro' (ro_pickF (up_m rfl (u2 rfl hb_7)) up_h) trivial rfl ?_
  refine al_ro' (ro_move up_h) trivial rfl ?_
  refine al_case up_h (fun hb_8 hq_8 => ?_) (fun hb_8 hq_8 => ?_)
  · replace hq_8 := bnt hq_8; exfalso; omega
  replace hq_8 := bnf hq_8
  refine al_ro' (ro_eq (ro_ld_ptr y43_ty26 rfl mo0_2 (u2 rfl (u4 rfl (u8 rfl s3_4))) (by exact Nat.le_of_ble_eq_true rfl)) (by simp only [packA_t, packA_f, iE, bE, setAt, cellsA, Value.cells, map_vc, map_vn, Nat.reduceAdd, qS, iE, jnE] <;> rfl)) ⟨_, rfl, hb_8⟩ rfl ?_
  refine al_ro' (ro_eq (ro_ld_ptr y43_ty52 rfl mo1_2 (up_m rfl (u2 rfl (u4 rfl (u8 rfl s4_4)))) (by exact Nat.le_of_ble_eq_true rfl)) (by simp only [packA_t, packA_f, iE, bE, setAt, cellsA, Value.cells, map_vc, map_vn, Nat.reduceAdd, qS, iE, jnE] <;> rfl)) ⟨_, rfl, (up_m rfl hb_8)⟩ rfl ?_
  refine al_ro' (ro_call (evL_cons (up_m rfl up_h) (evL_cons up_h evL_nil)) rfl (lposes_ok l hr L c u (by omega)) y43_hcf33) ⟨_, rfl, (u2 rfl hb_8)⟩ rfl ?_
  refine al_ro' (ro_not up_h) ⟨_, rfl, (up_m rfl (u2 rfl hb_8))⟩ rfl ?_
  refine al_ro' (ro_pickF (u4 rfl hb_8) up_h) trivial rfl ?_
  refine al_ro' (ro_move up_h) trivial rfl ?_
  refine al_case up_h (fun hb_9 hq_9 => ?_) (fun hb_9 hq_9 => ?_)
  · first | (simp at hq_9; done) | (exact absurd hg hq_9) | (exact absurd hq_9 hv) | (exact absurd hv hq_9) | (exact absurd (by simpa using hq_9) hv) | (exact absurd hv (by simpa using hq_9)) | (rw [hq] at hq_9; simp at hq_9; done) | (rw [i3] at hq_9; simp at hq_9; done) | (rw [i4] at hq_9; simp at hq_9; done) | (have := kp.yes; have := kp.no; simp_all; done)
  replace hq_9 := bnf hq_9
  refine al_ro' (ro_move (u4 rfl (u16 rfl s2_4))) ⟨_, rfl, hb_9⟩ rfl ?_
  refine al_ro' (ro_eq (ro_len_row up_h rfl y43_sl73.1) (by simp only [lnS] <;> rfl)) ⟨_, rfl, (up_m rfl hb_9)⟩ rfl ?_
  refine al_ro' (ro_gtr up_h ev_c) ⟨_, rfl, (u2 rfl hb_9)⟩ rfl ?_
  refine al_ro' (ro_pickF (up_m rfl (u2 rfl hb_9)) up_h) trivial rfl ?_
  refine al_end (fun e_10 he_10 => ?_)
  have s2_10 := ef 2 he_10 (u8 rfl (u16 rfl s2_4))
  have s3_10 := ef 3 he_10 (u8 rfl (u16 rfl s3_4))
  have s4_10 := ef 4 he_10 (u8 rfl (u16 rfl s4_4))
  have s46_10 := ef 46 he_10 up_h
  clear he_10 hb_6 hb_7 hb_8 hb_9 s22_4 s2_4 s3_4 s4_4
  refine then_n ?_
  refine aw_case s46_10 (fun hq_11 => ?_) (fun hq_11 => ?_)
  · replace hq_11 := bt hq_11; exfalso; omega
  replace hq_11 := bf hq_11
  refine aw_skip ?_
  refine then_n ?_
  refine aw_seq ?_
  refine aw_text (by kernel_rfl) ?_
  refine al_ro' (ro_eq (ro_ld_ptr y43_ty26 rfl mo0_2 s3_10 (by exact Nat.le_of_ble_eq_true rfl)) (by simp only [packA_t, packA_f, iE, bE, setAt, cellsA, Value.cells, map_vc, map_vn, Nat.reduceAdd, qS, iE, jnE] <;> rfl)) trivial rfl ?_
  refine al_ro' (ro_move (up_m rfl s2_10)) trivial rfl ?_
  refine al_ro' (ro_call (evL_cons (up_m rfl up_h) (evL_cons up_h evL_nil)) rfl (inner_ok l hl hr ps hps (by omega)) y43_hcf38) trivial rfl ?_
  refine al_stm (st_alloc y43_az26 rfl ml_2) trivial rfl (fun m_12 hm_12 => ?_)
  have mo2_12 := m_push hm_12 ml_2
  simp only [packA_t, packA_f, iE, bE, setAt, cellsA, Value.cells, map_vc, map_vn, Nat.reduceAdd, qS, iE, jnE] at mo2_12
  have mo1_12 := m_push_o hm_12 mo1_2
  have mo0_12 := m_push_o hm_12 mo0_2
  have ml_12 := m_push_l hm_12 ml_2
  have ml_12 : _ = 3 := ml_12
  clear hm_12 mo1_2 mo0_2
  refine al_stm (st_store up_h (up_m rfl up_h) rfl rfl mo2_12 y43_sz26 rfl (by exact Nat.le_of_ble_eq_true rfl)) trivial rfl (fun m_13 hm_13 => ?_)
  have mo2_13 := m_set hm_13 mo2_12
  simp only [packA_t, packA_f, iE, bE, setAt, cellsA, Value.cells, map_vc, map_vn, Nat.reduceAdd, qS, iE, jnE] at mo2_13
  have mo1_13 := m_set_o hm_13 mo1_12 (by decide)
  have mo0_13 := m_set_o hm_13 mo0_12 (by decide)
  have ml_13 := m_set_l hm_13 ml_12
  clear hm_13 mo2_12 mo1_12 mo0_12
  refine al_end (fun e_14 he_14 => ?_)
  have s3_14 := ef 3 he_14 (up_n (u4 rfl s3_10))
  have s4_14 := ef 4 he_14 (up_n (u4 rfl s4_10))
  have s7_14 := ef 7 he_14 (up_n up_h)
  clear he_14 s2_10 s3_10 s46_10 s4_10
  refine then_n ?_
  refine aw_seq ?_
  refine aw_seq ?_
  refine aw_text (by kernel_rfl) ?_
  refine al_ro' (ro_assign ev_c) trivial rfl ?_
  refine al_end (fun e_15 he_15 => ?_)
  have s3_15 := ef 3 he_15 (up_m rfl s3_14)
  have s4_15 := ef 4 he_15 (up_m rfl s4_14)
  have s7_15 := ef 7 he_15 (up_m rfl s7_14)
  have s8_15 := ef 8 he_15 up_h
  clear he_15 s3_14 s4_14 s7_14
  refine then_n ?_
  refine aw_block ?_
  refine aw_loop (S := Int) (fun p e mem => (evA e (.tmp 8) = .v (.int .i64 p)) ∧ (evA e (.tmp 3) = evA e_15 (.tmp 3)) ∧ (evA e (.tmp 4) = evA e_15 (.tmp 4)) ∧ (evA e (.tmp 7) = evA e_15 (.tmp 7)) ∧ (mem[2]? = m_13[2]?) ∧ (mem[1]? = m_13[1]?) ∧ (mem[0]? = m_13[0]?) ∧ (∃ n, mem.length = n ∧ 3 ≤ n) ∧ ((0 ≤ p ∧ p ≤ 1300000 ∧ p.tmod u = 0))) (fun p => (1300000 - p).toNat) _ ⟨s8_15, rfl, rfl, rfl, rfl, rfl, rfl, ⟨_, ml_13, Nat.le_refl _⟩, ?_⟩ ?_
  · (exact ⟨by omega, by omega, Int.zero_tmod _⟩)
  · rintro p e_16 m_16 ⟨s8_16, k3_16, k4_16, k7_16, mk2_16, mk1_16, mk0_16, ⟨n_16, ml_16, hn_16⟩, hinv⟩
    have s3_16 := k3_16.trans s3_15
    have s4_16 := k4_16.trans s4_15
    have s7_16 := k7_16.trans s7_15
    have mo2_16 := mk2_16.trans mo2_13
    have mo1_16 := mk1_16.trans mo1_13
    have mo0_16 := mk0_16.trans mo0_13
    (obtain ⟨p1, p2, p3⟩ := hinv)
    refine aw_seq ?_
    refine aw_seq ?_
    refine aw_draw 7 (by kernel_rfl) (by kernel_rfl) (by kernel_rfl) (by kernel_rfl) ?_
    refine ds_ro' (ro_move s8_16) trivial rfl ?_
    refine ds_ro' (ro_fld_ptr y43_fl52_0 rfl (up_m rfl s4_16)) trivial rfl ?_
    refine ds_ro' (ro_eq (ro_ld_ptr y43_ty3 rfl mo1_16 up_h (by exact Nat.le_of_ble_eq_true rfl)) (by simp only [packA_t, packA_f, iE, bE, setAt, cellsA, Value.cells, map_vc, map_vn, Nat.reduceAdd, qS, iE, jnE] <;> rfl)) trivial rfl ?_
    (refine ds_ro' (ro_add' (u2 rfl up_h) up_h ?_) trivial rfl ?_; · (unfold In64; omega))
    refine ds_ro' (ro_eq (ro_ld_ptr y43_ty26 rfl mo0_16 (u4 rfl s3_16) (by exact Nat.le_of_ble_eq_true rfl)) (by simp only [packA_t, packA_f, iE, bE, setAt, cellsA, Value.cells, map_vc, map_vn, Nat.reduceAdd, qS, iE, jnE] <;> rfl)) trivial rfl ?_
    refine ds_ro' (ro_call (evL_cons up_h evL_nil) rfl (rLengthOf_ok l (by have := hr.n1; have := hr.n0; omega) (fun j hj => by have := hr.bea j hj; omega)) y43_hcf39) trivial rfl ?_
    refine ds_ro' (ro_leq (u2 rfl up_h) up_h) trivial rfl ?_
    refine ds_nil ?_
    refine al_end (fun e_17 he_17 => ?_)
    have s3_17 := ef 3 he_17 (up_m rfl (u2 rfl (u4 rfl s3_16)))
    have s4_17 := ef 4 he_17 (up_m rfl (u2 rfl (u4 rfl s4_16)))
    have s7_17 := ef 7 he_17 (up_m rfl (u2 rfl (u4 rfl s7_16)))
    have s8_17 := ef 8 he_17 (up_m rfl (u2 rfl (u4 rfl s8_16)))
    have s56_17 := ef 56 he_17 up_h
    clear he_17 s3_16 s4_16 s7_16 s8_16
    refine then_n ?_
    refine aw_case s56_17 (fun hq_18 => ?_) (fun hq_18 => ?_)
    ·replace hq_18 := bt hq_18
     (have hp : posE l L u p = 0 := posE_z.2 ⟨⟨by omega, by omega⟩, p3⟩; have hpm : posE (inA l ps) L u p = 0 := (by rw [show posE (inA l ps) L u p = posE l L u p from by unfold posE; rw [hn.bs]]; exact hp); have bl := benP_len (l := l) (L := L) (p := p) (n := l.js.length); have kp := worL_kep hn hr hv2.1 hv2.2.1.1 (p := p) (by omega) _ (Nat.le_refl _); rw [List.take_length] at kp; have cl2 := clearAt_good (inA l ps) hms hmg L c u p hv hpm; rw [hn.ben] at cl2)
     refine aw_skip ?_
     refine then_n ?_
     refine aw_seq ?_
     refine aw_block ?_
     refine aw_seq ?_
     refine aw_text (by kernel_rfl) ?_
     refine al_ro' (ro_eq (ro_ld_ptr y43_ty26 rfl mo0_16 s3_17 (by exact Nat.le_of_ble_eq_true rfl)) (by simp only [packA_t, packA_f, iE, bE, setAt, cellsA, Value.cells, map_vc, map_vn, Nat.reduceAdd, qS, iE, jnE] <;> rfl)) trivial rfl ?_
     refine al_ro' (ro_eq (ro_ld_ptr y43_ty52 rfl mo1_16 (up_m rfl s4_17) (by exact Nat.le_of_ble_eq_true rfl)) (by simp only [packA_t, packA_f, iE, bE, setAt, cellsA, Value.cells, map_vc, map_vn, Nat.reduceAdd, qS, iE, jnE] <;> rfl)) trivial rfl ?_
     refine al_ro' (ro_move (u2 rfl s8_17)) trivial rfl ?_
     refine al_ro' (ro_call (evL_cons (u2 rfl up_h) (evL_cons (up_m rfl up_h) (evL_cons up_h evL_nil))) rfl (rBeneath_ok l hr L c u p (by omega) (by omega)) y43_hcf31) trivial rfl ?_
     refine al_ro' (ro_assign up_h) trivial rfl ?_
     refine al_end (fun e_19 he_19 => ?_)
     have s3_19 := ef 3 he_19 (up_m rfl (u4 rfl s3_17))
     have s4_19 := ef 4 he_19 (up_m rfl (u4 rfl s4_17))
     have s7_19 := ef 7 he_19 (up_m rfl (u4 rfl s7_17))
     have s8_19 := ef 8 he_19 (up_m rfl (u4 rfl s8_17))
     have s9_19 := ef 9 he_19 up_h
     clear he_19 s3_17 s4_17 s56_17 s7_17 s8_17
     refine then_n ?_
     refine aw_seq ?_
     refine aw_text (by kernel_rfl) ?_
     refine al_ro' (ro_assign ev_c) trivial rfl ?_
     refine al_ro' (ro_assign ev_c) trivial rfl ?_
     refine al_end (fun e_20 he_20 => ?_)
     have s3_20 := ef 3 he_20 (u2 rfl s3_19)
     have s4_20 := ef 4 he_20 (u2 rfl s4_19)
     have s7_20 := ef 7 he_20 (u2 rfl s7_19)
     have s8_20 := ef 8 he_20 (u2 rfl s8_19)
     have s9_20 := ef 9 he_20 (u2 rfl s9_19)
     have s10_20 := ef 10 he_20 (up_m rfl up_h)
     have s11_20 := ef 11 he_20 up_h
     clear he_20 s3_19 s4_19 s7_19 s8_19 s9_19
     refine then_n ?_
     refine aw_seq ?_
     refine aw_seq ?_
     refine aw_text (by kernel_rfl) ?_
     refine al_ro' (ro_assign ev_c) trivial rfl ?_
     refine al_end (fun e_21 he_21 => ?_)
     have s3_21 := ef 3 he_21 (up_m rfl s3_20)
     have s4_21 := ef 4 he_21 (up_m rfl s4_20)
     have s7_21 := ef 7 he_21 (up_m rfl s7_20)
     have s8_21 := ef 8 he_21 (up_m rfl s8_20)
     have s9_21 := ef 9 he_21 (up_m rfl s9_20)
     have s10_21 := ef 10 he_21 (up_m rfl s10_20)
     have s11_21 := ef 11 he_21 (up_m rfl s11_20)
     have s12_21 := ef 12 he_21 up_h
     clear he_21 s10_20 s11_20 s3_20 s4_20 s7_20 s8_20 s9_20
     refine then_n ?_
     refine aw_block ?_
     refine aw_loop (S := (Int × Bool × Bool)) (fun s e mem => match s with | ⟨i, y, n⟩ => (evA e (.tmp 12) = .v (.int .i64 i)) ∧ (evA e (.tmp 10) = .v (.bool y)) ∧ (evA e (.tmp 11) = .v (.bool n)) ∧ (evA e (.tmp 3) = evA e_21 (.tmp 3)) ∧ (evA e (.tmp 4) = evA e_21 (.tmp 4)) ∧ (evA e (.tmp 7) = evA e_21 (.tmp 7)) ∧ (evA e (.tmp 8) = evA e_21 (.tmp 8)) ∧ (evA e (.tmp 9) = evA e_21 (.tmp 9)) ∧ (mem[2]? = m_16[2]?) ∧ (mem[1]? = m_16[1]?) ∧ (mem[0]? = m_16[0]?) ∧ (∃ n, mem.length = n ∧ n_16 ≤ n) ∧ ((0 ≤ i ∧ i ≤ (benP l L p l.js.length).length ∧ y = yesB l L c p i.toNat ∧ n = noB l L c p i.toNat))) (fun s => match s with | ⟨i, y, n⟩ => ((benP l L p l.js.length).length - i).toNat) ⟨_, _, _⟩ ⟨s12_21, s10_21, s11_21, rfl, rfl, rfl, rfl, rfl, rfl, rfl, rfl, ⟨_, ml_16, Nat.le_refl _⟩, ?_⟩ ?_
     · (exact ⟨by omega, by omega, rfl, rfl⟩)
     · rintro ⟨i, y, n⟩ e_22 m_22 ⟨s12_22, s10_22, s11_22, k3_22, k4_22, k7_22, k8_22, k9_22, mk2_22, mk1_22, mk0_22, ⟨n_22, ml_22, hn_22⟩, hinv⟩
       have s3_22 := k3_22.trans s3_21
       have s4_22 := k4_22.trans s4_21
       have s7_22 := k7_22.trans s7_21
       have s8_22 := k8_22.trans s8_21
       have s9_22 := k9_22.trans s9_21
       have mo2_22 := mk2_22.trans mo2_16
       have mo1_22 := mk1_22.trans mo1_16
       have mo0_22 := mk0_22.trans mo0_16
       (obtain ⟨i1, i2, i3, i4⟩ := hinv)
       refine aw_seq ?_
       refine aw_seq ?_
       refine aw_text (by kernel_rfl) ?_
       refine al_ro' (ro_move s12_22) trivial rfl ?_
       refine al_ro' (ro_move (up_m rfl s9_22)) trivial rfl ?_
       refine al_ro' (ro_eq (ro_len_row up_h rfl y43_sl60.1) (by simp only [lnS] <;> rfl)) trivial rfl ?_
       refine al_ro' (ro_lss (u2 rfl up_h) up_h) trivial rfl ?_
       refine al_end (fun e_23 he_23 => ?_)
       have s3_23 := ef 3 he_23 (u4 rfl s3_22)
       have s4_23 := ef 4 he_23 (u4 rfl s4_22)
       have s7_23 := ef 7 he_23 (u4 rfl s7_22)
       have s8_23 := ef 8 he_23 (u4 rfl s8_22)
       have s9_23 := ef 9 he_23 (u4 rfl s9_22)
       have s10_23 := ef 10 he_23 (u4 rfl s10_22)
       have s11_23 := ef 11 he_23 (u4 rfl s11_22)
       have s12_23 := ef 12 he_23 (u4 rfl s12_22)
       have s68_23 := ef 68 he_23 up_h
       clear he_23 s10_22 s11_22 s12_22 s3_22 s4_22 s7_22 s8_22 s9_22
       refine then_n ?_
       refine aw_case s68_23 (fun hq_24 => ?_) (fun hq_24 => ?_)
       ·replace hq_24 := bt hq_24
        (obtain ⟨n0, b0, b1, b2, b3, b4⟩ := benP_at (l := l) (L := L) (p := p) (i := i.toNat) (by omega); have q0 := ben_pos hv2.1 (by omega) b2 b3 b4; obtain ⟨d1, d2, d3⟩ := hn.dev hr q0; have yn1 := yesB_next hr hv2.1 hv2.2.1.1 (by omega) b1; have nn1 := noB_next hr hv2.1 hv2.2.1.1 (by omega) b1 q0; have hb1 : benI l L p (n0 : Int) = true := benI_yes rfl b2 b3 b4; have hb2 : benI (inA l ps) L p (n0 : Int) = true := benI_yes rfl (by rw [hn.len]; exact b2) (by rw [hn.bs]; exact b3) (by rw [hn.bs]; exact b4); have dv1 := deviationAt_in l hl hg L c u p n0 hv hp hb1; have dv2 := deviationAt_in (inA l ps) hms hmg L c u p n0 hv hpm hb2; rw [Int.toNat_natCast] at dv1 dv2; rw [← b0] at dv1 dv2)
        refine aw_skip ?_
        refine then_n ?_
        refine aw_seq ?_
        refine aw_block ?_
        refine aw_seq ?_
        refine aw_drawK 15 1 ml_22 (by kernel_rfl) (by kernel_rfl) (by kernel_rfl) (by kernel_rfl) (fun m_25 hm_25 => ?_)
        have mo2_25 := m_room_o hm_25 mo2_22
        have mo1_25 := m_room_o hm_25 mo1_22
        have mo0_25 := m_room_o hm_25 mo0_22
        have mon_22_25 : m_25[n_22]? = _ := m_room_g hm_25 ml_22 0 rfl rfl
        have ml_25 : _ = n_22 + 1 := m_room_l (K := 1) hm_25 ml_22
        clear hm_25 mo2_22 mo1_22 mo0_22 ml_22
        refine dh_ld (0) (fun M_ hM_ => (ro_eq (ro_ld_ptr y43_ty26 rfl (agr hM_ mo0_25 (by simp)) s3_23 (by exact Nat.le_of_ble_eq_true rfl)) (by simp only [packA_t, packA_f, iE, bE, setAt, cellsA, Value.cells, map_vc, map_vn, Nat.reduceAdd, qS, iE, jnE] <;> rfl))) trivial trivial ?_
        refine dh_ro (fun M_ hM_ => (ro_call (evL_cons up_h evL_nil) rfl (yCopy_ok l hl) y43_hcf17)) trivial ?_
        refine dh_ld (1) (fun M_ hM_ => (ro_eq (ro_ld_ptr y43_ty52 rfl (agr hM_ mo1_25 (by simp)) (u2 rfl s4_23) (by exact Nat.le_of_ble_eq_true rfl)) (by simp only [packA_t, packA_f, iE, bE, setAt, cellsA, Value.cells, map_vc, map_vn, Nat.reduceAdd, qS, iE, jnE] <;> rfl))) trivial trivial ?_
        refine dh_ro (fun M_ hM_ => (ro_move (up_m rfl (u2 rfl s8_23)))) trivial ?_
        refine dh_ro (fun M_ hM_ => (ro_move (u4 rfl s9_23))) trivial ?_
        refine dh_ro (fun M_ hM_ => (ro_move (up_m rfl (u4 rfl s12_23)))) trivial ?_
        refine dh_ro (fun M_ hM_ => (ro_eq (ro_ix y43_sl60 (up_m rfl up_h) up_h (by omega) (by first | (refine idx_map ?_; first | omega | (simp only [lnS]; omega)) | (refine idx_mapI ?_; first | omega | (simp only [lnS]; omega)) | (refine idx_mapN ?_; first | omega | (simp only [lnS]; omega)) | rfl)) (by simp only [packA_t, packA_f, iE, bE, setAt, cellsA, Value.cells, map_vc, map_vn, Nat.reduceAdd, qS, iE, jnE] <;> rfl))) trivial ?_
        refine dh_ro (fun M_ hM_ => (ro_eq (ro_ld_ref y43_ty3 rfl up_h (by exact Nat.le_of_ble_eq_true rfl)) (by simp only [packA_t, packA_f, iE, bE, setAt, cellsA, Value.cells, map_vc, map_vn, Nat.reduceAdd, qS, iE, jnE] <;> rfl))) trivial ?_
        refine dh_ro (fun M_ hM_ => (ro_buildA (evP_cons (u4 rfl up_h) (evP_cons up_h evP_nil)) y43_bz53 y43_bu53 y43_bp53 rfl)) trivial ?_
        refine dh_ro (fun M_ hM_ => (ro_call (evL_cons (up_m rfl (u2 rfl (u4 rfl up_h))) (evL_cons (u2 rfl (u4 rfl up_h)) (evL_cons up_h evL_nil))) rfl (dv1) y43_hcf27)) trivial ?_
        refine dh_ro (fun M_ hM_ => (ro_move up_h)) trivial ?_
        refine dh_ro (fun M_ hM_ => (ro_extract up_h rfl)) trivial ?_
        refine dh_ro (fun M_ hM_ => (ro_extract (up_m rfl up_h) rfl)) trivial ?_
        refine dh_nw (n_22) (fun M_ hM_ => (nw_alloc y43_az40 rfl)) trivial mon_22_25 rfl trivial ⟨.inl (by simp <;> omega), ⟨.inl (by simp <;> omega), trivial⟩⟩ (fun m_26 hm_26 => ?_)
        have mon_22_26 := m_set hm_26 mon_22_25
        simp only [packA_t, packA_f, iE, bE, setAt, cellsA, Value.cells, map_vc, map_vn, Nat.reduceAdd, qS, iE, jnE] at mon_22_26
        have mo2_26 := m_set_o hm_26 mo2_25 (by omega)
        have mo1_26 := m_set_o hm_26 mo1_25 (by omega)
        have mo0_26 := m_set_o hm_26 mo0_25 (by omega)
        have ml_26 := m_set_l hm_26 ml_25
        clear hm_26 mo2_25 mo1_25 mo0_25 mon_22_25
        refine dh_set (n_22) (fun M_ hM_ => (se_store up_h (u2 rfl up_h) rfl rfl (agr hM_ mon_22_26 (by simp)) y43_sz40 rfl (by exact Nat.le_of_ble_eq_true rfl))) trivial ⟨.inr (wt_one 14 13 (by kernel_rfl)), trivial⟩ ⟨.inl (by simp <;> omega), ⟨.inl (by simp <;> omega), ⟨.inr (wt_one 14 13 (by kernel_rfl)), trivial⟩⟩⟩ (fun m_27 hm_27 => ?_)
        have mon_22_27 := m_set hm_27 mon_22_26
        simp only [packA_t, packA_f, iE, bE, setAt, cellsA, Value.cells, map_vc, map_vn, Nat.reduceAdd, qS, iE, jnE] at mon_22_27
        have mo2_27 := m_set_o hm_27 mo2_26 (by omega)
        have mo1_27 := m_set_o hm_27 mo1_26 (by omega)
        have mo0_27 := m_set_o hm_27 mo0_26 (by omega)
        have ml_27 := m_set_l hm_27 ml_26
        clear hm_27 mon_22_26 mo2_26 mo1_26 mo0_26
        refine dh_nil rfl ?_
        refine al_ro' (ro_assign (up_n (up_m rfl up_h))) trivial rfl ?_
        refine al_end (fun e_28 he_28 => ?_)
        have s3_28 := ef 3 he_28 (up_m rfl (up_n (u2 rfl (u4 rfl (u8 rfl s3_23)))))
        have s4_28 := ef 4 he_28 (up_m rfl (up_n (u2 rfl (u4 rfl (u8 rfl s4_23)))))
        have s7_28 := ef 7 he_28 (up_m rfl (up_n (u2 rfl (u4 rfl (u8 rfl s7_23)))))
        have s8_28 := ef 8 he_28 (up_m rfl (up_n (u2 rfl (u4 rfl (u8 rfl s8_23)))))
        have s9_28 := ef 9 he_28 (up_m rfl (up_n (u2 rfl (u4 rfl (u8 rfl s9_23)))))
        have s10_28 := ef 10 he_28 (up_m rfl (up_n (u2 rfl (u4 rfl (u8 rfl s10_23)))))
        have s11_28 := ef 11 he_28 (up_m rfl (up_n (u2 rfl (u4 rfl (u8 rfl s11_23)))))
        have s12_28 := ef 12 he_28 (up_m rfl (up_n (u2 rfl (u4 rfl (u8 rfl s12_23)))))
        have s13_28 := ef 13 he_28 (up_m rfl (up_n up_h))
        have s14_28 := ef 14 he_28 up_h
        clear he_28 s10_23 s11_23 s12_23 s3_23 s4_23 s68_23 s7_23 s8_23 s9_23
        refine then_n ?_
        refine aw_seq ?_
        refine aw_drawK 15 1 ml_27 (by kernel_rfl) (by kernel_rfl) (by kernel_rfl) (by kernel_rfl) (fun m_29 hm_29 => ?_)
        have mon_22_29 := m_room_o hm_29 mon_22_27
        have mo2_29 := m_room_o hm_29 mo2_27
        have mo1_29 := m_room_o hm_29 mo1_27
        have mo0_29 := m_room_o hm_29 mo0_27
        have mon_22_1_29 : m_29[n_22 + 1]? = _ := m_room_g hm_29 ml_27 0 rfl rfl
        have ml_29 : _ = n_22 + 1 + 1 := m_room_l (K := 1) hm_29 ml_27
        clear hm_29 mon_22_27 mo2_27 mo1_27 mo0_27 ml_27
        refine dh_ld (2) (fun M_ hM_ => (ro_eq (ro_ld_ptr y43_ty26 rfl (agr hM_ mo2_29 (by simp)) s7_28 (by exact Nat.le_of_ble_eq_true rfl)) (by simp only [packA_t, packA_f, iE, bE, setAt, cellsA, Value.cells, map_vc, map_vn, Nat.reduceAdd, qS, iE, jnE] <;> rfl))) trivial trivial ?_
        refine dh_ro (fun M_ hM_ => (ro_call (evL_cons up_h evL_nil) rfl (yCopy_ok (inA l ps) hms) y43_hcf17)) trivial ?_
        refine dh_ld (1) (fun M_ hM_ => (ro_eq (ro_ld_ptr y43_ty52 rfl (agr hM_ mo1_29 (by simp)) (u2 rfl s4_28) (by exact Nat.le_of_ble_eq_true rfl)) (by simp only [packA_t, packA_f, iE, bE, setAt, cellsA, Value.cells, map_vc, map_vn, Nat.reduceAdd, qS, iE, jnE] <;> rfl))) trivial trivial ?_
        refine dh_ro (fun M_ hM_ => (ro_move (up_m rfl (u2 rfl s8_28)))) trivial ?_
        refine dh_ro (fun M_ hM_ => (ro_move (u4 rfl s9_28))) trivial ?_
        refine dh_ro (fun M_ hM_ => (ro_move (up_m rfl (u4 rfl s12_28)))) trivial ?_
        refine dh_ro (fun M_ hM_ => (ro_eq (ro_ix y43_sl60 (up_m rfl up_h) up_h (by omega) (by first | (refine idx_map ?_; first | omega | (simp only [lnS]; omega)) | (refine idx_mapI ?_; first | omega | (simp only [lnS]; omega)) | (refine idx_mapN ?_; first | omega | (simp only [lnS]; omega)) | rfl)) (by simp only [packA_t, packA_f, iE, bE, setAt, cellsA, Value.cells, map_vc, map_vn, Nat.reduceAdd, qS, iE, jnE] <;> rfl))) trivial ?_
        refine dh_ro (fun M_ hM_ => (ro_eq (ro_ld_ref y43_ty3 rfl up_h (by exact Nat.le_of_ble_eq_true rfl)) (by simp only [packA_t, packA_f, iE, bE, setAt, cellsA, Value.cells, map_vc, map_vn, Nat.reduceAdd, qS, iE, jnE] <;> rfl))) trivial ?_
        refine dh_ro (fun M_ hM_ => (ro_buildA (evP_cons (u4 rfl up_h) (evP_cons up_h evP_nil)) y43_bz53 y43_bu53 y43_bp53 rfl)) trivial ?_
        refine dh_ro (fun M_ hM_ => (ro_call (evL_cons (up_m rfl (u2 rfl (u4 rfl up_h))) (evL_cons (u2 rfl (u4 rfl up_h)) (evL_cons up_h evL_nil))) rfl (dv2) y43_hcf27)) trivial ?_
        refine dh_ro (fun M_ hM_ => (ro_move up_h)) trivial ?_
        refine dh_ro (fun M_ hM_ => (ro_extract up_h rfl)) trivial ?_
        refine dh_ro (fun M_ hM_ => (ro_extract (up_m rfl up_h) rfl)) trivial ?_
        refine dh_nw (n_22 + 1) (fun M_ hM_ => (nw_alloc y43_az40 rfl)) trivial mon_22_1_29 rfl trivial ⟨.inl (by simp <;> omega), ⟨.inl (by simp <;> omega), trivial⟩⟩ (fun m_30 hm_30 => ?_)
        have mon_22_1_30 := m_set hm_30 mon_22_1_29
        simp only [packA_t, packA_f, iE, bE, setAt, cellsA, Value.cells, map_vc, map_vn, Nat.reduceAdd, qS, iE, jnE] at mon_22_1_30
        have mon_22_30 := m_set_o hm_30 mon_22_29 (by omega)
        have mo2_30 := m_set_o hm_30 mo2_29 (by omega)
        have mo1_30 := m_set_o hm_30 mo1_29 (by omega)
        have mo0_30 := m_set_o hm_30 mo0_29 (by omega)
        have ml_30 := m_set_l hm_30 ml_29
        clear hm_30 mon_22_29 mo2_29 mo1_29 mo0_29 mon_22_1_29
        refine dh_set (n_22 + 1) (fun M_ hM_ => (se_store up_h (u2 rfl up_h) rfl rfl (agr hM_ mon_22_1_30 (by simp)) y43_sz40 rfl (by exact Nat.le_of_ble_eq_true rfl))) trivial ⟨.inr (wt_one 14 13 (by kernel_rfl)), trivial⟩ ⟨.inl (by simp <;> omega), ⟨.inl (by simp <;> omega), ⟨.inr (wt_one 14 13 (by kernel_rfl)), trivial⟩⟩⟩ (fun m_31 hm_31 => ?_)
        have mon_22_1_31 := m_set hm_31 mon_22_1_30
        simp only [packA_t, packA_f, iE, bE, setAt, cellsA, Value.cells, map_vc, map_vn, Nat.reduceAdd, qS, iE, jnE] at mon_22_1_31
        have mon_22_31 := m_set_o hm_31 mon_22_30 (by omega)
        have mo2_31 := m_set_o hm_31 mo2_30 (by omega)
        have mo1_31 := m_set_o hm_31 mo1_30 (by omega)
        have mo0_31 := m_set_o hm_31 mo0_30 (by omega)
        have ml_31 := m_set_l hm_31 ml_30
        clear hm_31 mon_22_1_30 mon_22_30 mo2_30 mo1_30 mo0_30
        refine dh_nil rfl ?_
        refine al_ro' (ro_assign (up_n (up_m rfl up_h))) trivial rfl ?_
        refine al_end (fun e_32 he_32 => ?_)
        have s3_32 := ef 3 he_32 (up_m rfl (up_n (u2 rfl (u4 rfl (u8 rfl s3_28)))))
        have s4_32 := ef 4 he_32 (up_m rfl (up_n (u2 rfl (u4 rfl (u8 rfl s4_28)))))
        have s7_32 := ef 7 he_32 (up_m rfl (up_n (u2 rfl (u4 rfl (u8 rfl s7_28)))))
        have s8_32 := ef 8 he_32 (up_m rfl (up_n (u2 rfl (u4 rfl (u8 rfl s8_28)))))
        have s9_32 := ef 9 he_32 (up_m rfl (up_n (u2 rfl (u4 rfl (u8 rfl s9_28)))))
        have s10_32 := ef 10 he_32 (up_m rfl (up_n (u2 rfl (u4 rfl (u8 rfl s10_28)))))
        have s11_32 := ef 11 he_32 (up_m rfl (up_n (u2 rfl (u4 rfl (u8 rfl s11_28)))))
        have s12_32 := ef 12 he_32 (up_m rfl (up_n (u2 rfl (u4 rfl (u8 rfl s12_28)))))
        have s13_32 := ef 13 he_32 (up_m rfl (up_n (u2 rfl (u4 rfl (u8 rfl s13_28)))))
        have s14_32 := ef 14 he_32 (up_m rfl (up_n (u2 rfl (u4 rfl (u8 rfl s14_28)))))
        have s15_32 := ef 15 he_32 (up_m rfl (up_n up_h))
        have s16_32 := ef 16 he_32 up_h
        clear he_32 s10_28 s11_28 s12_28 s13_28 s14_28 s3_28 s4_28 s7_28 s8_28 s9_28
        refine then_n ?_
        refine aw_seq ?_
        refine aw_seq ?_
        refine aw_text (by kernel_rfl) ?_
        refine al_ro' (ro_move s14_32) trivial rfl ?_
        refine al_ro' (ro_neq up_h ev_c) trivial rfl ?_
        refine al_ro' (ro_move up_h) trivial rfl ?_
        refine al_case up_h (fun hb_33 hq_33 => ?_) (fun hb_33 hq_33 => ?_)
        · cases hq_33
        replace hq_33 := bnf hq_33
        refine al_ro' (ro_move (up_m rfl (u2 rfl s16_32))) ⟨_, rfl, hb_33⟩ rfl ?_
        refine al_ro' (ro_neq up_h ev_c) ⟨_, rfl, (up_m rfl hb_33)⟩ rfl ?_
        refine al_ro' (ro_pickF (u2 rfl hb_33) up_h) trivial rfl ?_
        refine al_ro' (ro_move up_h) trivial rfl ?_
        refine al_case up_h (fun hb_34 hq_34 => ?_) (fun hb_34 hq_34 => ?_)
        · cases hq_34
        replace hq_34 := bnf hq_34
        refine al_ro' (ro_fld_ptr y43_fl40_0 rfl (up_m rfl (u2 rfl (u4 rfl s13_32)))) ⟨_, rfl, hb_34⟩ rfl ?_
        refine al_ro' (ro_eq (ro_ld_ptr y43_ty3 rfl mon_22_31 up_h (by exact Nat.le_of_ble_eq_true rfl)) (by simp only [packA_t, packA_f, iE, bE, setAt, cellsA, Value.cells, map_vc, map_vn, Nat.reduceAdd, qS, iE, jnE] <;> rfl)) ⟨_, rfl, (up_m rfl hb_34)⟩ rfl ?_
        refine al_ro' (ro_fld_ptr y43_fl40_0 rfl (up_m rfl (u8 rfl s15_32))) ⟨_, rfl, (u2 rfl hb_34)⟩ rfl ?_
        refine al_ro' (ro_eq (ro_ld_ptr y43_ty3 rfl mon_22_1_31 up_h (by exact Nat.le_of_ble_eq_true rfl)) (by simp only [packA_t, packA_f, iE, bE, setAt, cellsA, Value.cells, map_vc, map_vn, Nat.reduceAdd, qS, iE, jnE] <;> rfl)) ⟨_, rfl, (up_m rfl (u2 rfl hb_34))⟩ rfl ?_
        refine al_ro' (ro_gtr (u2 rfl up_h) up_h) ⟨_, rfl, (u4 rfl hb_34)⟩ rfl ?_
        refine al_ro' (ro_pickF (up_m rfl (u4 rfl hb_34)) up_h) trivial rfl ?_
        refine al_ro' (ro_move up_h) trivial rfl ?_
        refine al_case up_h (fun hb_35 hq_35 => ?_) (fun hb_35 hq_35 => ?_)
        · replace hq_35 := bt hq_35; exfalso; omega
        replace hq_35 := bf hq_35
        refine al_ro' (ro_fld_ptr y43_fl40_0 rfl (u2 rfl (u4 rfl (u8 rfl s15_32)))) ⟨_, rfl, hb_35⟩ rfl ?_
        refine al_ro' (ro_eq (ro_ld_ptr y43_ty3 rfl mon_22_1_31 up_h (by exact Nat.le_of_ble_eq_true rfl)) (by simp only [packA_t, packA_f, iE, bE, setAt, cellsA, Value.cells, map_vc, map_vn, Nat.reduceAdd, qS, iE, jnE] <;> rfl)) ⟨_, rfl, (up_m rfl hb_35)⟩ rfl ?_
        refine al_ro' (ro_fld_ptr y43_fl40_1 rfl (u16 rfl s15_32)) ⟨_, rfl, (u2 rfl hb_35)⟩ rfl ?_
        refine al_ro' (ro_eq (ro_ld_ptr y43_ty3 rfl mon_22_1_31 up_h (by exact Nat.le_of_ble_eq_true rfl)) (by simp only [packA_t, packA_f, iE, bE, setAt, cellsA, Value.cells, map_vc, map_vn, Nat.reduceAdd, qS, iE, jnE] <;> rfl)) ⟨_, rfl, (up_m rfl (u2 rfl hb_35))⟩ rfl ?_
        refine al_ro' (ro_gtr (u2 rfl up_h) up_h) ⟨_, rfl, (u4 rfl hb_35)⟩ rfl ?_
        refine al_ro' (ro_pickF (up_m rfl (u4 rfl hb_35)) up_h) trivial rfl ?_
        refine al_ro' (ro_move up_h) trivial rfl ?_
        refine al_case up_h (fun hb_36 hq_36 => ?_) (fun hb_36 hq_36 => ?_)
        · replace hq_36 := bt hq_36; exfalso; omega
        replace hq_36 := bf hq_36
        refine al_ro' (ro_fld_ptr y43_fl40_1 rfl (up_m rfl (u4 rfl (u16 rfl s15_32)))) ⟨_, rfl, hb_36⟩ rfl ?_
        refine al_ro' (ro_eq (ro_ld_ptr y43_ty3 rfl mon_22_1_31 up_h (by exact Nat.le_of_ble_eq_true rfl)) (by simp only [packA_t, packA_f, iE, bE, setAt, cellsA, Value.cells, map_vc, map_vn, Nat.reduceAdd, qS, iE, jnE] <;> rfl)) ⟨_, rfl, (up_m rfl hb_36)⟩ rfl ?_
        refine al_ro' (ro_fld_ptr y43_fl40_1 rfl (up_m rfl (u2 rfl (u4 rfl (u16 rfl s13_32))))) ⟨_, rfl, (u2 rfl hb_36)⟩ rfl ?_
        refine al_ro' (ro_eq (ro_ld_ptr y43_ty3 rfl mon_22_31 up_h (by exact Nat.le_of_ble_eq_true rfl)) (by simp only [packA_t, packA_f, iE, bE, setAt, cellsA, Value.cells, map_vc, map_vn, Nat.reduceAdd, qS, iE, jnE] <;> rfl)) ⟨_, rfl, (up_m rfl (u2 rfl hb_36))⟩ rfl ?_
        refine al_ro' (ro_gtr (u2 rfl up_h) up_h) ⟨_, rfl, (u4 rfl hb_36)⟩ rfl ?_
        refine al_ro' (ro_pickF (up_m rfl (u4 rfl hb_36)) up_h) trivial rfl ?_
        refine al_end (fun e_37 he_37 => ?_)
        have s3_37 := ef 3 he_37 (up_m rfl (u2 rfl (u8 rfl (u16 rfl s3_32))))
        have s4_37 := ef 4 he_37 (up_m rfl (u2 rfl (u8 rfl (u16 rfl s4_32))))
        have s7_37 := ef 7 he_37 (up_m rfl (u2 rfl (u8 rfl (u16 rfl s7_32))))
        have s8_37 := ef 8 he_37 (up_m rfl (u2 rfl (u8 rfl (u16 rfl s8_32))))
        have s9_37 := ef 9 he_37 (up_m rfl (u2 rfl (u8 rfl (u16 rfl s9_32))))
        have s10_37 := ef 10 he_37 (up_m rfl (u2 rfl (u8 rfl (u16 rfl s10_32))))
        have s11_37 := ef 11 he_37 (up_m rfl (u2 rfl (u8 rfl (u16 rfl s11_32))))
        have s12_37 := ef 12 he_37 (up_m rfl (u2 rfl (u8 rfl (u16 rfl s12_32))))
        have s13_37 := ef 13 he_37 (up_m rfl (u2 rfl (u8 rfl (u16 rfl s13_32))))
        have s123_37 := ef 123 he_37 up_h
        clear he_37 hb_33 hb_34 hb_35 hb_36 s10_32 s11_32 s12_32 s13_32 s14_32 s15_32 s16_32 s3_32 s4_32 s7_32 s8_32 s9_32
        refine then_n ?_
        refine aw_case s123_37 (fun hq_38 => ?_) (fun hq_38 => ?_)
        · replace hq_38 := bt hq_38; exfalso; omega
        replace hq_38 := bf hq_38
        refine aw_skip ?_
        refine then_n ?_
        refine aw_seq ?_
        refine aw_text (by kernel_rfl) ?_
        refine al_ro' (ro_move s10_37) trivial rfl ?_
        refine al_ro' (ro_move up_h) trivial rfl ?_
        refine al_case up_h (fun hb_39 hq_39 => ?_) (fun hb_39 hq_39 => ?_)
        ·skip
         refine al_ro' (ro_fld_ptr y43_fl52_1 rfl (u2 rfl s4_37)) ⟨_, rfl, hb_39⟩ rfl ?_
         refine al_ro' (ro_eq (ro_ld_ptr y43_ty3 rfl mo1_31 up_h (by exact Nat.le_of_ble_eq_true rfl)) (by simp only [packA_t, packA_f, iE, bE, setAt, cellsA, Value.cells, map_vc, map_vn, Nat.reduceAdd, qS, iE, jnE] <;> rfl)) ⟨_, rfl, (up_m rfl hb_39)⟩ rfl ?_
         (refine al_ro' (ro_neg' up_h ?_) ⟨_, rfl, (u2 rfl hb_39)⟩ rfl ?_; · (unfold In64; omega))
         refine al_ro' (ro_fld_ptr y43_fl40_0 rfl (up_m rfl (u4 rfl s13_37))) ⟨_, rfl, (up_m rfl (u2 rfl hb_39))⟩ rfl ?_
         refine al_ro' (ro_eq (ro_ld_ptr y43_ty3 rfl mon_22_31 up_h (by exact Nat.le_of_ble_eq_true rfl)) (by simp only [packA_t, packA_f, iE, bE, setAt, cellsA, Value.cells, map_vc, map_vn, Nat.reduceAdd, qS, iE, jnE] <;> rfl)) ⟨_, rfl, (u4 rfl hb_39)⟩ rfl ?_
         refine al_ro' (ro_leq (u2 rfl up_h) up_h) ⟨_, rfl, (up_m rfl (u4 rfl hb_39))⟩ rfl ?_
         refine al_ro' (ro_pickT (u2 rfl (u4 rfl hb_39)) up_h) trivial rfl ?_
         refine al_ro' (ro_move up_h) trivial rfl ?_
         refine al_case up_h (fun hb_40 hq_40 => ?_) (fun hb_40 hq_40 => ?_)
         ·replace hq_40 := bt hq_40
          refine al_ro' (ro_fld_ptr y43_fl40_1 rfl (u2 rfl (u8 rfl s13_37))) ⟨_, rfl, hb_40⟩ rfl ?_
          refine al_ro' (ro_eq (ro_ld_ptr y43_ty3 rfl mon_22_31 up_h (by exact Nat.le_of_ble_eq_true rfl)) (by simp only [packA_t, packA_f, iE, bE, setAt, cellsA, Value.cells, map_vc, map_vn, Nat.reduceAdd, qS, iE, jnE] <;> rfl)) ⟨_, rfl, (up_m rfl hb_40)⟩ rfl ?_
          refine al_ro' (ro_fld_ptr y43_fl52_1 rfl (u4 rfl (u8 rfl s4_37))) ⟨_, rfl, (u2 rfl hb_40)⟩ rfl ?_
          refine al_ro' (ro_eq (ro_ld_ptr y43_ty3 rfl mo1_31 up_h (by exact Nat.le_of_ble_eq_true rfl)) (by simp only [packA_t, packA_f, iE, bE, setAt, cellsA, Value.cells, map_vc, map_vn, Nat.reduceAdd, qS, iE, jnE] <;> rfl)) ⟨_, rfl, (up_m rfl (u2 rfl hb_40))⟩ rfl ?_
          refine al_ro' (ro_leq (u2 rfl up_h) up_h) ⟨_, rfl, (u4 rfl hb_40)⟩ rfl ?_
          refine al_ro' (ro_pickT (up_m rfl (u4 rfl hb_40)) up_h) trivial rfl ?_
          refine al_ro' (ro_assign up_h) trivial rfl ?_
          refine al_end (fun e_41 he_41 => ?_)
          have s3_41 := ef 3 he_41 (up_m rfl (u16 rfl s3_37))
          have s4_41 := ef 4 he_41 (up_m rfl (u16 rfl s4_37))
          have s7_41 := ef 7 he_41 (up_m rfl (u16 rfl s7_37))
          have s8_41 := ef 8 he_41 (up_m rfl (u16 rfl s8_37))
          have s9_41 := ef 9 he_41 (up_m rfl (u16 rfl s9_37))
          have s10_41 := ef 10 he_41 up_h
          have s11_41 := ef 11 he_41 (up_m rfl (u16 rfl s11_37))
          have s12_41 := ef 12 he_41 (up_m rfl (u16 rfl s12_37))
          have s13_41 := ef 13 he_41 (up_m rfl (u16 rfl s13_37))
          clear he_41 hb_39 hb_40 s10_37 s11_37 s123_37 s12_37 s13_37 s3_37 s4_37 s7_37 s8_37 s9_37
          refine then_n ?_
          refine aw_text (by kernel_rfl) ?_
          refine al_ro' (ro_move s11_41) trivial rfl ?_
          refine al_ro' (ro_move up_h) trivial rfl ?_
          refine al_case up_h (fun hb_42 hq_42 => ?_) (fun hb_42 hq_42 => ?_)
          ·skip
           refine al_skip' ⟨_, rfl, .inl hb_42⟩ rfl ?_
           refine al_skip' ⟨_, rfl, .inl (up_m rfl hb_42)⟩ rfl ?_
           refine al_skip' ⟨_, rfl, .inl (u2 rfl hb_42)⟩ rfl ?_
           refine al_skip' ⟨_, rfl, .inl (up_m rfl (u2 rfl hb_42))⟩ rfl ?_
           refine al_skip' ⟨_, rfl, .inl (u4 rfl hb_42)⟩ rfl ?_
           refine al_skip' ⟨_, rfl, .inl (up_m rfl (u4 rfl hb_42))⟩ rfl ?_
           refine al_ro' (ro_pickT (u2 rfl (u4 rfl hb_42)) ev_c) trivial rfl ?_
           refine al_ro' (ro_move up_h) trivial rfl ?_
           refine al_skip' ⟨_, rfl, .inl up_h⟩ rfl ?_
           refine al_skip' ⟨_, rfl, .inl (up_m rfl up_h)⟩ rfl ?_
           refine al_skip' ⟨_, rfl, .inl (u2 rfl up_h)⟩ rfl ?_
           refine al_skip' ⟨_, rfl, .inl (up_m rfl (u2 rfl up_h))⟩ rfl ?_
           refine al_skip' ⟨_, rfl, .inl (u4 rfl up_h)⟩ rfl ?_
           refine al_ro' (ro_pickT (up_m rfl (u4 rfl up_h)) ev_c) trivial rfl ?_
           refine al_ro' (ro_assign up_h) trivial rfl ?_
           refine al_end (fun e_43 he_43 => ?_)
           have s3_43 := ef 3 he_43 (up_m rfl (u16 rfl s3_41))
           have s4_43 := ef 4 he_43 (up_m rfl (u16 rfl s4_41))
           have s7_43 := ef 7 he_43 (up_m rfl (u16 rfl s7_41))
           have s8_43 := ef 8 he_43 (up_m rfl (u16 rfl s8_41))
           have s9_43 := ef 9 he_43 (up_m rfl (u16 rfl s9_41))
           have s10_43 := ef 10 he_43 (up_m rfl (u16 rfl s10_41))
           have s11_43 := ef 11 he_43 up_h
           have s12_43 := ef 12 he_43 (up_m rfl (u16 rfl s12_41))
           clear he_43 hb_42 s10_41 s11_41 s12_41 s13_41 s3_41 s4_41 s7_41 s8_41 s9_41
           refine block_n ?_
           refine then_n ?_
           refine aw_text (by kernel_rfl) ?_
           refine al_ro' (ro_move s12_43) trivial rfl ?_
           (refine al_ro' (ro_add' up_h ev_c ?_) trivial rfl ?_; · (unfold In64; omega))
           refine al_ro' (ro_assign up_h) trivial rfl ?_
           refine al_end (fun e_44 he_44 => ?_)
           have s3_44 := ef 3 he_44 (up_m rfl (u2 rfl s3_43))
           have s4_44 := ef 4 he_44 (up_m rfl (u2 rfl s4_43))
           have s7_44 := ef 7 he_44 (up_m rfl (u2 rfl s7_43))
           have s8_44 := ef 8 he_44 (up_m rfl (u2 rfl s8_43))
           have s9_44 := ef 9 he_44 (up_m rfl (u2 rfl s9_43))
           have s10_44 := ef 10 he_44 (up_m rfl (u2 rfl s10_43))
           have s11_44 := ef 11 he_44 (up_m rfl (u2 rfl s11_43))
           have s12_44 := ef 12 he_44 up_h
           clear he_44 s10_43 s11_43 s12_43 s3_43 s4_43 s7_43 s8_43 s9_43
           refine then_n ?_
           refine ⟨⟨_, _, _⟩, ⟨s12_44, s10_44, s11_44, (s3_44.trans s3_21.symm), (s4_44.trans s4_21.symm), (s7_44.trans s7_21.symm), (s8_44.trans s8_21.symm), (s9_44.trans s9_21.symm), (mo2_31.trans mo2_16.symm), (mo1_31.trans mo1_16.symm), (mo0_31.trans mo0_16.symm), ⟨_, ml_31, by omega⟩, ?_⟩, ?_⟩
           · (refine ⟨by omega, by omega, ?_, ?_⟩ <;> rw [show (i + 1).toNat = i.toNat + 1 by omega] <;> (first | rw [yn1, ← i3, Bool.eq_iff_iff] | rw [nn1, ← i4, Bool.eq_iff_iff]) <;> clear yn1 nn1 i3 i4 <;> cases y <;> cases n <;> first | contradiction | (simp only [Bool.or_eq_true, Bool.and_eq_true, Bool.false_eq_true, Bool.true_eq_false, false_or, true_or, or_true, or_false, and_true, true_and, false_and, and_false, decide_eq_true_eq, true_iff, false_iff, iff_true, iff_false]; done) | (simp only [Bool.or_eq_true, Bool.and_eq_true, Bool.false_eq_true, Bool.true_eq_false, false_or, true_or, or_true, or_false, and_true, true_and, false_and, and_false, decide_eq_true_eq, true_iff, false_iff, iff_true, iff_false]; omega))
           · ((try dsimp only); omega)
          refine al_ro' (ro_fld_ptr y43_fl40_1 rfl (u2 rfl s13_41)) ⟨_, rfl, hb_42⟩ rfl ?_
          refine al_ro' (ro_eq (ro_ld_ptr y43_ty3 rfl mon_22_31 up_h (by exact Nat.le_of_ble_eq_true rfl)) (by simp only [packA_t, packA_f, iE, bE, setAt, cellsA, Value.cells, map_vc, map_vn, Nat.reduceAdd, qS, iE, jnE] <;> rfl)) ⟨_, rfl, (up_m rfl hb_42)⟩ rfl ?_
          refine al_ro' (ro_fld_ptr y43_fl52_1 rfl (u4 rfl s4_41)) ⟨_, rfl, (u2 rfl hb_42)⟩ rfl ?_
          refine al_ro' (ro_eq (ro_ld_ptr y43_ty3 rfl mo1_31 up_h (by exact Nat.le_of_ble_eq_true rfl)) (by simp only [packA_t, packA_f, iE, bE, setAt, cellsA, Value.cells, map_vc, map_vn, Nat.reduceAdd, qS, iE, jnE] <;> rfl)) ⟨_, rfl, (up_m rfl (u2 rfl hb_42))⟩ rfl ?_
          (refine al_ro' (ro_neg' up_h ?_) ⟨_, rfl, (u4 rfl hb_42)⟩ rfl ?_; · (unfold In64; omega))
          refine al_ro' (ro_lss (up_m rfl (u2 rfl up_h)) up_h) ⟨_, rfl, (up_m rfl (u4 rfl hb_42))⟩ rfl ?_
          refine al_ro' (ro_pickF (u2 rfl (u4 rfl hb_42)) up_h) trivial rfl ?_
          refine al_ro' (ro_move up_h) trivial rfl ?_
          refine al_case up_h (fun hb_45 hq_45 => ?_) (fun hb_45 hq_45 => ?_)
          · replace hq_45 := bt hq_45; exfalso; omega
          replace hq_45 := bf hq_45
          refine al_ro' (ro_fld_ptr y43_fl40_0 rfl (u2 rfl (u8 rfl s13_41))) ⟨_, rfl, hb_45⟩ rfl ?_
          refine al_ro' (ro_eq (ro_ld_ptr y43_ty3 rfl mon_22_31 up_h (by exact Nat.le_of_ble_eq_true rfl)) (by simp only [packA_t, packA_f, iE, bE, setAt, cellsA, Value.cells, map_vc, map_vn, Nat.reduceAdd, qS, iE, jnE] <;> rfl)) ⟨_, rfl, (up_m rfl hb_45)⟩ rfl ?_
          refine al_ro' (ro_fld_ptr y43_fl52_1 rfl (u4 rfl (u8 rfl s4_41))) ⟨_, rfl, (u2 rfl hb_45)⟩ rfl ?_
          refine al_ro' (ro_eq (ro_ld_ptr y43_ty3 rfl mo1_31 up_h (by exact Nat.le_of_ble_eq_true rfl)) (by simp only [packA_t, packA_f, iE, bE, setAt, cellsA, Value.cells, map_vc, map_vn, Nat.reduceAdd, qS, iE, jnE] <;> rfl)) ⟨_, rfl, (up_m rfl (u2 rfl hb_45))⟩ rfl ?_
          refine al_ro' (ro_gtr (u2 rfl up_h) up_h) ⟨_, rfl, (u4 rfl hb_45)⟩ rfl ?_
          refine al_ro' (ro_pickF (up_m rfl (u4 rfl hb_45)) up_h) trivial rfl ?_
          refine al_ro' (ro_assign up_h) trivial rfl ?_
          refine al_end (fun e_48 he_48 => ?_)
          have s3_48 := ef 3 he_48 (up_m rfl (u16 rfl s3_41))
          have s4_48 := ef 4 he_48 (up_m rfl (u16 rfl s4_41))
          have s7_48 := ef 7 he_48 (up_m rfl (u16 rfl s7_41))
          have s8_48 := ef 8 he_48 (up_m rfl (u16 rfl s8_41))
          have s9_48 := ef 9 he_48 (up_m rfl (u16 rfl s9_41))
          have s10_48 := ef 10 he_48 (up_m rfl (u16 rfl s10_41))
          have s11_48 := ef 11 he_48 up_h
          have s12_48 := ef 12 he_48 (up_m rfl (u16 rfl s12_41))
          clear he_48 hb_42 hb_45 s10_41 s11_41 s12_41 s13_41 s3_41 s4_41 s7_41 s8_41 s9_41
          refine block_n ?_
          refine then_n ?_
          refine aw_text (by kernel_rfl) ?_
          refine al_ro' (ro_move s12_48) trivial rfl ?_
          (refine al_ro' (ro_add' up_h ev_c ?_) trivial rfl ?_; · (unfold In64; omega))
          refine al_ro' (ro_assign up_h) trivial rfl ?_
          refine al_end (fun e_49 he_49 => ?_)
          have s3_49 := ef 3 he_49 (up_m rfl (u2 rfl s3_48))
          have s4_49 := ef 4 he_49 (up_m rfl (u2 rfl s4_48))
          have s7_49 := ef 7 he_49 (up_m rfl (u2 rfl s7_48))
          have s8_49 := ef 8 he_49 (up_m rfl (u2 rfl s8_48))
          have s9_49 := ef 9 he_49 (up_m rfl (u2 rfl s9_48))
          have s10_49 := ef 10 he_49 (up_m rfl (u2 rfl s10_48))
          have s11_49 := ef 11 he_49 (up_m rfl (u2 rfl s11_48))
          have s12_49 := ef 12 he_49 up_h
          clear he_49 s10_48 s11_48 s12_48 s3_48 s4_48 s7_48 s8_48 s9_48
          refine then_n ?_
          refine ⟨⟨_, _, _⟩, ⟨s12_49, s10_49, s11_49, (s3_49.trans s3_21.symm), (s4_49.trans s4_21.symm), (s7_49.trans s7_21.symm), (s8_49.trans s8_21.symm), (s9_49.trans s9_21.symm), (mo2_31.trans mo2_16.symm), (mo1_31.trans mo1_16.symm), (mo0_31.trans mo0_16.symm), ⟨_, ml_31, by omega⟩, ?_⟩, ?_⟩
          · (refine ⟨by omega, by omega, ?_, ?_⟩ <;> rw [show (i + 1).toNat = i.toNat + 1 by omega] <;> (first | rw [yn1, ← i3, Bool.eq_iff_iff] | rw [nn1, ← i4, Bool.eq_iff_iff]) <;> clear yn1 nn1 i3 i4 <;> cases y <;> cases n <;> first | contradiction | (simp only [Bool.or_eq_true, Bool.and_eq_true, Bool.false_eq_true, Bool.true_eq_false, false_or, true_or, or_true, or_false, and_true, true_and, false_and, and_false, decide_eq_true_eq, true_iff, false_iff, iff_true, iff_false]; done) | (simp only [Bool.or_eq_true, Bool.and_eq_true, Bool.false_eq_true, Bool.true_eq_false, false_or, true_or, or_true, or_false, and_true, true_and, false_and, and_false, decide_eq_true_eq, true_iff, false_iff, iff_true, iff_false]; omega))
          · ((try dsimp only); omega)
         replace hq_40 := bf hq_40
         refine al_skip' ⟨_, rfl, .inl hb_40⟩ rfl ?_
         refine al_skip' ⟨_, rfl, .inl (up_m rfl hb_40)⟩ rfl ?_
         refine al_skip' ⟨_, rfl, .inl (u2 rfl hb_40)⟩ rfl ?_
         refine al_skip' ⟨_, rfl, .inl (up_m rfl (u2 rfl hb_40))⟩ rfl ?_
         refine al_skip' ⟨_, rfl, .inl (u4 rfl hb_40)⟩ rfl ?_
         refine al_ro' (ro_pickF (up_m rfl (u4 rfl hb_40)) ev_c) trivial rfl ?_
         refine al_ro' (ro_assign up_h) trivial rfl ?_
         refine al_end (fun e_50 he_50 => ?_)
         have s3_50 := ef 3 he_50 (up_m rfl (u16 rfl s3_37))
         have s4_50 := ef 4 he_50 (up_m rfl (u16 rfl s4_37))
         have s7_50 := ef 7 he_50 (up_m rfl (u16 rfl s7_37))
         have s8_50 := ef 8 he_50 (up_m rfl (u16 rfl s8_37))
         have s9_50 := ef 9 he_50 (up_m rfl (u16 rfl s9_37))
         have s10_50 := ef 10 he_50 up_h
         have s11_50 := ef 11 he_50 (up_m rfl (u16 rfl s11_37))
         have s12_50 := ef 12 he_50 (up_m rfl (u16 rfl s12_37))
         have s13_50 := ef 13 he_50 (up_m rfl (u16 rfl s13_37))
         clear he_50 hb_39 hb_40 s10_37 s11_37 s123_37 s12_37 s13_37 s3_37 s4_37 s7_37 s8_37 s9_37
         refine then_n ?_
         refine aw_text (by kernel_rfl) ?_
         refine al_ro' (ro_move s11_50) trivial rfl ?_
         refine al_ro' (ro_move up_h) trivial rfl ?_
         refine al_case up_h (fun hb_51 hq_51 => ?_) (fun hb_51 hq_51 => ?_)
         ·skip
          refine al_skip' ⟨_, rfl, .inl hb_51⟩ rfl ?_
          refine al_skip' ⟨_, rfl, .inl (up_m rfl hb_51)⟩ rfl ?_
          refine al_skip' ⟨_, rfl, .inl (u2 rfl hb_51)⟩ rfl ?_
          refine al_skip' ⟨_, rfl, .inl (up_m rfl (u2 rfl hb_51))⟩ rfl ?_
          refine al_skip' ⟨_, rfl, .inl (u4 rfl hb_51)⟩ rfl ?_
          refine al_skip' ⟨_, rfl, .inl (up_m rfl (u4 rfl hb_51))⟩ rfl ?_
          refine al_ro' (ro_pickT (u2 rfl (u4 rfl hb_51)) ev_c) trivial rfl ?_
          refine al_ro' (ro_move up_h) trivial rfl ?_
          refine al_skip' ⟨_, rfl, .inl up_h⟩ rfl ?_
          refine al_skip' ⟨_, rfl, .inl (up_m rfl up_h)⟩ rfl ?_
          refine al_skip' ⟨_, rfl, .inl (u2 rfl up_h)⟩ rfl ?_
          refine al_skip' ⟨_, rfl, .inl (up_m rfl (u2 rfl up_h))⟩ rfl ?_
          refine al_skip' ⟨_, rfl, .inl (u4 rfl up_h)⟩ rfl ?_
          refine al_ro' (ro_pickT (up_m rfl (u4 rfl up_h)) ev_c) trivial rfl ?_
          refine al_ro' (ro_assign up_h) trivial rfl ?_
          refine al_end (fun e_52 he_52 => ?_)
          have s3_52 := ef 3 he_52 (up_m rfl (u16 rfl s3_50))
          have s4_52 := ef 4 he_52 (up_m rfl (u16 rfl s4_50))
          have s7_52 := ef 7 he_52 (up_m rfl (u16 rfl s7_50))
          have s8_52 := ef 8 he_52 (up_m rfl (u16 rfl s8_50))
          have s9_52 := ef 9 he_52 (up_m rfl (u16 rfl s9_50))
          have s10_52 := ef 10 he_52 (up_m rfl (u16 rfl s10_50))
          have s11_52 := ef 11 he_52 up_h
          have s12_52 := ef 12 he_52 (up_m rfl (u16 rfl s12_50))
          clear he_52 hb_51 s10_50 s11_50 s12_50 s13_50 s3_50 s4_50 s7_50 s8_50 s9_50
          refine block_n ?_
          refine then_n ?_
          refine aw_text (by kernel_rfl) ?_
          refine al_ro' (ro_move s12_52) trivial rfl ?_
          (refine al_ro' (ro_add' up_h ev_c ?_) trivial rfl ?_; · (unfold In64; omega))
          refine al_ro' (ro_assign up_h) trivial rfl ?_
          refine al_end (fun e_53 he_53 => ?_)
          have s3_53 := ef 3 he_53 (up_m rfl (u2 rfl s3_52))
          have s4_53 := ef 4 he_53 (up_m rfl (u2 rfl s4_52))
          have s7_53 := ef 7 he_53 (up_m rfl (u2 rfl s7_52))
          have s8_53 := ef 8 he_53 (up_m rfl (u2 rfl s8_52))
          have s9_53 := ef 9 he_53 (up_m rfl (u2 rfl s9_52))
          have s10_53 := ef 10 he_53 (up_m rfl (u2 rfl s10_52))
          have s11_53 := ef 11 he_53 (up_m rfl (u2 rfl s11_52))
          have s12_53 := ef 12 he_53 up_h
          clear he_53 s10_52 s11_52 s12_52 s3_52 s4_52 s7_52 s8_52 s9_52
          refine then_n ?_
          refine ⟨⟨_, _, _⟩, ⟨s12_53, s10_53, s11_53, (s3_53.trans s3_21.symm), (s4_53.trans s4_21.symm), (s7_53.trans s7_21.symm), (s8_53.trans s8_21.symm), (s9_53.trans s9_21.symm), (mo2_31.trans mo2_16.symm), (mo1_31.trans mo1_16.symm), (mo0_31.trans mo0_16.symm), ⟨_, ml_31, by omega⟩, ?_⟩, ?_⟩
          · (refine ⟨by omega, by omega, ?_, ?_⟩ <;> rw [show (i + 1).toNat = i.toNat + 1 by omega] <;> (first | rw [yn1, ← i3, Bool.eq_iff_iff] | rw [nn1, ← i4, Bool.eq_iff_iff]) <;> clear yn1 nn1 i3 i4 <;> cases y <;> cases n <;> first | contradiction | (simp only [Bool.or_eq_true, Bool.and_eq_true, Bool.false_eq_true, Bool.true_eq_false, false_or, true_or, or_true, or_false, and_true, true_and, false_and, and_false, decide_eq_true_eq, true_iff, false_iff, iff_true, iff_false]; done) | (simp only [Bool.or_eq_true, Bool.and_eq_true, Bool.false_eq_true, Bool.true_eq_false, false_or, true_or, or_true, or_false, and_true, true_and, false_and, and_false, decide_eq_true_eq, true_iff, false_iff, iff_true, iff_false]; omega))
          · ((try dsimp only); omega)
         refine al_ro' (ro_fld_ptr y43_fl40_1 rfl (u2 rfl s13_50)) ⟨_, rfl, hb_51⟩ rfl ?_
         refine al_ro' (ro_eq (ro_ld_ptr y43_ty3 rfl mon_22_31 up_h (by exact Nat.le_of_ble_eq_true rfl)) (by simp only [packA_t, packA_f, iE, bE, setAt, cellsA, Value.cells, map_vc, map_vn, Nat.reduceAdd, qS, iE, jnE] <;> rfl)) ⟨_, rfl, (up_m rfl hb_51)⟩ rfl ?_
         refine al_ro' (ro_fld_ptr y43_fl52_1 rfl (u4 rfl s4_50)) ⟨_, rfl, (u2 rfl hb_51)⟩ rfl ?_
         refine al_ro' (ro_eq (ro_ld_ptr y43_ty3 rfl mo1_31 up_h (by exact Nat.le_of_ble_eq_true rfl)) (by simp only [packA_t, packA_f, iE, bE, setAt, cellsA, Value.cells, map_vc, map_vn, Nat.reduceAdd, qS, iE, jnE] <;> rfl)) ⟨_, rfl, (up_m rfl (u2 rfl hb_51))⟩ rfl ?_
         (refine al_ro' (ro_neg' up_h ?_) ⟨_, rfl, (u4 rfl hb_51)⟩ rfl ?_; · (unfold In64; omega))
         refine al_ro' (ro_lss (up_m rfl (u2 rfl up_h)) up_h) ⟨_, rfl, (up_m rfl (u4 rfl hb_51))⟩ rfl ?_
         refine al_ro' (ro_pickF (u2 rfl (u4 rfl hb_51)) up_h) trivial rfl ?_
         refine al_ro' (ro_move up_h) trivial rfl ?_
         refine al_case up_h (fun hb_54 hq_54 => ?_) (fun hb_54 hq_54 => ?_)
         ·replace hq_54 := bt hq_54
          refine al_skip' ⟨_, rfl, .inl hb_54⟩ rfl ?_
          refine al_skip' ⟨_, rfl, .inl (up_m rfl hb_54)⟩ rfl ?_
          refine al_skip' ⟨_, rfl, .inl (u2 rfl hb_54)⟩ rfl ?_
          refine al_skip' ⟨_, rfl, .inl (up_m rfl (u2 rfl hb_54))⟩ rfl ?_
          refine al_skip' ⟨_, rfl, .inl (u4 rfl hb_54)⟩ rfl ?_
          refine al_ro' (ro_pickT (up_m rfl (u4 rfl hb_54)) ev_c) trivial rfl ?_
          refine al_ro' (ro_assign up_h) trivial rfl ?_
          refine al_end (fun e_55 he_55 => ?_)
          have s3_55 := ef 3 he_55 (up_m rfl (u16 rfl s3_50))
          have s4_55 := ef 4 he_55 (up_m rfl (u16 rfl s4_50))
          have s7_55 := ef 7 he_55 (up_m rfl (u16 rfl s7_50))
          have s8_55 := ef 8 he_55 (up_m rfl (u16 rfl s8_50))
          have s9_55 := ef 9 he_55 (up_m rfl (u16 rfl s9_50))
          have s10_55 := ef 10 he_55 (up_m rfl (u16 rfl s10_50))
          have s11_55 := ef 11 he_55 up_h
          have s12_55 := ef 12 he_55 (up_m rfl (u16 rfl s12_50))
          clear he_55 hb_51 hb_54 s10_50 s11_50 s12_50 s13_50 s3_50 s4_50 s7_50 s8_50 s9_50
          refine block_n ?_
          refine then_n ?_
          refine aw_text (by kernel_rfl) ?_
          refine al_ro' (ro_move s12_55) trivial rfl ?_
          (refine al_ro' (ro_add' up_h ev_c ?_) trivial rfl ?_; · (unfold In64; omega))
          refine al_ro' (ro_assign up_h) trivial rfl ?_
          refine al_end (fun e_56 he_56 => ?_)
          have s3_56 := ef 3 he_56 (up_m rfl (u2 rfl s3_55))
          have s4_56 := ef 4 he_56 (up_m rfl (u2 rfl s4_55))
          have s7_56 := ef 7 he_56 (up_m rfl (u2 rfl s7_55))
          have s8_56 := ef 8 he_56 (up_m rfl (u2 rfl s8_55))
          have s9_56 := ef 9 he_56 (up_m rfl (u2 rfl s9_55))
          have s10_56 := ef 10 he_56 (up_m rfl (u2 rfl s10_55))
          have s11_56 := ef 11 he_56 (up_m rfl (u2 rfl s11_55))
          have s12_56 := ef 12 he_56 up_h
          clear he_56 s10_55 s11_55 s12_55 s3_55 s4_55 s7_55 s8_55 s9_55
          refine then_n ?_
          refine ⟨⟨_, _, _⟩, ⟨s12_56, s10_56, s11_56, (s3_56.trans s3_21.symm), (s4_56.trans s4_21.symm), (s7_56.trans s7_21.symm), (s8_56.trans s8_21.symm), (s9_56.trans s9_21.symm), (mo2_31.trans mo2_16.symm), (mo1_31.trans mo1_16.symm), (mo0_31.trans mo0_16.symm), ⟨_, ml_31, by omega⟩, ?_⟩, ?_⟩
          · (refine ⟨by omega, by omega, ?_, ?_⟩ <;> rw [show (i + 1).toNat = i.toNat + 1 by omega] <;> (first | rw [yn1, ← i3, Bool.eq_iff_iff] | rw [nn1, ← i4, Bool.eq_iff_iff]) <;> clear yn1 nn1 i3 i4 <;> cases y <;> cases n <;> first | contradiction | (simp only [Bool.or_eq_true, Bool.and_eq_true, Bool.false_eq_true, Bool.true_eq_false, false_or, true_or, or_true, or_false, and_true, true_and, false_and, and_false, decide_eq_true_eq, true_iff, false_iff, iff_true, iff_false]; done) | (simp only [Bool.or_eq_true, Bool.and_eq_true, Bool.false_eq_true, Bool.true_eq_false, false_or, true_or, or_true, or_false, and_true, true_and, false_and, and_false, decide_eq_true_eq, true_iff, false_iff, iff_true, iff_false]; omega))
          · ((try dsimp only); omega)
         replace hq_54 := bf hq_54
         refine al_ro' (ro_fld_ptr y43_fl40_0 rfl (u2 rfl (u8 rfl s13_50))) ⟨_, rfl, hb_54⟩ rfl ?_
         refine al_ro' (ro_eq (ro_ld_ptr y43_ty3 rfl mon_22_31 up_h (by exact Nat.le_of_ble_eq_true rfl)) (by simp only [packA_t, packA_f, iE, bE, setAt, cellsA, Value.cells, map_vc, map_vn, Nat.reduceAdd, qS, iE, jnE] <;> rfl)) ⟨_, rfl, (up_m rfl hb_54)⟩ rfl ?_
         refine al_ro' (ro_fld_ptr y43_fl52_1 rfl (u4 rfl (u8 rfl s4_50))) ⟨_, rfl, (u2 rfl hb_54)⟩ rfl ?_
         refine al_ro' (ro_eq (ro_ld_ptr y43_ty3 rfl mo1_31 up_h (by exact Nat.le_of_ble_eq_true rfl)) (by simp only [packA_t, packA_f, iE, bE, setAt, cellsA, Value.cells, map_vc, map_vn, Nat.reduceAdd, qS, iE, jnE] <;> rfl)) ⟨_, rfl, (up_m rfl (u2 rfl hb_54))⟩ rfl ?_
         refine al_ro' (ro_gtr (u2 rfl up_h) up_h) ⟨_, rfl, (u4 rfl hb_54)⟩ rfl ?_
         refine al_ro' (ro_pickF (up_m rfl (u4 rfl hb_54)) up_h) trivial rfl ?_
         refine al_ro' (ro_assign up_h) trivial rfl ?_
         refine al_end (fun e_57 he_57 => ?_)
         have s3_57 := ef 3 he_57 (up_m rfl (u16 rfl s3_50))
         have s4_57 := ef 4 he_57 (up_m rfl (u16 rfl s4_50))
         have s7_57 := ef 7 he_57 (up_m rfl (u16 rfl s7_50))
         have s8_57 := ef 8 he_57 (up_m rfl (u16 rfl s8_50))
         have s9_57 := ef 9 he_57 (up_m rfl (u16 rfl s9_50))
         have s10_57 := ef 10 he_57 (up_m rfl (u16 rfl s10_50))
         have s11_57 := ef 11 he_57 up_h
         have s12_57 := ef 12 he_57 (up_m rfl (u16 rfl s12_50))
         clear he_57 hb_51 hb_54 s10_50 s11_50 s12_50 s13_50 s3_50 s4_50 s7_50 s8_50 s9_50
         refine block_n ?_
         refine then_n ?_
         refine aw_text (by kernel_rfl) ?_
         refine al_ro' (ro_move s12_57) trivial rfl ?_
         (refine al_ro' (ro_add' up_h ev_c ?_) trivial rfl ?_; · (unfold In64; omega))
         refine al_ro' (ro_assign up_h) trivial rfl ?_
         refine al_end (fun e_58 he_58 => ?_)
         have s3_58 := ef 3 he_58 (up_m rfl (u2 rfl s3_57))
         have s4_58 := ef 4 he_58 (up_m rfl (u2 rfl s4_57))
         have s7_58 := ef 7 he_58 (up_m rfl (u2 rfl s7_57))
         have s8_58 := ef 8 he_58 (up_m rfl (u2 rfl s8_57))
         have s9_58 := ef 9 he_58 (up_m rfl (u2 rfl s9_57))
         have s10_58 := ef 10 he_58 (up_m rfl (u2 rfl s10_57))
         have s11_58 := ef 11 he_58 (up_m rfl (u2 rfl s11_57))
         have s12_58 := ef 12 he_58 up_h
         clear he_58 s10_57 s11_57 s12_57 s3_57 s4_57 s7_57 s8_57 s9_57
         refine then_n ?_
         refine ⟨⟨_, _, _⟩, ⟨s12_58, s10_58, s11_58, (s3_58.trans s3_21.symm), (s4_58.trans s4_21.symm), (s7_58.trans s7_21.symm), (s8_58.trans s8_21.symm), (s9_58.trans s9_21.symm), (mo2_31.trans mo2_16.symm), (mo1_31.trans mo1_16.symm), (mo0_31.trans mo0_16.symm), ⟨_, ml_31, by omega⟩, ?_⟩, ?_⟩
         · (refine ⟨by omega, by omega, ?_, ?_⟩ <;> rw [show (i + 1).toNat = i.toNat + 1 by omega] <;> (first | rw [yn1, ← i3, Bool.eq_iff_iff] | rw [nn1, ← i4, Bool.eq_iff_iff]) <;> clear yn1 nn1 i3 i4 <;> cases y <;> cases n <;> first | contradiction | (simp only [Bool.or_eq_true, Bool.and_eq_true, Bool.false_eq_true, Bool.true_eq_false, false_or, true_or, or_true, or_false, and_true, true_and, false_and, and_false, decide_eq_true_eq, true_iff, false_iff, iff_true, iff_false]; done) | (simp only [Bool.or_eq_true, Bool.and_eq_true, Bool.false_eq_true, Bool.true_eq_false, false_or, true_or, or_true, or_false, and_true, true_and, false_and, and_false, decide_eq_true_eq, true_iff, false_iff, iff_true, iff_false]; omega))
         · ((try dsimp only); omega)
        refine al_skip' ⟨_, rfl, .inl hb_39⟩ rfl ?_
        refine al_skip' ⟨_, rfl, .inl (up_m rfl hb_39)⟩ rfl ?_
        refine al_skip' ⟨_, rfl, .inl (u2 rfl hb_39)⟩ rfl ?_
        refine al_skip' ⟨_, rfl, .inl (up_m rfl (u2 rfl hb_39))⟩ rfl ?_
        refine al_skip' ⟨_, rfl, .inl (u4 rfl hb_39)⟩ rfl ?_
        refine al_skip' ⟨_, rfl, .inl (up_m rfl (u4 rfl hb_39))⟩ rfl ?_
        refine al_ro' (ro_pickF (u2 rfl (u4 rfl hb_39)) ev_c) trivial rfl ?_
        refine al_ro' (ro_move up_h) trivial rfl ?_
        refine al_skip' ⟨_, rfl, .inl up_h⟩ rfl ?_
        refine al_skip' ⟨_, rfl, .inl (up_m rfl up_h)⟩ rfl ?_
        refine al_skip' ⟨_, rfl, .inl (u2 rfl up_h)⟩ rfl ?_
        refine al_skip' ⟨_, rfl, .inl (up_m rfl (u2 rfl up_h))⟩ rfl ?_
        refine al_skip' ⟨_, rfl, .inl (u4 rfl up_h)⟩ rfl ?_
        refine al_ro' (ro_pickF (up_m rfl (u4 rfl up_h)) ev_c) trivial rfl ?_
        refine al_ro' (ro_assign up_h) trivial rfl ?_
        refine al_end (fun e_59 he_59 => ?_)
        have s3_59 := ef 3 he_59 (up_m rfl (u16 rfl s3_37))
        have s4_59 := ef 4 he_59 (up_m rfl (u16 rfl s4_37))
        have s7_59 := ef 7 he_59 (up_m rfl (u16 rfl s7_37))
        have s8_59 := ef 8 he_59 (up_m rfl (u16 rfl s8_37))
        have s9_59 := ef 9 he_59 (up_m rfl (u16 rfl s9_37))
        have s10_59 := ef 10 he_59 up_h
        have s11_59 := ef 11 he_59 (up_m rfl (u16 rfl s11_37))
        have s12_59 := ef 12 he_59 (up_m rfl (u16 rfl s12_37))
        have s13_59 := ef 13 he_59 (up_m rfl (u16 rfl s13_37))
        clear he_59 hb_39 s10_37 s11_37 s123_37 s12_37 s13_37 s3_37 s4_37 s7_37 s8_37 s9_37
        refine then_n ?_
        refine aw_text (by kernel_rfl) ?_
        refine al_ro' (ro_move s11_59) trivial rfl ?_
        refine al_ro' (ro_move up_h) trivial rfl ?_
        refine al_case up_h (fun hb_60 hq_60 => ?_) (fun hb_60 hq_60 => ?_)
        ·skip
         refine al_skip' ⟨_, rfl, .inl hb_60⟩ rfl ?_
         refine al_skip' ⟨_, rfl, .inl (up_m rfl hb_60)⟩ rfl ?_
         refine al_skip' ⟨_, rfl, .inl (u2 rfl hb_60)⟩ rfl ?_
         refine al_skip' ⟨_, rfl, .inl (up_m rfl (u2 rfl hb_60))⟩ rfl ?_
         refine al_skip' ⟨_, rfl, .inl (u4 rfl hb_60)⟩ rfl ?_
         refine al_skip' ⟨_, rfl, .inl (up_m rfl (u4 rfl hb_60))⟩ rfl ?_
         refine al_ro' (ro_pickT (u2 rfl (u4 rfl hb_60)) ev_c) trivial rfl ?_
         refine al_ro' (ro_move up_h) trivial rfl ?_
         refine al_skip' ⟨_, rfl, .inl up_h⟩ rfl ?_
         refine al_skip' ⟨_, rfl, .inl (up_m rfl up_h)⟩ rfl ?_
         refine al_skip' ⟨_, rfl, .inl (u2 rfl up_h)⟩ rfl ?_
         refine al_skip' ⟨_, rfl, .inl (up_m rfl (u2 rfl up_h))⟩ rfl ?_
         refine al_skip' ⟨_, rfl, .inl (u4 rfl up_h)⟩ rfl ?_
         refine al_ro' (ro_pickT (up_m rfl (u4 rfl up_h)) ev_c) trivial rfl ?_
         refine al_ro' (ro_assign up_h) trivial rfl ?_
         refine al_end (fun e_61 he_61 => ?_)
         have s3_61 := ef 3 he_61 (up_m rfl (u16 rfl s3_59))
         have s4_61 := ef 4 he_61 (up_m rfl (u16 rfl s4_59))
         have s7_61 := ef 7 he_61 (up_m rfl (u16 rfl s7_59))
         have s8_61 := ef 8 he_61 (up_m rfl (u16 rfl s8_59))
         have s9_61 := ef 9 he_61 (up_m rfl (u16 rfl s9_59))
         have s10_61 := ef 10 he_61 (up_m rfl (u16 rfl s10_59))
         have s11_61 := ef 11 he_61 up_h
         have s12_61 := ef 12 he_61 (up_m rfl (u16 rfl s12_59))
         clear he_61 hb_60 s10_59 s11_59 s12_59 s13_59 s3_59 s4_59 s7_59 s8_59 s9_59
         refine block_n ?_
         refine then_n ?_
         refine aw_text (by kernel_rfl) ?_
         refine al_ro' (ro_move s12_61) trivial rfl ?_
         (refine al_ro' (ro_add' up_h ev_c ?_) trivial rfl ?_; · (unfold In64; omega))
         refine al_ro' (ro_assign up_h) trivial rfl ?_
         refine al_end (fun e_62 he_62 => ?_)
         have s3_62 := ef 3 he_62 (up_m rfl (u2 rfl s3_61))
         have s4_62 := ef 4 he_62 (up_m rfl (u2 rfl s4_61))
         have s7_62 := ef 7 he_62 (up_m rfl (u2 rfl s7_61))
         have s8_62 := ef 8 he_62 (up_m rfl (u2 rfl s8_61))
         have s9_62 := ef 9 he_62 (up_m rfl (u2 rfl s9_61))
         have s10_62 := ef 10 he_62 (up_m rfl (u2 rfl s10_61))
         have s11_62 := ef 11 he_62 (up_m rfl (u2 rfl s11_61))
         have s12_62 := ef 12 he_62 up_h
         clear he_62 s10_61 s11_61 s12_61 s3_61 s4_61 s7_61 s8_61 s9_61
         refine then_n ?_
         refine ⟨⟨_, _, _⟩, ⟨s12_62, s10_62, s11_62, (s3_62.trans s3_21.symm), (s4_62.trans s4_21.symm), (s7_62.trans s7_21.symm), (s8_62.trans s8_21.symm), (s9_62.trans s9_21.symm), (mo2_31.trans mo2_16.symm), (mo1_31.trans mo1_16.symm), (mo0_31.trans mo0_16.symm), ⟨_, ml_31, by omega⟩, ?_⟩, ?_⟩
         · (refine ⟨by omega, by omega, ?_, ?_⟩ <;> rw [show (i + 1).toNat = i.toNat + 1 by omega] <;> (first | rw [yn1, ← i3, Bool.eq_iff_iff] | rw [nn1, ← i4, Bool.eq_iff_iff]) <;> clear yn1 nn1 i3 i4 <;> cases y <;> cases n <;> first | contradiction | (simp only [Bool.or_eq_true, Bool.and_eq_true, Bool.false_eq_true, Bool.true_eq_false, false_or, true_or, or_true, or_false, and_true, true_and, false_and, and_false, decide_eq_true_eq, true_iff, false_iff, iff_true, iff_false]; done) | (simp only [Bool.or_eq_true, Bool.and_eq_true, Bool.false_eq_true, Bool.true_eq_false, false_or, true_or, or_true, or_false, and_true, true_and, false_and, and_false, decide_eq_true_eq, true_iff, false_iff, iff_true, iff_false]; omega))
         · ((try dsimp only); omega)
        refine al_ro' (ro_fld_ptr y43_fl40_1 rfl (u2 rfl s13_59)) ⟨_, rfl, hb_60⟩ rfl ?_
        refine al_ro' (ro_eq (ro_ld_ptr y43_ty3 rfl mon_22_31 up_h (by exact Nat.le_of_ble_eq_true rfl)) (by simp only [packA_t, packA_f, iE, bE, setAt, cellsA, Value.cells, map_vc, map_vn, Nat.reduceAdd, qS, iE, jnE] <;> rfl)) ⟨_, rfl, (up_m rfl hb_60)⟩ rfl ?_
        refine al_ro' (ro_fld_ptr y43_fl52_1 rfl (u4 rfl s4_59)) ⟨_, rfl, (u2 rfl hb_60)⟩ rfl ?_
        refine al_ro' (ro_eq (ro_ld_ptr y43_ty3 rfl mo1_31 up_h (by exact Nat.le_of_ble_eq_true rfl)) (by simp only [packA_t, packA_f, iE, bE, setAt, cellsA, Value.cells, map_vc, map_vn, Nat.reduceAdd, qS, iE, jnE] <;> rfl)) ⟨_, rfl, (up_m rfl (u2 rfl hb_60))⟩ rfl ?_
        (refine al_ro' (ro_neg' up_h ?_) ⟨_, rfl, (u4 rfl hb_60)⟩ rfl ?_; · (unfold In64; omega))
        refine al_ro' (ro_lss (up_m rfl (u2 rfl up_h)) up_h) ⟨_, rfl, (up_m rfl (u4 rfl hb_60))⟩ rfl ?_
        refine al_ro' (ro_pickF (u2 rfl (u4 rfl hb_60)) up_h) trivial rfl ?_
        refine al_ro' (ro_move up_h) trivial rfl ?_
        refine al_case up_h (fun hb_63 hq_63 => ?_) (fun hb_63 hq_63 => ?_)
        ·replace hq_63 := bt hq_63
         refine al_skip' ⟨_, rfl, .inl hb_63⟩ rfl ?_
         refine al_skip' ⟨_, rfl, .inl (up_m rfl hb_63)⟩ rfl ?_
         refine al_skip' ⟨_, rfl, .inl (u2 rfl hb_63)⟩ rfl ?_
         refine al_skip' ⟨_, rfl, .inl (up_m rfl (u2 rfl hb_63))⟩ rfl ?_
         refine al_skip' ⟨_, rfl, .inl (u4 rfl hb_63)⟩ rfl ?_
         refine al_ro' (ro_pickT (up_m rfl (u4 rfl hb_63)) ev_c) trivial rfl ?_
         refine al_ro' (ro_assign up_h) trivial rfl ?_
         refine al_end (fun e_64 he_64 => ?_)
         have s3_64 := ef 3 he_64 (up_m rfl (u16 rfl s3_59))
         have s4_64 := ef 4 he_64 (up_m rfl (u16 rfl s4_59))
         have s7_64 := ef 7 he_64 (up_m rfl (u16 rfl s7_59))
         have s8_64 := ef 8 he_64 (up_m rfl (u16 rfl s8_59))
         have s9_64 := ef 9 he_64 (up_m rfl (u16 rfl s9_59))
         have s10_64 := ef 10 he_64 (up_m rfl (u16 rfl s10_59))
         have s11_64 := ef 11 he_64 up_h
         have s12_64 := ef 12 he_64 (up_m rfl (u16 rfl s12_59))
         clear he_64 hb_60 hb_63 s10_59 s11_59 s12_59 s13_59 s3_59 s4_59 s7_59 s8_59 s9_59
         refine block_n ?_
         refine then_n ?_
         refine aw_text (by kernel_rfl) ?_
         refine al_ro' (ro_move s12_64) trivial rfl ?_
         (refine al_ro' (ro_add' up_h ev_c ?_) trivial rfl ?_; · (unfold In64; omega))
         refine al_ro' (ro_assign up_h) trivial rfl ?_
         refine al_end (fun e_65 he_65 => ?_)
         have s3_65 := ef 3 he_65 (up_m rfl (u2 rfl s3_64))
         have s4_65 := ef 4 he_65 (up_m rfl (u2 rfl s4_64))
         have s7_65 := ef 7 he_65 (up_m rfl (u2 rfl s7_64))
         have s8_65 := ef 8 he_65 (up_m rfl (u2 rfl s8_64))
         have s9_65 := ef 9 he_65 (up_m rfl (u2 rfl s9_64))
         have s10_65 := ef 10 he_65 (up_m rfl (u2 rfl s10_64))
         have s11_65 := ef 11 he_65 (up_m rfl (u2 rfl s11_64))
         have s12_65 := ef 12 he_65 up_h
         clear he_65 s10_64 s11_64 s12_64 s3_64 s4_64 s7_64 s8_64 s9_64
         refine then_n ?_
         refine ⟨⟨_, _, _⟩, ⟨s12_65, s10_65, s11_65, (s3_65.trans s3_21.symm), (s4_65.trans s4_21.symm), (s7_65.trans s7_21.symm), (s8_65.trans s8_21.symm), (s9_65.trans s9_21.symm), (mo2_31.trans mo2_16.symm), (mo1_31.trans mo1_16.symm), (mo0_31.trans mo0_16.symm), ⟨_, ml_31, by omega⟩, ?_⟩, ?_⟩
         · (refine ⟨by omega, by omega, ?_, ?_⟩ <;> rw [show (i + 1).toNat = i.toNat + 1 by omega] <;> (first | rw [yn1, ← i3, Bool.eq_iff_iff] | rw [nn1, ← i4, Bool.eq_iff_iff]) <;> clear yn1 nn1 i3 i4 <;> cases y <;> cases n <;> first | contradiction | (simp only [Bool.or_eq_true, Bool.and_eq_true, Bool.false_eq_true, Bool.true_eq_false, false_or, true_or, or_true, or_false, and_true, true_and, false_and, and_false, decide_eq_true_eq, true_iff, false_iff, iff_true, iff_false]; done) | (simp only [Bool.or_eq_true, Bool.and_eq_true, Bool.false_eq_true, Bool.true_eq_false, false_or, true_or, or_true, or_false, and_true, true_and, false_and, and_false, decide_eq_true_eq, true_iff, false_iff, iff_true, iff_false]; omega))
         · ((try dsimp only); omega)
        replace hq_63 := bf hq_63
        refine al_ro' (ro_fld_ptr y43_fl40_0 rfl (u2 rfl (u8 rfl s13_59))) ⟨_, rfl, hb_63⟩ rfl ?_
        refine al_ro' (ro_eq (ro_ld_ptr y43_ty3 rfl mon_22_31 up_h (by exact Nat.le_of_ble_eq_true rfl)) (by simp only [packA_t, packA_f, iE, bE, setAt, cellsA, Value.cells, map_vc, map_vn, Nat.reduceAdd, qS, iE, jnE] <;> rfl)) ⟨_, rfl, (up_m rfl hb_63)⟩ rfl ?_
        refine al_ro' (ro_fld_ptr y43_fl52_1 rfl (u4 rfl (u8 rfl s4_59))) ⟨_, rfl, (u2 rfl hb_63)⟩ rfl ?_
        refine al_ro' (ro_eq (ro_ld_ptr y43_ty3 rfl mo1_31 up_h (by exact Nat.le_of_ble_eq_true rfl)) (by simp only [packA_t, packA_f, iE, bE, setAt, cellsA, Value.cells, map_vc, map_vn, Nat.reduceAdd, qS, iE, jnE] <;> rfl)) ⟨_, rfl, (up_m rfl (u2 rfl hb_63))⟩ rfl ?_
        refine al_ro' (ro_gtr (u2 rfl up_h) up_h) ⟨_, rfl, (u4 rfl hb_63)⟩ rfl ?_
        refine al_ro' (ro_pickF (up_m rfl (u4 rfl hb_63)) up_h) trivial rfl ?_
        refine al_ro' (ro_assign up_h) trivial rfl ?_
        refine al_end (fun e_66 he_66 => ?_)
        have s3_66 := ef 3 he_66 (up_m rfl (u16 rfl s3_59))
        have s4_66 := ef 4 he_66 (up_m rfl (u16 rfl s4_59))
        have s7_66 := ef 7 he_66 (up_m rfl (u16 rfl s7_59))
        have s8_66 := ef 8 he_66 (up_m rfl (u16 rfl s8_59))
        have s9_66 := ef 9 he_66 (up_m rfl (u16 rfl s9_59))
        have s10_66 := ef 10 he_66 (up_m rfl (u16 rfl s10_59))
        have s11_66 := ef 11 he_66 up_h
        have s12_66 := ef 12 he_66 (up_m rfl (u16 rfl s12_59))
        clear he_66 hb_60 hb_63 s10_59 s11_59 s12_59 s13_59 s3_59 s4_59 s7_59 s8_59 s9_59
        refine block_n ?_
        refine then_n ?_
        refine aw_text (by kernel_rfl) ?_
        refine al_ro' (ro_move s12_66) trivial rfl ?_
        (refine al_ro' (ro_add' up_h ev_c ?_) trivial rfl ?_; · (unfold In64; omega))
        refine al_ro' (ro_assign up_h) trivial rfl ?_
        refine al_end (fun e_67 he_67 => ?_)
        have s3_67 := ef 3 he_67 (up_m rfl (u2 rfl s3_66))
        have s4_67 := ef 4 he_67 (up_m rfl (u2 rfl s4_66))
        have s7_67 := ef 7 he_67 (up_m rfl (u2 rfl s7_66))
        have s8_67 := ef 8 he_67 (up_m rfl (u2 rfl s8_66))
        have s9_67 := ef 9 he_67 (up_m rfl (u2 rfl s9_66))
        have s10_67 := ef 10 he_67 (up_m rfl (u2 rfl s10_66))
        have s11_67 := ef 11 he_67 (up_m rfl (u2 rfl s11_66))
        have s12_67 := ef 12 he_67 up_h
        clear he_67 s10_66 s11_66 s12_66 s3_66 s4_66 s7_66 s8_66 s9_66
        refine then_n ?_
        refine ⟨⟨_, _, _⟩, ⟨s12_67, s10_67, s11_67, (s3_67.trans s3_21.symm), (s4_67.trans s4_21.symm), (s7_67.trans s7_21.symm), (s8_67.trans s8_21.symm), (s9_67.trans s9_21.symm), (mo2_31.trans mo2_16.symm), (mo1_31.trans mo1_16.symm), (mo0_31.trans mo0_16.symm), ⟨_, ml_31, by omega⟩, ?_⟩, ?_⟩
        · (refine ⟨by omega, by omega, ?_, ?_⟩ <;> rw [show (i + 1).toNat = i.toNat + 1 by omega] <;> (first | rw [yn1, ← i3, Bool.eq_iff_iff] | rw [nn1, ← i4, Bool.eq_iff_iff]) <;> clear yn1 nn1 i3 i4 <;> cases y <;> cases n <;> first | contradiction | (simp only [Bool.or_eq_true, Bool.and_eq_true, Bool.false_eq_true, Bool.true_eq_false, false_or, true_or, or_true, or_false, and_true, true_and, false_and, and_false, decide_eq_true_eq, true_iff, false_iff, iff_true, iff_false]; done) | (simp only [Bool.or_eq_true, Bool.and_eq_true, Bool.false_eq_true, Bool.true_eq_false, false_or, true_or, or_true, or_false, and_true, true_and, false_and, and_false, decide_eq_true_eq, true_iff, false_iff, iff_true, iff_false]; omega))
        · ((try dsimp only); omega)
       replace hq_24 := bf hq_24
       (rw [show i.toNat = (benL l L p).length by rw [← benP_len2]; omega] at i3 i4; unfold yesB at i3; unfold noB at i4; rw [List.take_length] at i3 i4)
       refine aw_exit ?_
       refine then_x ?_
       refine then_x ?_
       refine block_hit ?_
       refine then_n ?_
       refine aw_seq ?_
       refine aw_draw 10 (by kernel_rfl) (by kernel_rfl) (by kernel_rfl) (by kernel_rfl) ?_
       refine ds_ro' (ro_eq (ro_ld_ptr y43_ty26 rfl mo0_22 s3_23 (by exact Nat.le_of_ble_eq_true rfl)) (by simp only [packA_t, packA_f, iE, bE, setAt, cellsA, Value.cells, map_vc, map_vn, Nat.reduceAdd, qS, iE, jnE] <;> rfl)) trivial rfl ?_
       refine ds_ro' (ro_call (evL_cons up_h evL_nil) rfl (yCopy_ok l hl) y43_hcf17) trivial rfl ?_
       refine ds_ro' (ro_eq (ro_ld_ptr y43_ty52 rfl mo1_22 (u2 rfl s4_23) (by exact Nat.le_of_ble_eq_true rfl)) (by simp only [packA_t, packA_f, iE, bE, setAt, cellsA, Value.cells, map_vc, map_vn, Nat.reduceAdd, qS, iE, jnE] <;> rfl)) trivial rfl ?_
       refine ds_ro' (ro_move (up_m rfl (u2 rfl s8_23))) trivial rfl ?_
       refine ds_ro' (ro_call (evL_cons (u2 rfl up_h) (evL_cons (up_m rfl up_h) (evL_cons up_h evL_nil))) rfl (clearAt_good l hl hg L c u p hv hp) y43_hcf34) trivial rfl ?_
       refine ds_ro' (ro_move up_h) trivial rfl ?_
       refine ds_ro' (ro_extract up_h rfl) trivial rfl ?_
       refine ds_ro' (ro_extract (up_m rfl up_h) rfl) trivial rfl ?_
       refine ds_ro' (ro_assign (up_m rfl up_h)) trivial rfl ?_
       refine ds_ro' (ro_assign (up_m rfl up_h)) trivial rfl ?_
       refine ds_nil ?_
       refine al_end (fun e_68 he_68 => ?_)
       have s3_68 := ef 3 he_68 (u2 rfl (u8 rfl s3_23))
       have s4_68 := ef 4 he_68 (u2 rfl (u8 rfl s4_23))
       have s7_68 := ef 7 he_68 (u2 rfl (u8 rfl s7_23))
       have s8_68 := ef 8 he_68 (u2 rfl (u8 rfl s8_23))
       have s10_68 := ef 10 he_68 (u2 rfl (u8 rfl s10_23))
       have s11_68 := ef 11 he_68 (u2 rfl (u8 rfl s11_23))
       have s17_68 := ef 17 he_68 (up_m rfl up_h)
       have s18_68 := ef 18 he_68 up_h
       clear he_68 s10_23 s11_23 s12_23 s3_23 s4_23 s68_23 s7_23 s8_23 s9_23
       refine then_n ?_
       refine aw_seq ?_
       refine aw_draw 10 (by kernel_rfl) (by kernel_rfl) (by kernel_rfl) (by kernel_rfl) ?_
       refine ds_ro' (ro_eq (ro_ld_ptr y43_ty26 rfl mo2_22 s7_68 (by exact Nat.le_of_ble_eq_true rfl)) (by simp only [packA_t, packA_f, iE, bE, setAt, cellsA, Value.cells, map_vc, map_vn, Nat.reduceAdd, qS, iE, jnE] <;> rfl)) trivial rfl ?_
       refine ds_ro' (ro_call (evL_cons up_h evL_nil) rfl (yCopy_ok (inA l ps) hms) y43_hcf17) trivial rfl ?_
       refine ds_ro' (ro_eq (ro_ld_ptr y43_ty52 rfl mo1_22 (u2 rfl s4_68) (by exact Nat.le_of_ble_eq_true rfl)) (by simp only [packA_t, packA_f, iE, bE, setAt, cellsA, Value.cells, map_vc, map_vn, Nat.reduceAdd, qS, iE, jnE] <;> rfl)) trivial rfl ?_
       refine ds_ro' (ro_move (up_m rfl (u2 rfl s8_68))) trivial rfl ?_
       refine ds_ro' (ro_call (evL_cons (u2 rfl up_h) (evL_cons (up_m rfl up_h) (evL_cons up_h evL_nil))) rfl (cl2) y43_hcf34) trivial rfl ?_
       refine ds_ro' (ro_move up_h) trivial rfl ?_
       refine ds_ro' (ro_extract up_h rfl) trivial rfl ?_
       refine ds_ro' (ro_extract (up_m rfl up_h) rfl) trivial rfl ?_
       refine ds_ro' (ro_assign (up_m rfl up_h)) trivial rfl ?_
       refine ds_ro' (ro_assign (up_m rfl up_h)) trivial rfl ?_
       refine ds_nil ?_
       refine al_end (fun e_69 he_69 => ?_)
       have s3_69 := ef 3 he_69 (u2 rfl (u8 rfl s3_68))
       have s4_69 := ef 4 he_69 (u2 rfl (u8 rfl s4_68))
       have s7_69 := ef 7 he_69 (u2 rfl (u8 rfl s7_68))
       have s8_69 := ef 8 he_69 (u2 rfl (u8 rfl s8_68))
       have s10_69 := ef 10 he_69 (u2 rfl (u8 rfl s10_68))
       have s11_69 := ef 11 he_69 (u2 rfl (u8 rfl s11_68))
       have s17_69 := ef 17 he_69 (u2 rfl (u8 rfl s17_68))
       have s18_69 := ef 18 he_69 (u2 rfl (u8 rfl s18_68))
       have s19_69 := ef 19 he_69 (up_m rfl up_h)
       have s20_69 := ef 20 he_69 up_h
       clear he_69 s10_68 s11_68 s17_68 s18_68 s3_68 s4_68 s7_68 s8_68
       refine then_n ?_
       refine aw_seq ?_
       refine aw_text (by kernel_rfl) ?_
       refine al_ro' (ro_move s18_69) trivial rfl ?_
       refine al_ro' (ro_neq up_h ev_c) trivial rfl ?_
       refine al_ro' (ro_move up_h) trivial rfl ?_
       refine al_case up_h (fun hb_70 hq_70 => ?_) (fun hb_70 hq_70 => ?_)
       · cases hq_70
       replace hq_70 := bnf hq_70
       refine al_ro' (ro_move (up_m rfl (u2 rfl s20_69))) ⟨_, rfl, hb_70⟩ rfl ?_
       refine al_ro' (ro_neq up_h ev_c) ⟨_, rfl, (up_m rfl hb_70)⟩ rfl ?_
       refine al_ro' (ro_pickF (u2 rfl hb_70) up_h) trivial rfl ?_
       refine al_ro' (ro_move up_h) trivial rfl ?_
       refine al_case up_h (fun hb_71 hq_71 => ?_) (fun hb_71 hq_71 => ?_)
       · cases hq_71
       replace hq_71 := bnf hq_71
       refine al_ro' (ro_move (up_m rfl (u2 rfl (u4 rfl s17_69)))) ⟨_, rfl, hb_71⟩ rfl ?_
       refine al_ro' (ro_eql up_h ev_c) ⟨_, rfl, (up_m rfl hb_71)⟩ rfl ?_
       refine al_ro' (ro_move (up_m rfl (u8 rfl s10_69))) ⟨_, rfl, (u2 rfl hb_71)⟩ rfl ?_
       refine al_ro' (ro_bneq (y43_bn4 _ _) (up_m rfl up_h) up_h) ⟨_, rfl, (up_m rfl (u2 rfl hb_71))⟩ rfl ?_
       refine al_ro' (ro_pickF (u4 rfl hb_71) up_h) trivial rfl ?_
       refine al_ro' (ro_move up_h) trivial rfl ?_
       refine al_case up_h (fun hb_72 hq_72 => ?_) (fun hb_72 hq_72 => ?_)
       · first | (simp at hq_72; done) | (exact absurd hg hq_72) | (exact absurd hq_72 hv) | (exact absurd hv hq_72) | (exact absurd (by simpa using hq_72) hv) | (exact absurd hv (by simpa using hq_72)) | (rw [hq] at hq_72; simp at hq_72; done) | (rw [i3] at hq_72; simp at hq_72; done) | (rw [i4] at hq_72; simp at hq_72; done) | (have := kp.yes; have := kp.no; simp_all; done)
       replace hq_72 := bnf hq_72
       refine al_ro' (ro_move (up_m rfl (u4 rfl (u8 rfl s17_69)))) ⟨_, rfl, hb_72⟩ rfl ?_
       refine al_ro' (ro_eql up_h ev_c) ⟨_, rfl, (up_m rfl hb_72)⟩ rfl ?_
       refine al_ro' (ro_move (up_m rfl (u2 rfl (u4 rfl (u8 rfl s11_69))))) ⟨_, rfl, (u2 rfl hb_72)⟩ rfl ?_
       refine al_ro' (ro_bneq (y43_bn4 _ _) (up_m rfl up_h) up_h) ⟨_, rfl, (up_m rfl (u2 rfl hb_72))⟩ rfl ?_
       refine al_ro' (ro_pickF (u4 rfl hb_72) up_h) trivial rfl ?_
       refine al_ro' (ro_move up_h) trivial rfl ?_
       refine al_case up_h (fun hb_73 hq_73 => ?_) (fun hb_73 hq_73 => ?_)
       · first | (simp at hq_73; done) | (exact absurd hg hq_73) | (exact absurd hq_73 hv) | (exact absurd hv hq_73) | (exact absurd (by simpa using hq_73) hv) | (exact absurd hv (by simpa using hq_73)) | (rw [hq] at hq_73; simp at hq_73; done) | (rw [i3] at hq_73; simp at hq_73; done) | (rw [i4] at hq_73; simp at hq_73; done) | (have := kp.yes; have := kp.no; simp_all; done)
       replace hq_73 := bnf hq_73
       refine al_ro' (ro_move (up_m rfl (u2 rfl (u16 rfl s10_69)))) ⟨_, rfl, hb_73⟩ rfl ?_
       refine al_ro' (ro_move up_h) ⟨_, rfl, (up_m rfl hb_73)⟩ rfl ?_
       refine al_case up_h (fun hb_74 hq_74 => ?_) (fun hb_74 hq_74 => ?_)
       ·skip
        refine al_ro' (ro_move (up_m rfl (u4 rfl (u16 rfl s19_69)))) ⟨_, rfl, hb_74⟩ rfl ?_
        refine al_ro' (ro_neq up_h ev_c) ⟨_, rfl, (up_m rfl hb_74)⟩ rfl ?_
        refine al_ro' (ro_pickT (u2 rfl hb_74) up_h) ⟨_, rfl, (u4 rfl hb_73)⟩ rfl ?_
        refine al_ro' (ro_pickF (up_m rfl (u4 rfl hb_73)) up_h) trivial rfl ?_
        refine al_ro' (ro_move up_h) trivial rfl ?_
        refine al_case up_h (fun hb_75 hq_75 => ?_) (fun hb_75 hq_75 => ?_)
        · first | (simp at hq_75; done) | (exact absurd hg hq_75) | (exact absurd hq_75 hv) | (exact absurd hv hq_75) | (exact absurd (by simpa using hq_75) hv) | (exact absurd hv (by simpa using hq_75)) | (rw [hq] at hq_75; simp at hq_75; done) | (rw [i3] at hq_75; simp at hq_75; done) | (rw [i4] at hq_75; simp at hq_75; done) | (have := kp.yes; have := kp.no; simp_all; done)
        replace hq_75 := bnf hq_75
        refine al_ro' (ro_move (u2 rfl (u8 rfl (u16 rfl s11_69)))) ⟨_, rfl, hb_75⟩ rfl ?_
        refine al_ro' (ro_move up_h) ⟨_, rfl, (up_m rfl hb_75)⟩ rfl ?_
        refine al_case up_h (fun hb_76 hq_76 => ?_) (fun hb_76 hq_76 => ?_)
        · first | (simp at hq_76; done) | (exact absurd hg hq_76) | (exact absurd hq_76 hv) | (exact absurd hv hq_76) | (exact absurd (by simpa using hq_76) hv) | (exact absurd hv (by simpa using hq_76)) | (rw [hq] at hq_76; simp at hq_76; done) | (rw [i3] at hq_76; simp at hq_76; done) | (rw [i4] at hq_76; simp at hq_76; done) | (have := kp.yes; have := kp.no; simp_all; done)
        refine al_skip' ⟨_, rfl, .inl hb_76⟩ rfl ?_
        refine al_skip' ⟨_, rfl, .inl (up_m rfl hb_76)⟩ rfl ?_
        refine al_ro' (ro_pickF (u2 rfl hb_76) ev_c) ⟨_, rfl, (u4 rfl hb_75)⟩ rfl ?_
        refine al_ro' (ro_pickF (up_m rfl (u4 rfl hb_75)) up_h) trivial rfl ?_
        refine al_end (fun e_80 he_80 => ?_)
        have s3_80 := ef 3 he_80 (u16 rfl (u16 rfl s3_69))
        have s4_80 := ef 4 he_80 (u16 rfl (u16 rfl s4_69))
        have s7_80 := ef 7 he_80 (u16 rfl (u16 rfl s7_69))
        have s8_80 := ef 8 he_80 (u16 rfl (u16 rfl s8_69))
        have s203_80 := ef 203 he_80 up_h
        clear he_80 hb_70 hb_71 hb_72 hb_73 hb_74 hb_75 hb_76 s10_69 s11_69 s17_69 s18_69 s19_69 s20_69 s3_69 s4_69 s7_69 s8_69
        refine then_n ?_
        refine aw_false s203_80 ?_
        refine aw_skip ?_
        refine block_n ?_
        refine then_n ?_
        refine aw_text (by kernel_rfl) ?_
        refine al_ro' (ro_move s8_80) trivial rfl ?_
        refine al_ro' (ro_fld_ptr y43_fl52_2 rfl (up_m rfl s4_80)) trivial rfl ?_
        refine al_ro' (ro_eq (ro_ld_ptr y43_ty3 rfl mo1_22 up_h (by exact Nat.le_of_ble_eq_true rfl)) (by simp only [packA_t, packA_f, iE, bE, setAt, cellsA, Value.cells, map_vc, map_vn, Nat.reduceAdd, qS, iE, jnE] <;> rfl)) trivial rfl ?_
        (refine al_ro' (ro_add' (u2 rfl up_h) up_h ?_) trivial rfl ?_; · (unfold In64; omega))
        refine al_ro' (ro_assign up_h) trivial rfl ?_
        refine al_end (fun e_82 he_82 => ?_)
        have s3_82 := ef 3 he_82 (up_m rfl (u4 rfl s3_80))
        have s4_82 := ef 4 he_82 (up_m rfl (u4 rfl s4_80))
        have s7_82 := ef 7 he_82 (up_m rfl (u4 rfl s7_80))
        have s8_82 := ef 8 he_82 up_h
        clear he_82 s203_80 s3_80 s4_80 s7_80 s8_80
        refine then_n ?_
        refine ⟨_, ⟨s8_82, (s3_82.trans s3_15.symm), (s4_82.trans s4_15.symm), (s7_82.trans s7_15.symm), (mo2_22.trans mo2_13.symm), (mo1_22.trans mo1_13.symm), (mo0_22.trans mo0_13.symm), ⟨_, ml_22, by omega⟩, ?_⟩, ?_⟩
        · (exact ⟨by omega, by omega, tmod_add (by omega) p1 p3⟩)
        · ((try dsimp only); omega)
       refine al_skip' ⟨_, rfl, .inl hb_74⟩ rfl ?_
       refine al_skip' ⟨_, rfl, .inl (up_m rfl hb_74)⟩ rfl ?_
       refine al_ro' (ro_pickF (u2 rfl hb_74) ev_c) ⟨_, rfl, (u4 rfl hb_73)⟩ rfl ?_
       refine al_ro' (ro_pickF (up_m rfl (u4 rfl hb_73)) up_h) trivial rfl ?_
       refine al_ro' (ro_move up_h) trivial rfl ?_
       refine al_ro' (ro_move (u2 rfl (u8 rfl (u16 rfl s11_69)))) ⟨_, rfl, up_h⟩ rfl ?_
       refine al_ro' (ro_move up_h) ⟨_, rfl, (up_m rfl up_h)⟩ rfl ?_
       refine al_case up_h (fun hb_83 hq_83 => ?_) (fun hb_83 hq_83 => ?_)
       ·skip
        refine al_ro' (ro_move (u4 rfl (u8 rfl (u16 rfl s19_69)))) ⟨_, rfl, hb_83⟩ rfl ?_
        refine al_ro' (ro_neq up_h ev_c) ⟨_, rfl, (up_m rfl hb_83)⟩ rfl ?_
        refine al_ro' (ro_pickT (u2 rfl hb_83) up_h) ⟨_, rfl, (u4 rfl up_h)⟩ rfl ?_
        refine al_ro' (ro_pickF (up_m rfl (u4 rfl up_h)) up_h) trivial rfl ?_
        refine al_end (fun e_84 he_84 => ?_)
        have s3_84 := ef 3 he_84 (u16 rfl (u16 rfl s3_69))
        have s4_84 := ef 4 he_84 (u16 rfl (u16 rfl s4_69))
        have s7_84 := ef 7 he_84 (u16 rfl (u16 rfl s7_69))
        have s8_84 := ef 8 he_84 (u16 rfl (u16 rfl s8_69))
        have s203_84 := ef 203 he_84 up_h
        clear he_84 hb_70 hb_71 hb_72 hb_73 hb_74 hb_83 s10_69 s11_69 s17_69 s18_69 s19_69 s20_69 s3_69 s4_69 s7_69 s8_69
        refine then_n ?_
        refine aw_case s203_84 (fun hq_85 => ?_) (fun hq_85 => ?_)
        · first | (simp at hq_85; done) | (exact absurd hg hq_85) | (exact absurd hq_85 hv) | (exact absurd hv hq_85) | (exact absurd (by simpa using hq_85) hv) | (exact absurd hv (by simpa using hq_85)) | (rw [hq] at hq_85; simp at hq_85; done) | (rw [i3] at hq_85; simp at hq_85; done) | (rw [i4] at hq_85; simp at hq_85; done) | (have := kp.yes; have := kp.no; simp_all; done)
        replace hq_85 := bnf hq_85
        refine aw_skip ?_
        refine block_n ?_
        refine then_n ?_
        refine aw_text (by kernel_rfl) ?_
        refine al_ro' (ro_move s8_84) trivial rfl ?_
        refine al_ro' (ro_fld_ptr y43_fl52_2 rfl (up_m rfl s4_84)) trivial rfl ?_
        refine al_ro' (ro_eq (ro_ld_ptr y43_ty3 rfl mo1_22 up_h (by exact Nat.le_of_ble_eq_true rfl)) (by simp only [packA_t, packA_f, iE, bE, setAt, cellsA, Value.cells, map_vc, map_vn, Nat.reduceAdd, qS, iE, jnE] <;> rfl)) trivial rfl ?_
        (refine al_ro' (ro_add' (u2 rfl up_h) up_h ?_) trivial rfl ?_; · (unfold In64; omega))
        refine al_ro' (ro_assign up_h) trivial rfl ?_
        refine al_end (fun e_87 he_87 => ?_)
        have s3_87 := ef 3 he_87 (up_m rfl (u4 rfl s3_84))
        have s4_87 := ef 4 he_87 (up_m rfl (u4 rfl s4_84))
        have s7_87 := ef 7 he_87 (up_m rfl (u4 rfl s7_84))
        have s8_87 := ef 8 he_87 up_h
        clear he_87 s203_84 s3_84 s4_84 s7_84 s8_84
        refine then_n ?_
        refine ⟨_, ⟨s8_87, (s3_87.trans s3_15.symm), (s4_87.trans s4_15.symm), (s7_87.trans s7_15.symm), (mo2_22.trans mo2_13.symm), (mo1_22.trans mo1_13.symm), (mo0_22.trans mo0_13.symm), ⟨_, ml_22, by omega⟩, ?_⟩, ?_⟩
        · (exact ⟨by omega, by omega, tmod_add (by omega) p1 p3⟩)
        · ((try dsimp only); omega)
       refine al_skip' ⟨_, rfl, .inl hb_83⟩ rfl ?_
       refine al_skip' ⟨_, rfl, .inl (up_m rfl hb_83)⟩ rfl ?_
       refine al_ro' (ro_pickF (u2 rfl hb_83) ev_c) ⟨_, rfl, (u4 rfl up_h)⟩ rfl ?_
       refine al_ro' (ro_pickF (up_m rfl (u4 rfl up_h)) up_h) trivial rfl ?_
       refine al_end (fun e_88 he_88 => ?_)
       have s3_88 := ef 3 he_88 (u16 rfl (u16 rfl s3_69))
       have s4_88 := ef 4 he_88 (u16 rfl (u16 rfl s4_69))
       have s7_88 := ef 7 he_88 (u16 rfl (u16 rfl s7_69))
       have s8_88 := ef 8 he_88 (u16 rfl (u16 rfl s8_69))
       have s203_88 := ef 203 he_88 up_h
       clear he_88 hb_70 hb_71 hb_72 hb_73 hb_74 hb_83 s10_69 s11_69 s17_69 s18_69 s19_69 s20_69 s3_69 s4_69 s7_69 s8_69
       refine then_n ?_
       refine aw_false s203_88 ?_
       refine aw_skip ?_
       refine block_n ?_
       refine then_n ?_
       refine aw_text (by kernel_rfl) ?_
       refine al_ro' (ro_move s8_88) trivial rfl ?_
       refine al_ro' (ro_fld_ptr y43_fl52_2 rfl (up_m rfl s4_88)) trivial rfl ?_
       refine al_ro' (ro_eq (ro_ld_ptr y43_ty3 rfl mo1_22 up_h (by exact Nat.le_of_ble_eq_true rfl)) (by simp only [packA_t, packA_f, iE, bE, setAt, cellsA, Value.cells, map_vc, map_vn, Nat.reduceAdd, qS, iE, jnE] <;> rfl)) trivial rfl ?_
       (refine al_ro' (ro_add' (u2 rfl up_h) up_h ?_) trivial rfl ?_; · (unfold In64; omega))
       refine al_ro' (ro_assign up_h) trivial rfl ?_
       refine al_end (fun e_90 he_90 => ?_)
       have s3_90 := ef 3 he_90 (up_m rfl (u4 rfl s3_88))
       have s4_90 := ef 4 he_90 (up_m rfl (u4 rfl s4_88))
       have s7_90 := ef 7 he_90 (up_m rfl (u4 rfl s7_88))
       have s8_90 := ef 8 he_90 up_h
       clear he_90 s203_88 s3_88 s4_88 s7_88 s8_88
       refine then_n ?_
       refine ⟨_, ⟨s8_90, (s3_90.trans s3_15.symm), (s4_90.trans s4_15.symm), (s7_90.trans s7_15.symm), (mo2_22.trans mo2_13.symm), (mo1_22.trans mo1_13.symm), (mo0_22.trans mo0_13.symm), ⟨_, ml_22, by omega⟩, ?_⟩, ?_⟩
       · (exact ⟨by omega, by omega, tmod_add (by omega) p1 p3⟩)
       · ((try dsimp only); omega)
    replace hq_18 := bf hq_18
    refine aw_exit ?_
    refine then_x ?_
    refine then_x ?_
    refine block_hit ?_
    refine then_n ?_
    refine aw_seq ?_
    refine aw_text (by kernel_rfl) ?_
    refine al_ro' (ro_assign ev_c) trivial rfl ?_
    refine al_end (fun e_91 he_91 => ?_)
    have s6_91 := ef 6 he_91 up_h
    clear he_91 s3_17 s4_17 s56_17 s7_17 s8_17
    refine then_n ?_
    refine aw_ret ?_
    refine ret1 (.inr rfl) (by kernel_rfl) (resV_tmp s6_91) (.ro _ rfl) ?_
    clear s6_91 mo2_16 mo1_16 mo0_16 ml_16
    first | rfl | simp_all
theorem lineClearAll_ok (l : Lin) (L c u : Int) (ps : List Int) (hps : ∀ b ∈ ps, 0 ≤ b ∧ b < 256) : FnOk Try.prog 6 [lnA l, vehA L c u, .row 1 (ps.map byE)] (fun q => q = tbA true) := by
  cases hf : fewL l with
  | false => exact lineClearAll_many l hf L c u ps hps
  | true =>
    by_cases hg : (linM l).2 = 0
    · by_cases hv : vehE L c u = 0
      · cases hq : posB l u with
        | false => exact lineClearAll_poses l hf hg L c u hv hq ps hps
        | true =>
          by_cases hk : 50 < ps.length
          · exact lineClearAll_long l hf hg L c u hv hq ps hk hps
          · exact lineClearAll_in l hf hg L c u hv hq ps (by omega) hps
      · exact lineClearAll_veh l hf hg L c u hv ps hps
    · exact lineClearAll_bad l hf hg L c u ps hps
end Go.Proofs.Ytknclifdncmgpaa

