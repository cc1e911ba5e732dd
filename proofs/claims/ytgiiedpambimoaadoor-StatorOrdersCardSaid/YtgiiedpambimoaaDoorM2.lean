/- Texts of this claim, one behind the other: lemmas for the statement. -/
import Derived.Test.YtgiiedpambimoaaDoorM1
import Derived.Test.YtgiiedpambimoaaDoorA17
/- Contracts of chapter 3: orders and samples, the exported functions and the document's. No conditions on a program. -/
namespace Go.Proofs.YtgiiedpambimoaaDoor
open Go Go.RowKit Go.Proofs
set_option linter.unusedSimpArgs false
set_option linter.unusedVariables false
theorem h5_az25 : (Tryd.prog.info? 25).bind (·.zero) = some (.agg #[.int .i64 0, .int .i64 0, .int .i64 0, .int .i64 0, .int .i64 0, .int .i64 0, .int .i64 0, .int .i64 0, .int .i64 0, .int .i64 0, .int .i64 0, .int .i64 0]) := by kernel_rfl
theorem h5_az96 : (Tryd.prog.info? 96).bind (·.zero) = some (.agg #[.int .i64 0, .int .i64 0]) := by kernel_rfl
theorem h5_az97 : (Tryd.prog.info? 97).bind (·.zero) = some (.agg #[.int .i64 0, .int .i64 0, .int .i64 0, .int .i64 0, .int .i64 0, .int .i64 0, .int .i64 0, .int .i64 0, .int .i64 0, .int .i64 0, .int .i64 0, .int .i64 0]) := by kernel_rfl
theorem h5_ar25 : ArIs Tryd.prog 25 6 2 := ⟨by kernel_rfl, by kernel_rfl⟩
theorem h5_ar97 : ArIs Tryd.prog 97 6 2 := ⟨by kernel_rfl, by kernel_rfl⟩
theorem h5_at22 : ArTy Tryd.prog 22 6 3 false 1 := ⟨by kernel_rfl, by kernel_rfl, by kernel_rfl⟩
theorem h5_at97 : ArTy Tryd.prog 97 6 96 true 2 := ⟨by kernel_rfl, by kernel_rfl, by kernel_rfl⟩
theorem h5_bz25 : (Tryd.prog.info? 25).bind (·.zero) = some (.agg #[.int .i64 0, .int .i64 0, .int .i64 0, .int .i64 0, .int .i64 0, .int .i64 0, .int .i64 0, .int .i64 0, .int .i64 0, .int .i64 0, .int .i64 0, .int .i64 0]) := by kernel_rfl
theorem h5_bu25 : Tryd.prog.underlying 25 = some (.array 6 24) := by kernel_rfl
theorem h5_bp25 : (Tryd.prog.info? 24).map (·.size) = some 2 := by kernel_rfl
theorem h5_hcf48 : ∀ args w, (callFunc 48 args).run Tryd.prog w = .ok (.enter 48 args) w := fun _ _ => by kernel_rfl
theorem h5_hcf49 : ∀ args w, (callFunc 49 args).run Tryd.prog w = .ok (.enter 49 args) w := fun _ _ => by kernel_rfl
theorem h5_hcf50 : ∀ args w, (callFunc 50 args).run Tryd.prog w = .ok (.enter 50 args) w := fun _ _ => by kernel_rfl
theorem h5_sz24 : (Tryd.prog.info? 24).map (·.size) = some 2 := by kernel_rfl
theorem h5_sz25 : (Tryd.prog.info? 25).map (·.size) = some 12 := by kernel_rfl
theorem h5_sz96 : (Tryd.prog.info? 96).map (·.size) = some 2 := by kernel_rfl
theorem h5_ty22 : TyIs Tryd.prog 22 true 6 := ⟨by kernel_rfl, by kernel_rfl⟩
theorem h5_ty25 : TyIs Tryd.prog 25 true 12 := ⟨by kernel_rfl, by kernel_rfl⟩
theorem h5_ty96 : TyIs Tryd.prog 96 true 2 := ⟨by kernel_rfl, by kernel_rfl⟩
theorem h5_ty97 : TyIs Tryd.prog 97 true 12 := ⟨by kernel_rfl, by kernel_rfl⟩

def z6 : List V2 := [(0, 0), (0, 0), (0, 0), (0, 0), (0, 0), (0, 0)]
def i6 : List Int := [0, 0, 0, 0, 0, 0]
def oneV (n : Int) : V2 := (n, 0)
def ordW (xs : List Int) : List V2 := trW (xs.map oneV) (-1)
theorem ordW_len (xs : List Int) : (ordW xs).length = 6 := trW_len _ _
theorem getD_oneV (xs : List Int) (j : Nat) : (xs.map oneV).getD j default = oneV (xs.getD j default) := by
  simp only [List.getD_eq_getElem?_getD, List.getElem?_map]
  cases xs[j]? <;> rfl
theorem oneV_bd {xs : List Int} (h : ∀ n ∈ xs, -100000 ≤ n ∧ n ≤ 100000) : ∀ v ∈ xs.map oneV, Bd 600000 v := by
  intro v hv
  obtain ⟨n, hn, rfl⟩ := List.mem_map.1 hv
  have := h n hn
  exact ⟨⟨by simp only [oneV]; omega, by simp only [oneV]; omega⟩, by simp [oneV], by simp [oneV]⟩
theorem getD_z6 {α : Type} [Inhabited α] (a : α) (j : Nat) (hj : j < 6) : [a, a, a, a, a, a].getD j default = a := by
  match j, hj with
  | 0, _ => rfl
  | 1, _ => rfl
  | 2, _ => rfl
  | 3, _ => rfl
  | 4, _ => rfl
  | 5, _ => rfl
theorem getD_mem {α : Type} [Inhabited α] {xs : List α} {j : Nat} (h : j < xs.length) : xs.getD j default ∈ xs := by
  rw [List.getD_eq_getElem?_getD, List.getElem?_eq_getElem h]; exact List.getElem_mem h
def ordR (xs : List Int) : List V2 := if phasesE xs = 0 then ordW xs else z6
set_option maxRecDepth 100000 in
set_option maxHeartbeats 4000000 in
theorem ordersOf_ok (xs : List Int) (hx : xs.length = 6) : FnOkG Tryd.prog gS 10 [.agg (xs.map iE).flatten] (fun q => q = .tuple [.agg ((ordR xs).map tE).flatten, nA (phasesE xs)]) := by
  refine fnOkG_of (fn := Tryd.f10) gS 39 (by kernel_rfl) rfl (by kernel_rfl) (Nat.le_of_ble_eq_true rfl) ?_
  intro e_0 m_0 hA hm_0
  have s0_0 : evA e_0 (.tmp 0) = _ := hA 0 _ rfl
  have ml_0 : m_0.length = 1 := by rw [hm_0]; rfl
  have mo0_0 : m_0[0]? = some (.glob gS) := by rw [hm_0]; rfl
  clear hA hm_0
  refine aw_seq ?_
  refine aw_text (by kernel_rfl) ?_
  refine al_stm (st_box s0_0 rfl ml_0) trivial rfl (fun m_1 hm_1 => ?_)
  have mo1_1 := m_push hm_1 ml_0
  (try simp only [packA_t, packA_f, iE, bE, setAt, cellsA, Value.cells, map_vc, map_vn, Nat.reduceAdd, qS, tE, set_tE] at mo1_1)
  have mo0_1 := m_push_o hm_1 mo0_0
  have ml_1 := m_push_l hm_1 ml_0
  have ml_1 : _ = 2 := ml_1
  clear hm_1 mo0_0
  refine al_stm (st_alloc h5_az25 rfl ml_1) trivial rfl (fun m_2 hm_2 => ?_)
  have mo2_2 : m_2[2]? = some (Ob.box 25 ((z6.map tE).flatten)) := m_push hm_2 ml_1
  have mo1_2 := m_push_o hm_2 mo1_1
  have mo0_2 := m_push_o hm_2 mo0_1
  have ml_2 := m_push_l hm_2 ml_1
  have ml_2 : _ = 3 := ml_2
  clear hm_2 mo1_1 mo0_1
  refine al_ro' (ro_assign ev_c) trivial rfl ?_
  refine al_end (fun e_3 he_3 => ?_)
  have s1_3 := ef 1 he_3 (u2 rfl up_h)
  have s2_3 := ef 2 he_3 (up_m rfl up_h)
  clear he_3 s0_0
  refine then_n ?_
  refine aw_seq ?_
  refine aw_seq ?_
  refine aw_freeze s1_3 mo1_2 (by first | rfl | (apply roL_flat; intro _; rfl)) (fun m_4 e_4 hm_4 he_4 => ?_)
  have mo2_4 := m_set_o hm_4 mo2_2 (by decide)
  have mo0_4 := m_set_o hm_4 mo0_2 (by decide)
  have ml_4 := m_set_l hm_4 ml_2
  have s1_4 : evA e_4 (.tmp 1) = _ := (congrArg (fun q => evA q (.tmp 1)) he_4).trans up_h
  have s2_4 : evA e_4 (.tmp 2) = _ := (congrArg (fun q => evA q (.tmp 2)) he_4).trans (up_m rfl s2_3)
  clear hm_4 he_4
  refine aw_text (by kernel_rfl) ?_
  refine al_ro' (ro_slarr h5_at22 s1_4 rfl (by rintro l hl; obtain ⟨_, _, rfl⟩ := List.mem_map.1 hl; rfl) (by first | rfl | (simp only [lnS]; omega)) (by decide)) trivial rfl ?_
  refine al_ro' (ro_call (evL_cons up_h evL_nil) (by first | rfl | (simp only [roO.roL, roO, Bool.and_true, Bool.true_and]; (apply roL_flat; intro _; rfl))) (phases_ok xs (by omega)) h5_hcf48) trivial rfl ?_
  refine al_ro' (ro_assign up_h) trivial rfl ?_
  refine al_end (fun e_5 he_5 => ?_)
  have s1_5 := ef 1 he_5 (up_m rfl (u2 rfl s1_4))
  have s2_5 := ef 2 he_5 (up_m rfl (u2 rfl s2_4))
  have s4_5 := ef 4 he_5 up_h
  clear he_5 s1_4 s2_4
  refine then_n ?_
  refine aw_seq ?_
  refine aw_text (by kernel_rfl) ?_
  refine al_ro' (ro_move s4_5) trivial rfl ?_
  refine al_ro' (ro_neq up_h ev_c) trivial rfl ?_
  refine al_end (fun e_6 he_6 => ?_)
  have s1_6 := ef 1 he_6 (u2 rfl s1_5)
  have s2_6 := ef 2 he_6 (u2 rfl s2_5)
  have s4_6 := ef 4 he_6 (u2 rfl s4_5)
  have s14_6 := ef 14 he_6 up_h
  clear he_6 s1_5 s2_5 s4_5
  refine then_n ?_
  refine aw_case s14_6 (fun hq_7 => ?_) (fun hq_7 => ?_)
  · (first | replace hq_7 := bnt hq_7 | replace hq_7 := bnf hq_7 | replace hq_7 := bt hq_7 | replace hq_7 := bf hq_7 | replace hq_7 := bt' hq_7 | replace hq_7 := bf' hq_7 | skip)
    first
    | (cases hq_7; done) | (exfalso; omega)
    | (
       (have hn : ¬ phasesE xs = 0 := (by assumption))
       refine aw_seq ?_
       refine aw_text (by kernel_rfl) ?_
       refine al_ro' (ro_eq (ro_buildA evP_nil h5_bz25 h5_bu25 h5_bp25 rfl) (show _ = AV.agg ((z6.map tE).flatten) from rfl)) trivial rfl ?_
       refine al_ro' (ro_move (up_m rfl s4_6)) trivial rfl ?_
       refine al_stm (st_store_all (u2 rfl s2_6) (up_m rfl up_h) rfl (by first | rfl | (apply oneL_flat; intro _; rfl)) mo2_4 h5_sz25 (by first | rfl | (rw [flat_map_len (k := 2)] <;> first | omega | (intro _; rfl))) (by first | rfl | (rw [flat_map_len (k := 2)] <;> first | omega | (intro _; rfl)))) trivial rfl (fun m_8 hm_8 => ?_)
       have mo2_8 := m_set hm_8 mo2_4
       (try simp only [packA_t, packA_f, iE, bE, setAt, cellsA, Value.cells, map_vc, map_vn, Nat.reduceAdd, qS, tE, set_tE] at mo2_8)
       have mo0_8 := m_set_o hm_8 mo0_4 (by decide)
       have ml_8 := m_set_l hm_8 ml_4
       clear hm_8 mo2_4 mo0_4
       refine al_ro' (ro_assign (up_n up_h)) trivial rfl ?_
       refine al_end (fun e_9 he_9 => ?_)
       have s2_9 := ef 2 he_9 (up_m rfl (up_n (u2 rfl s2_6)))
       have s3_9 := ef 3 he_9 up_h
       clear he_9 s14_6 s1_6 s2_6 s4_6
       refine then_n ?_
       refine aw_ret ?_
       refine then_r ?_
       refine ret2 (.inr rfl) (by kernel_rfl) (resV_cell s2_9 mo2_8 h5_ty25 (by first | exact Nat.le_of_ble_eq_true rfl | (rw [flat_map_len (k := 2)] <;> first | omega | (intro _; rfl))) (by simp)) (resV_tmp s3_9) (vw_r (.ro _ (by first | rfl | (apply ro_aggF; intro _; rfl) | (apply roL_flat; intro _; rfl)))) (.ro _ rfl) ?_
       clear s2_9 s3_9 mo2_8 mo0_8 ml_8
       (rw [take_flat_all (k := 2) (fun _ => rfl) (by decide), ordR, if_neg hn]))
  · (first | replace hq_7 := bnt hq_7 | replace hq_7 := bnf hq_7 | replace hq_7 := bt hq_7 | replace hq_7 := bf hq_7 | replace hq_7 := bt' hq_7 | replace hq_7 := bf' hq_7 | skip)
    first
    | (cases hq_7; done) | (exfalso; omega)
    | (
       (have hz : phasesE xs = 0 := (by omega); have hbx := phases_bd hz)
       refine aw_skip ?_
       refine then_n ?_
       refine aw_seq ?_
       refine aw_text (by kernel_rfl) ?_
       refine al_stm (st_alloc h5_az97 rfl ml_4) trivial rfl (fun m_10 hm_10 => ?_)
       have mo3_10 : m_10[3]? = some (Ob.box 97 ((z6.map tE).flatten)) := m_push hm_10 ml_4
       have mo2_10 := m_push_o hm_10 mo2_4
       have mo0_10 := m_push_o hm_10 mo0_4
       have ml_10 := m_push_l hm_10 ml_4
       have ml_10 : _ = 4 := ml_10
       clear hm_10 mo2_4 mo0_4
       refine al_end (fun e_11 he_11 => ?_)
       have s1_11 := ef 1 he_11 (up_m rfl s1_6)
       have s2_11 := ef 2 he_11 (up_m rfl s2_6)
       have s5_11 := ef 5 he_11 up_h
       clear he_11 s14_6 s1_6 s2_6 s4_6
       refine then_n ?_
       refine aw_seq ?_
       refine aw_seq ?_
       refine aw_text (by kernel_rfl) ?_
       refine al_ro' (ro_ld_allR h5_ty22 s1_11 (by first | rfl | (rw [flat_map_len (k := 1)] <;> first | omega | (intro _; rfl)))) trivial rfl ?_
       refine al_ro' (ro_move ev_c) trivial rfl ?_
       refine al_end (fun e_12 he_12 => ?_)
       have s2_12 := ef 2 he_12 (u2 rfl s2_11)
       have s5_12 := ef 5 he_12 (u2 rfl s5_11)
       have s17_12 := ef 17 he_12 (up_m rfl up_h)
       have s18_12 := ef 18 he_12 up_h
       clear he_12 s1_11 s2_11 s5_11
       refine then_n ?_
       refine aw_block ?_
       refine aw_loop (S := (Int × List V2)) (fun s e mem => match s with | ⟨n, ys⟩ => (evA e (.tmp 18) = .v (.int .i64 n)) ∧ (evA e (.tmp 2) = evA e_12 (.tmp 2)) ∧ (evA e (.tmp 5) = evA e_12 (.tmp 5)) ∧ (evA e (.tmp 17) = evA e_12 (.tmp 17)) ∧ (mem[3]? = some (.box 97 (ys.map tE).flatten)) ∧ (mem[2]? = m_10[2]?) ∧ (mem[0]? = m_10[0]?) ∧ (mem.length = 4) ∧ ((0 ≤ n ∧ n ≤ 6 ∧ ys.length = 6 ∧ ∀ j : Nat, j < 6 → ys.getD j default = if j < n.toNat then oneV (xs.getD j default) else (0, 0)))) (fun s => match s with | ⟨n, ys⟩ => (6 - n).toNat) ⟨_, z6⟩ ⟨s18_12, rfl, rfl, rfl, mo3_10, rfl, rfl, ml_10, ?_⟩ ?_
       · (exact ⟨by omega, by omega, rfl, fun j hj => by rw [if_neg (by omega)]; exact getD_z6 _ j hj⟩)
       · rintro ⟨n, ys⟩ e_13 m_13 ⟨s18_13, k2_13, k5_13, k17_13, mo3_13, mk2_13, mk0_13, ml_13, hinv⟩
         have s2_13 := k2_13.trans s2_12
         have s5_13 := k5_13.trans s5_12
         have s17_13 := k17_13.trans s17_12
         have mo2_13 := mk2_13.trans mo2_10
         have mo0_13 := mk0_13.trans mo0_10
         (obtain ⟨p1, p2, p3, p4⟩ := hinv)
         refine aw_seq ?_
         refine aw_text (by kernel_rfl) ?_
         refine al_ro' (ro_lss s18_13 ev_c) trivial rfl ?_
         refine al_end (fun e_14 he_14 => ?_)
         have s2_14 := ef 2 he_14 (up_m rfl s2_13)
         have s5_14 := ef 5 he_14 (up_m rfl s5_13)
         have s17_14 := ef 17 he_14 (up_m rfl s17_13)
         have s18_14 := ef 18 he_14 (up_m rfl s18_13)
         have s19_14 := ef 19 he_14 up_h
         clear he_14 s17_13 s18_13 s2_13 s5_13
         refine then_n ?_
         refine aw_seq ?_
         refine aw_case s19_14 (fun hq_15 => ?_) (fun hq_15 => ?_)
         · (first | replace hq_15 := bnt hq_15 | replace hq_15 := bnf hq_15 | replace hq_15 := bt hq_15 | replace hq_15 := bf hq_15 | replace hq_15 := bt' hq_15 | replace hq_15 := bf' hq_15 | skip)
           first
           | (cases hq_15; done) | (exfalso; omega)
           | (
              refine aw_skip ?_
              refine then_n ?_
              refine aw_seq ?_
              refine aw_block ?_
              refine aw_seq ?_
              refine aw_text (by kernel_rfl) ?_
              refine al_ro' (ro_move s18_14) trivial rfl ?_
              refine al_ro' (ro_eq (ro_aidx h5_at22 rfl (up_m rfl s17_14) (up_m rfl s18_14) rfl (by rintro l hl; obtain ⟨_, _, rfl⟩ := List.mem_map.1 hl; rfl) (by first | decide | omega | (simp <;> omega)) (by first | omega | (simp only [lnS] <;> omega) | (simp <;> omega)) (by first | (refine idx_map ?_; first | omega | (simp only [lnS]; omega)) | (refine idx_mapI ?_; first | omega | (simp only [lnS]; omega)) | (refine idx_mapN ?_; first | omega | (simp only [lnS]; omega)) | rfl)) (by first | (simp only [packA_t, packA_f, iE, bE, setAt, cellsA, Value.cells, map_vc, map_vn, Nat.reduceAdd, qS, tE, set_tE] <;> rfl) | rfl)) trivial rfl ?_
              refine al_ro' (ro_assign (up_m rfl up_h)) trivial rfl ?_
              refine al_ro' (ro_assign (up_m rfl up_h)) trivial rfl ?_
              refine al_end (fun e_16 he_16 => ?_)
              have s2_16 := ef 2 he_16 (u4 rfl s2_14)
              have s5_16 := ef 5 he_16 (u4 rfl s5_14)
              have s6_16 := ef 6 he_16 (up_m rfl up_h)
              have s7_16 := ef 7 he_16 up_h
              have s17_16 := ef 17 he_16 (u4 rfl s17_14)
              have s18_16 := ef 18 he_16 (u4 rfl s18_14)
              clear he_16 s17_14 s18_14 s19_14 s2_14 s5_14
              refine then_n ?_
              refine aw_text (by kernel_rfl) ?_
              refine al_ro' (ro_move s6_16) trivial rfl ?_
              refine al_ro' (ro_eq (ro_ld_glob h5_ty96 rfl mo0_13 rfl (by first | exact Nat.le_of_ble_eq_true rfl | omega | (simp only [lnS] <;> omega) | (simp <;> omega))) (by first | (simp only [packA_t, packA_f, iE, bE, setAt, cellsA, Value.cells, map_vc, map_vn, Nat.reduceAdd, qS, tE, set_tE] <;> rfl) | rfl)) trivial rfl ?_
              refine al_ro' (ro_move (u2 rfl s7_16)) trivial rfl ?_
              refine al_ro' (ro_call (evL_cons (up_m rfl up_h) (evL_cons up_h evL_nil)) (by first | rfl | (simp only [roO.roL, roO, Bool.and_true, Bool.true_and]; (apply roL_flat; intro _; rfl))) (by_ok (1, 0) (by unfold Bd; decide) _ (by have := hbx (xs.getD n.toNat default) (getD_mem (by omega)); omega)) h5_hcf49) trivial rfl ?_
              refine al_ro' (ro_ixaD h5_ar97 (u4 rfl s5_16) (up_m rfl (u2 rfl up_h)) (by first | decide | omega | (simp <;> omega)) (by first | omega | (simp only [lnS] <;> omega) | (simp <;> omega))) trivial rfl ?_
              refine al_stm (st_store_ael up_h (up_m rfl up_h) rfl rfl mo3_13 rfl (by rintro l hl; obtain ⟨_, _, rfl⟩ := List.mem_map.1 hl; rfl) h5_sz96 rfl rfl (by first | omega | (simp only [lnS] <;> omega) | (simp <;> omega))) trivial rfl (fun m_17 hm_17 => ?_)
              have mo3_17 := m_set hm_17 mo3_13
              (try simp only [packA_t, packA_f, iE, bE, setAt, cellsA, Value.cells, map_vc, map_vn, Nat.reduceAdd, qS, tE, set_tE] at mo3_17)
              have mo2_17 := m_set_o hm_17 mo2_13 (by decide)
              have mo0_17 := m_set_o hm_17 mo0_13 (by decide)
              have ml_17 := m_set_l hm_17 ml_13
              clear hm_17 mo3_13 mo2_13 mo0_13
              refine al_end (fun e_18 he_18 => ?_)
              have s2_18 := ef 2 he_18 (up_n (up_m rfl (u4 rfl s2_16)))
              have s5_18 := ef 5 he_18 (up_n (up_m rfl (u4 rfl s5_16)))
              have s17_18 := ef 17 he_18 (up_n (up_m rfl (u4 rfl s17_16)))
              have s18_18 := ef 18 he_18 (up_n (up_m rfl (u4 rfl s18_16)))
              clear he_18 s17_16 s18_16 s2_16 s5_16 s6_16 s7_16
              refine block_n ?_
              refine then_n ?_
              refine aw_text (by kernel_rfl) ?_
              first | (refine al_ro' (ro_add' s18_18 ev_c ?_) trivial rfl ?_; · (unfold In64; omega)) | refine al_ro' (ro_add s18_18 ev_c) trivial rfl ?_
              refine al_ro' (ro_move up_h) trivial rfl ?_
              refine al_end (fun e_19 he_19 => ?_)
              have s2_19 := ef 2 he_19 (u2 rfl s2_18)
              have s5_19 := ef 5 he_19 (u2 rfl s5_18)
              have s17_19 := ef 17 he_19 (u2 rfl s17_18)
              have s18_19 := ef 18 he_19 up_h
              clear he_19 s17_18 s18_18 s2_18 s5_18
              refine then_n ?_
              refine ⟨⟨_, _⟩, ⟨s18_19, (s2_19.trans s2_12.symm), (s5_19.trans s5_12.symm), (s17_19.trans s17_12.symm), mo3_17, (mo2_17.trans mo2_10.symm), (mo0_17.trans mo0_10.symm), ml_17, ?_⟩, ?_⟩
              · (refine ⟨by omega, by omega, by simp [p3], fun j hj => ?_⟩; rw [getD_setV (by omega)]; by_cases hjk : j = n.toNat; (rw [if_pos hjk, if_pos (by omega), hjk]; simp [byV, oneV]); (rw [if_neg hjk, p4 j hj]; by_cases hjl : j < n.toNat; (rw [if_pos hjl, if_pos (by omega)]); (rw [if_neg hjl, if_neg (by omega)])))
              · ((try dsimp only); omega))
         · (first | replace hq_15 := bnt hq_15 | replace hq_15 := bnf hq_15 | replace hq_15 := bt hq_15 | replace hq_15 := bf hq_15 | replace hq_15 := bt' hq_15 | replace hq_15 := bf' hq_15 | skip)
           first
           | (cases hq_15; done) | (exfalso; omega)
           | (
              (have hye : ys = xs.map oneV := list_ext' (by rw [List.length_map]; omega) (fun j hj => by rw [p4 j (by omega), if_pos (by omega), getD_oneV]); have hyb : ∀ v ∈ ys, Bd 600000 v := (by rw [hye]; exact oneV_bd hbx))
              refine aw_exit ?_
              refine then_x ?_
              refine then_x ?_
              refine block_hit ?_
              refine then_n ?_
              refine aw_seq ?_
              refine aw_text (by kernel_rfl) ?_
              refine al_stm (st_alloc h5_az25 rfl ml_13) trivial rfl (fun m_20 hm_20 => ?_)
              have mo4_20 : m_20[4]? = some (Ob.box 25 ((z6.map tE).flatten)) := m_push hm_20 ml_13
              have mo3_20 := m_push_o hm_20 mo3_13
              have mo2_20 := m_push_o hm_20 mo2_13
              have mo0_20 := m_push_o hm_20 mo0_13
              have ml_20 := m_push_l hm_20 ml_13
              have ml_20 : _ = 5 := ml_20
              clear hm_20 mo3_13 mo2_13 mo0_13
              refine al_end (fun e_21 he_21 => ?_)
              have s2_21 := ef 2 he_21 (up_m rfl s2_14)
              have s5_21 := ef 5 he_21 (up_m rfl s5_14)
              have s8_21 := ef 8 he_21 up_h
              clear he_21 s17_14 s18_14 s19_14 s2_14 s5_14
              refine then_n ?_
              refine aw_seq ?_
              refine aw_seq ?_
              refine aw_text (by kernel_rfl) ?_
              refine al_ro' (ro_ld_all h5_ty97 mo3_20 s5_21 (by first | rfl | (rw [flat_map_len (k := 2)] <;> first | omega | (intro _; rfl)))) trivial rfl ?_
              refine al_ro' (ro_call (evL_cons up_h (evL_cons ev_c evL_nil)) (by first | rfl | (simp only [roO.roL, roO, Bool.and_true, Bool.true_and]; (apply roL_flat; intro _; rfl))) (transform_ok ys (by omega) hyb (-1) (by decide)) h5_hcf50) trivial rfl ?_
              refine al_ro' (ro_move ev_c) trivial rfl ?_
              refine al_end (fun e_22 he_22 => ?_)
              have s2_22 := ef 2 he_22 (up_m rfl (u2 rfl s2_21))
              have s8_22 := ef 8 he_22 (up_m rfl (u2 rfl s8_21))
              have s29_22 := ef 29 he_22 (up_m rfl up_h)
              have s30_22 := ef 30 he_22 up_h
              clear he_22 s2_21 s5_21 s8_21
              refine then_n ?_
              refine aw_block ?_
              refine aw_loop (S := (Int × List V2)) (fun s e mem => match s with | ⟨k, zs⟩ => (evA e (.tmp 30) = .v (.int .i64 k)) ∧ (evA e (.tmp 2) = evA e_22 (.tmp 2)) ∧ (evA e (.tmp 8) = evA e_22 (.tmp 8)) ∧ (evA e (.tmp 29) = evA e_22 (.tmp 29)) ∧ (mem[4]? = some (.box 25 (zs.map tE).flatten)) ∧ (mem[3]? = m_20[3]?) ∧ (mem[2]? = m_20[2]?) ∧ (mem[0]? = m_20[0]?) ∧ (∃ n, mem.length = n ∧ 5 ≤ n) ∧ ((0 ≤ k ∧ k ≤ 6 ∧ zs.length = 6 ∧ ∀ j : Nat, j < 6 → zs.getD j default = if j < k.toNat then (trW ys (-1)).getD j default else (0, 0)))) (fun s => match s with | ⟨k, zs⟩ => (6 - k).toNat) ⟨_, z6⟩ ⟨s30_22, rfl, rfl, rfl, mo4_20, rfl, rfl, rfl, ⟨_, ml_20, Nat.le_refl _⟩, ?_⟩ ?_
              · (exact ⟨by omega, by omega, rfl, fun j hj => by rw [if_neg (by omega)]; exact getD_z6 _ j hj⟩)
              · rintro ⟨k, zs⟩ e_23 m_23 ⟨s30_23, k2_23, k8_23, k29_23, mo4_23, mk3_23, mk2_23, mk0_23, ⟨n_23, ml_23, hn_23⟩, hinv⟩
                have s2_23 := k2_23.trans s2_22
                have s8_23 := k8_23.trans s8_22
                have s29_23 := k29_23.trans s29_22
                have mo3_23 := mk3_23.trans mo3_20
                have mo2_23 := mk2_23.trans mo2_20
                have mo0_23 := mk0_23.trans mo0_20
                (obtain ⟨r1, r2, r3, r4⟩ := hinv; have htl := trW_len ys (-1))
                refine aw_seq ?_
                refine aw_text (by kernel_rfl) ?_
                refine al_ro' (ro_lss s30_23 ev_c) trivial rfl ?_
                refine al_end (fun e_24 he_24 => ?_)
                have s2_24 := ef 2 he_24 (up_m rfl s2_23)
                have s8_24 := ef 8 he_24 (up_m rfl s8_23)
                have s29_24 := ef 29 he_24 (up_m rfl s29_23)
                have s30_24 := ef 30 he_24 (up_m rfl s30_23)
                have s31_24 := ef 31 he_24 up_h
                clear he_24 s29_23 s2_23 s30_23 s8_23
                refine then_n ?_
                refine aw_seq ?_
                refine aw_case s31_24 (fun hq_25 => ?_) (fun hq_25 => ?_)
                · (first | replace hq_25 := bnt hq_25 | replace hq_25 := bnf hq_25 | replace hq_25 := bt hq_25 | replace hq_25 := bf hq_25 | replace hq_25 := bt' hq_25 | replace hq_25 := bf' hq_25 | skip)
                  first
                  | (cases hq_25; done) | (exfalso; omega)
                  | (
                     refine aw_skip ?_
                     refine then_n ?_
                     refine aw_seq ?_
                     refine aw_block ?_
                     refine aw_seq ?_
                     refine aw_text (by kernel_rfl) ?_
                     refine al_ro' (ro_move s30_24) trivial rfl ?_
                     refine al_ro' (ro_eq (ro_aidx h5_at97 rfl (up_m rfl s29_24) (up_m rfl s30_24) rfl (by rintro l hl; obtain ⟨_, _, rfl⟩ := List.mem_map.1 hl; rfl) (by first | decide | omega | (simp <;> omega)) (by first | omega | (simp only [lnS] <;> omega) | (simp <;> omega)) (by first | (refine idx_map ?_; first | omega | (simp only [lnS]; omega)) | (refine idx_mapI ?_; first | omega | (simp only [lnS]; omega)) | (refine idx_mapN ?_; first | omega | (simp only [lnS]; omega)) | rfl)) (by first | (simp only [packA_t, packA_f, iE, bE, setAt, cellsA, Value.cells, map_vc, map_vn, Nat.reduceAdd, qS, tE, set_tE] <;> rfl) | rfl)) trivial rfl ?_
                     refine al_stm (st_alloc h5_az96 rfl ml_23) trivial rfl (fun m_26 hm_26 => ?_)
                     have mon_23_26 := m_push hm_26 ml_23
                     (try simp only [packA_t, packA_f, iE, bE, setAt, cellsA, Value.cells, map_vc, map_vn, Nat.reduceAdd, qS, tE, set_tE] at mon_23_26)
                     have mo4_26 := m_push_o hm_26 mo4_23
                     have mo3_26 := m_push_o hm_26 mo3_23
                     have mo2_26 := m_push_o hm_26 mo2_23
                     have mo0_26 := m_push_o hm_26 mo0_23
                     have ml_26 := m_push_l hm_26 ml_23
                     clear hm_26 mo4_23 mo3_23 mo2_23 mo0_23
                     refine al_ro' (ro_assign (u2 rfl up_h)) trivial rfl ?_
                     refine al_stm (st_store (up_m rfl up_h) (u2 rfl up_h) rfl rfl mon_23_26 h5_sz96 rfl (by first | exact Nat.le_of_ble_eq_true rfl | omega | (simp only [lnS] <;> omega) | (simp <;> omega))) trivial rfl (fun m_27 hm_27 => ?_)
                     have mon_23_27 := m_set hm_27 mon_23_26
                     (try simp only [packA_t, packA_f, iE, bE, setAt, cellsA, Value.cells, map_vc, map_vn, Nat.reduceAdd, qS, tE, set_tE] at mon_23_27)
                     have mo4_27 := m_set_o hm_27 mo4_26 (by omega)
                     have mo3_27 := m_set_o hm_27 mo3_26 (by omega)
                     have mo2_27 := m_set_o hm_27 mo2_26 (by omega)
                     have mo0_27 := m_set_o hm_27 mo0_26 (by omega)
                     have ml_27 := m_set_l hm_27 ml_26
                     clear hm_27 mon_23_26 mo4_26 mo3_26 mo2_26 mo0_26
                     refine al_end (fun e_28 he_28 => ?_)
                     have s2_28 := ef 2 he_28 (up_n (u4 rfl s2_24))
                     have s8_28 := ef 8 he_28 (up_n (u4 rfl s8_24))
                     have s9_28 := ef 9 he_28 (up_n up_h)
                     have s10_28 := ef 10 he_28 (up_n (up_m rfl up_h))
                     have s29_28 := ef 29 he_28 (up_n (u4 rfl s29_24))
                     have s30_28 := ef 30 he_28 (up_n (u4 rfl s30_24))
                     clear he_28 s29_24 s2_24 s30_24 s31_24 s8_24
                     refine then_n ?_
                     refine aw_text (by kernel_rfl) ?_
                     refine al_ro' (ro_move s9_28) trivial rfl ?_
                     refine al_ro' (ro_eq (ro_ld_ptr h5_ty96 rfl mon_23_27 (up_m rfl s10_28) (by first | exact Nat.le_of_ble_eq_true rfl | omega | (simp only [lnS] <;> omega) | (simp <;> omega))) (by first | (simp only [packA_t, packA_f, iE, bE, setAt, cellsA, Value.cells, map_vc, map_vn, Nat.reduceAdd, qS, tE, set_tE] <;> rfl) | rfl)) trivial rfl ?_
                     refine al_ro' (ro_ixaD h5_ar25 (u2 rfl s8_28) (up_m rfl up_h) (by first | decide | omega | (simp <;> omega)) (by first | omega | (simp only [lnS] <;> omega) | (simp <;> omega))) trivial rfl ?_
                     refine al_stm (st_store_ael up_h (up_m rfl up_h) rfl rfl mo4_27 rfl (by rintro l hl; obtain ⟨_, _, rfl⟩ := List.mem_map.1 hl; rfl) h5_sz24 rfl rfl (by first | omega | (simp only [lnS] <;> omega) | (simp <;> omega))) trivial rfl (fun m_29 hm_29 => ?_)
                     have mo4_29 := m_set hm_29 mo4_27
                     (try simp only [packA_t, packA_f, iE, bE, setAt, cellsA, Value.cells, map_vc, map_vn, Nat.reduceAdd, qS, tE, set_tE] at mo4_29)
                     have mon_23_29 := m_set_o hm_29 mon_23_27 (by omega)
                     have mo3_29 := m_set_o hm_29 mo3_27 (by decide)
                     have mo2_29 := m_set_o hm_29 mo2_27 (by decide)
                     have mo0_29 := m_set_o hm_29 mo0_27 (by decide)
                     have ml_29 := m_set_l hm_29 ml_27
                     clear hm_29 mon_23_27 mo4_27 mo3_27 mo2_27 mo0_27
                     refine al_end (fun e_30 he_30 => ?_)
                     have s2_30 := ef 2 he_30 (up_n (up_m rfl (u2 rfl s2_28)))
                     have s8_30 := ef 8 he_30 (up_n (up_m rfl (u2 rfl s8_28)))
                     have s29_30 := ef 29 he_30 (up_n (up_m rfl (u2 rfl s29_28)))
                     have s30_30 := ef 30 he_30 (up_n (up_m rfl (u2 rfl s30_28)))
                     clear he_30 s10_28 s29_28 s2_28 s30_28 s8_28 s9_28
                     refine block_n ?_
                     refine then_n ?_
                     refine aw_text (by kernel_rfl) ?_
                     first | (refine al_ro' (ro_add' s30_30 ev_c ?_) trivial rfl ?_; · (unfold In64; omega)) | refine al_ro' (ro_add s30_30 ev_c) trivial rfl ?_
                     refine al_ro' (ro_move up_h) trivial rfl ?_
                     refine al_end (fun e_31 he_31 => ?_)
                     have s2_31 := ef 2 he_31 (u2 rfl s2_30)
                     have s8_31 := ef 8 he_31 (u2 rfl s8_30)
                     have s29_31 := ef 29 he_31 (u2 rfl s29_30)
                     have s30_31 := ef 30 he_31 up_h
                     clear he_31 s29_30 s2_30 s30_30 s8_30
                     refine then_n ?_
                     refine ⟨⟨_, _⟩, ⟨s30_31, (s2_31.trans s2_22.symm), (s8_31.trans s8_22.symm), (s29_31.trans s29_22.symm), mo4_29, (mo3_29.trans mo3_20.symm), (mo2_29.trans mo2_20.symm), (mo0_29.trans mo0_20.symm), ⟨_, ml_29, by omega⟩, ?_⟩, ?_⟩
                     · (refine ⟨by omega, by omega, by simp [r3], fun j hj => ?_⟩; rw [getD_setV (by omega)]; by_cases hjk : j = k.toNat; (rw [if_pos hjk, if_pos (by omega), hjk]); (rw [if_neg hjk, r4 j hj]; by_cases hjl : j < k.toNat; (rw [if_pos hjl, if_pos (by omega)]); (rw [if_neg hjl, if_neg (by omega)])))
                     · ((try dsimp only); omega))
                · (first | replace hq_25 := bnt hq_25 | replace hq_25 := bnf hq_25 | replace hq_25 := bt hq_25 | replace hq_25 := bf hq_25 | replace hq_25 := bt' hq_25 | replace hq_25 := bf' hq_25 | skip)
                  first
                  | (cases hq_25; done) | (exfalso; omega)
                  | (
                     refine aw_exit ?_
                     refine then_x ?_
                     refine then_x ?_
                     refine block_hit ?_
                     refine then_n ?_
                     refine aw_seq ?_
                     refine aw_text (by kernel_rfl) ?_
                     refine al_ro' (ro_ld_all h5_ty25 mo4_23 s8_24 (by first | rfl | (rw [flat_map_len (k := 2)] <;> first | omega | (intro _; rfl)))) trivial rfl ?_
                     refine al_stm (st_store_all (up_m rfl s2_24) up_h rfl (by first | rfl | (apply oneL_flat; intro _; rfl)) mo2_23 h5_sz25 (by first | rfl | (rw [flat_map_len (k := 2)] <;> first | omega | (intro _; rfl))) (by first | rfl | (rw [flat_map_len (k := 2)] <;> first | omega | (intro _; rfl)))) trivial rfl (fun m_32 hm_32 => ?_)
                     have mo2_32 := m_set hm_32 mo2_23
                     (try simp only [packA_t, packA_f, iE, bE, setAt, cellsA, Value.cells, map_vc, map_vn, Nat.reduceAdd, qS, tE, set_tE] at mo2_32)
                     have mo4_32 := m_set_o hm_32 mo4_23 (by decide)
                     have mo3_32 := m_set_o hm_32 mo3_23 (by decide)
                     have mo0_32 := m_set_o hm_32 mo0_23 (by decide)
                     have ml_32 := m_set_l hm_32 ml_23
                     clear hm_32 mo4_23 mo3_23 mo2_23 mo0_23
                     refine al_ro' (ro_assign ev_c) trivial rfl ?_
                     refine al_end (fun e_33 he_33 => ?_)
                     have s2_33 := ef 2 he_33 (up_m rfl (up_n (up_m rfl s2_24)))
                     have s3_33 := ef 3 he_33 up_h
                     clear he_33 s29_24 s2_24 s30_24 s31_24 s8_24
                     refine then_n ?_
                     refine aw_ret ?_
                     refine ret2 (.inr rfl) (by kernel_rfl) (resV_cell s2_33 mo2_32 h5_ty25 (by first | exact Nat.le_of_ble_eq_true rfl | (rw [flat_map_len (k := 2)] <;> first | omega | (intro _; rfl))) (by simp)) (resV_tmp s3_33) (vw_r (.ro _ (by first | rfl | (apply ro_aggF; intro _; rfl) | (apply roL_flat; intro _; rfl)))) (.ro _ rfl) ?_
                     clear s2_33 s3_33 mo2_32 mo4_32 mo3_32 mo0_32 ml_32
                     (rw [take_flat_all (k := 2) (fun _ => rfl) (by omega), ordR, if_pos hz, hz, ordW, ← hye, list_ext' (xs := zs) (ys := trW ys (-1)) (by omega) (fun j hj => by rw [r4 j (by omega), if_pos (by omega)])]))))
end Go.Proofs.YtgiiedpambimoaaDoor

/- Contracts of chapter 3: energy, samples of orders, the document's orders. No conditions on a program. -/
namespace Go.Proofs.YtgiiedpambimoaaDoor
open Go Go.RowKit Go.Proofs
set_option linter.unusedSimpArgs false
set_option linter.unusedVariables false
theorem h6_az25 : (Tryd.prog.info? 25).bind (·.zero) = some (.agg #[.int .i64 0, .int .i64 0, .int .i64 0, .int .i64 0, .int .i64 0, .int .i64 0, .int .i64 0, .int .i64 0, .int .i64 0, .int .i64 0, .int .i64 0, .int .i64 0]) := by kernel_rfl
theorem h6_ar22 : ArIs Tryd.prog 22 6 1 := ⟨by kernel_rfl, by kernel_rfl⟩
theorem h6_ar25 : ArIs Tryd.prog 25 6 2 := ⟨by kernel_rfl, by kernel_rfl⟩
theorem h6_at22 : ArTy Tryd.prog 22 6 3 false 1 := ⟨by kernel_rfl, by kernel_rfl, by kernel_rfl⟩
theorem h6_bz24 : (Tryd.prog.info? 24).bind (·.zero) = some (.agg #[.int .i64 0, .int .i64 0]) := by kernel_rfl
theorem h6_bu24 : Tryd.prog.underlying 24 = some (.struct (fsOf Tryd.prog 24)) := by kernel_rfl
theorem h6_bp24 : ∀ w, ((fsOf Tryd.prog 24).mapM fun f => Prod.mk f.offset <$> sizeOf f.type : Sem (Array (Nat × Nat))).run Tryd.prog w = .ok (#[(0, 1), (1, 1)]) w := fun _ => by kernel_rfl
theorem h6_hcf18 : ∀ args w, (callFunc 18 args).run Tryd.prog w = .ok (.enter 18 args) w := fun _ _ => by kernel_rfl
theorem h6_hcf48 : ∀ args w, (callFunc 48 args).run Tryd.prog w = .ok (.enter 48 args) w := fun _ _ => by kernel_rfl
theorem h6_hcf52 : ∀ args w, (callFunc 52 args).run Tryd.prog w = .ok (.enter 52 args) w := fun _ _ => by kernel_rfl
theorem h6_hcf53 : ∀ args w, (callFunc 53 args).run Tryd.prog w = .ok (.enter 53 args) w := fun _ _ => by kernel_rfl
theorem h6_hcf54 : ∀ args w, (callFunc 54 args).run Tryd.prog w = .ok (.enter 54 args) w := fun _ _ => by kernel_rfl
theorem h6_hcf55 : ∀ args w, (callFunc 55 args).run Tryd.prog w = .ok (.enter 55 args) w := fun _ _ => by kernel_rfl
theorem h6_sl46 : SlIs Tryd.prog 46 3 1 8 (.int .i64 0) := ⟨by kernel_rfl, by kernel_rfl, by kernel_rfl⟩
theorem h6_sz24 : (Tryd.prog.info? 24).map (·.size) = some 2 := by kernel_rfl
theorem h6_sz25 : (Tryd.prog.info? 25).map (·.size) = some 12 := by kernel_rfl
theorem h6_ty22 : TyIs Tryd.prog 22 true 6 := ⟨by kernel_rfl, by kernel_rfl⟩
theorem h6_ty24 : TyIs Tryd.prog 24 true 2 := ⟨by kernel_rfl, by kernel_rfl⟩
theorem h6_ty25 : TyIs Tryd.prog 25 true 12 := ⟨by kernel_rfl, by kernel_rfl⟩
theorem h6_ty3 : TyIs Tryd.prog 3 false 1 := ⟨by kernel_rfl, by kernel_rfl⟩

def enS (xs : List Int) : Nat → Int
  | 0 => 0
  | n + 1 => enS xs n + xs.getD n default * xs.getD n default
theorem getD_bd {xs : List Int} (h : ∀ n ∈ xs, -100000 ≤ n ∧ n ≤ 100000) (j : Nat) : -100000 ≤ xs.getD j default ∧ xs.getD j default ≤ 100000 := by
  by_cases hj : j < xs.length
  · exact h _ (getD_mem hj)
  · rw [List.getD_eq_getElem?_getD, List.getElem?_eq_none (by omega)]; decide
theorem enS_bd {xs : List Int} (h : ∀ n ∈ xs, -100000 ≤ n ∧ n ≤ 100000) : ∀ n : Nat, 0 ≤ enS xs n ∧ enS xs n ≤ 10000000000 * n
  | 0 => by simp [enS]
  | n + 1 => by
    have h1 := enS_bd h n
    have h2 := getD_bd h n
    have h3 := mulBd h2 h2
    have h4 : 0 ≤ xs.getD n default * xs.getD n default := by
      rcases Int.le_total 0 (xs.getD n default) with hq | hq
      · exact Int.mul_nonneg hq hq
      · exact Int.mul_nonneg_of_nonpos_of_nonpos hq hq
    simp only [enS]; omega
def enR (xs : List Int) : Int := if phasesE xs = 0 then enS xs 6 else 0
set_option maxRecDepth 100000 in
set_option maxHeartbeats 4000000 in
theorem energyOf_ok (xs : List Int) (hx : xs.length = 6) : FnOk Tryd.prog 11 [.agg (xs.map iE).flatten] (fun q => q = .tuple [nA (enR xs), nA (phasesE xs)]) := by
  refine fnOk_of (fn := Tryd.f11) 24 (by kernel_rfl) rfl (by kernel_rfl) (Nat.le_of_ble_eq_true rfl) ?_
  intro e_0 m_0 hA hm_0
  have s0_0 : evA e_0 (.tmp 0) = _ := hA 0 _ rfl
  have ml_0 : m_0.length = 0 := by rw [hm_0]; rfl
  clear hA hm_0
  refine aw_seq ?_
  refine aw_text (by kernel_rfl) ?_
  refine al_stm (st_box s0_0 rfl ml_0) trivial rfl (fun m_1 hm_1 => ?_)
  have mo0_1 := m_push hm_1 ml_0
  (try simp only [packA_t, packA_f, iE, bE, setAt, cellsA, Value.cells, map_vc, map_vn, Nat.reduceAdd, qS] at mo0_1)
  have ml_1 := m_push_l hm_1 ml_0
  have ml_1 : _ = 1 := ml_1
  clear hm_1
  refine al_ro' (ro_assign ev_c) trivial rfl ?_
  refine al_ro' (ro_assign ev_c) trivial rfl ?_
  refine al_end (fun e_2 he_2 => ?_)
  have s1_2 := ef 1 he_2 (u2 rfl up_h)
  clear he_2 s0_0
  refine then_n ?_
  refine aw_seq ?_
  refine aw_seq ?_
  refine aw_freeze s1_2 mo0_1 (by first | rfl | (apply roL_flat; intro _; rfl)) (fun m_3 e_3 hm_3 he_3 => ?_)
  have ml_3 := m_set_l hm_3 ml_1
  have s1_3 : evA e_3 (.tmp 1) = _ := (congrArg (fun q => evA q (.tmp 1)) he_3).trans up_h
  clear hm_3 he_3
  refine aw_text (by kernel_rfl) ?_
  refine al_ro' (ro_slarr h6_at22 s1_3 rfl (by rintro l hl; obtain ⟨_, _, rfl⟩ := List.mem_map.1 hl; rfl) (by first | rfl | (simp only [lnS]; omega)) (by decide)) trivial rfl ?_
  refine al_ro' (ro_call (evL_cons up_h evL_nil) (by first | rfl | (simp only [roO.roL, roO, Bool.and_true, Bool.true_and]; (apply roL_flat; intro _; rfl))) (phases_ok xs (by omega)) h6_hcf48) trivial rfl ?_
  refine al_ro' (ro_assign up_h) trivial rfl ?_
  refine al_end (fun e_4 he_4 => ?_)
  have s1_4 := ef 1 he_4 (up_m rfl (u2 rfl s1_3))
  have s4_4 := ef 4 he_4 up_h
  clear he_4 s1_3
  refine then_n ?_
  refine aw_seq ?_
  refine aw_text (by kernel_rfl) ?_
  refine al_ro' (ro_move s4_4) trivial rfl ?_
  refine al_ro' (ro_neq up_h ev_c) trivial rfl ?_
  refine al_end (fun e_5 he_5 => ?_)
  have s1_5 := ef 1 he_5 (u2 rfl s1_4)
  have s4_5 := ef 4 he_5 (u2 rfl s4_4)
  have s11_5 := ef 11 he_5 up_h
  clear he_5 s1_4 s4_4
  refine then_n ?_
  refine aw_case s11_5 (fun hq_6 => ?_) (fun hq_6 => ?_)
  · (first | replace hq_6 := bnt hq_6 | replace hq_6 := bnf hq_6 | replace hq_6 := bt hq_6 | replace hq_6 := bf hq_6 | replace hq_6 := bt' hq_6 | replace hq_6 := bf' hq_6 | skip)
    first
    | (cases hq_6; done) | (exfalso; omega)
    | (
       (have hn : ¬ phasesE xs = 0 := (by assumption))
       refine aw_seq ?_
       refine aw_text (by kernel_rfl) ?_
       refine al_ro' (ro_move s4_5) trivial rfl ?_
       refine al_ro' (ro_assign ev_c) trivial rfl ?_
       refine al_ro' (ro_assign (up_m rfl up_h)) trivial rfl ?_
       refine al_end (fun e_7 he_7 => ?_)
       have s2_7 := ef 2 he_7 (up_m rfl up_h)
       have s3_7 := ef 3 he_7 up_h
       clear he_7 s11_5 s1_5 s4_5
       refine then_n ?_
       refine aw_ret ?_
       refine then_r ?_
       refine ret2 (.inr rfl) (by kernel_rfl) (resV_tmp s2_7) (resV_tmp s3_7) (.ro _ rfl) (.ro _ rfl) ?_
       clear s2_7 s3_7  ml_3
       (rw [enR, if_neg hn]))
  · (first | replace hq_6 := bnt hq_6 | replace hq_6 := bnf hq_6 | replace hq_6 := bt hq_6 | replace hq_6 := bf hq_6 | replace hq_6 := bt' hq_6 | replace hq_6 := bf' hq_6 | skip)
    first
    | (cases hq_6; done) | (exfalso; omega)
    | (
       (have hz : phasesE xs = 0 := (by omega); have hbx := phases_bd hz)
       refine aw_skip ?_
       refine then_n ?_
       refine aw_seq ?_
       refine aw_text (by kernel_rfl) ?_
       refine al_ro' (ro_assign ev_c) trivial rfl ?_
       refine al_end (fun e_8 he_8 => ?_)
       have s1_8 := ef 1 he_8 (up_m rfl s1_5)
       have s5_8 := ef 5 he_8 up_h
       clear he_8 s11_5 s1_5 s4_5
       refine then_n ?_
       refine aw_seq ?_
       refine aw_seq ?_
       refine aw_text (by kernel_rfl) ?_
       refine al_ro' (ro_ld_allR h6_ty22 s1_8 (by first | rfl | (rw [flat_map_len (k := 1)] <;> first | omega | (intro _; rfl)))) trivial rfl ?_
       refine al_ro' (ro_move ev_c) trivial rfl ?_
       refine al_end (fun e_9 he_9 => ?_)
       have s5_9 := ef 5 he_9 (u2 rfl s5_8)
       have s13_9 := ef 13 he_9 (up_m rfl up_h)
       have s14_9 := ef 14 he_9 up_h
       clear he_9 s1_8 s5_8
       refine then_n ?_
       refine aw_block ?_
       refine aw_loop (S := (Int × Int)) (fun s e mem => match s with | ⟨n, sm⟩ => (evA e (.tmp 14) = .v (.int .i64 n)) ∧ (evA e (.tmp 5) = .v (.int .i64 sm)) ∧ (evA e (.tmp 13) = evA e_9 (.tmp 13)) ∧ (mem.length = 1) ∧ ((0 ≤ n ∧ n ≤ 6 ∧ sm = enS xs n.toNat))) (fun s => match s with | ⟨n, sm⟩ => (6 - n).toNat) ⟨_, _⟩ ⟨s14_9, s5_9, rfl, ml_3, ?_⟩ ?_
       · (exact ⟨by omega, by omega, rfl⟩)
       · rintro ⟨n, sm⟩ e_10 m_10 ⟨s14_10, s5_10, k13_10, ml_10, hinv⟩
         have s13_10 := k13_10.trans s13_9
         (obtain ⟨p1, p2, p3⟩ := hinv; have e1 := enS_bd hbx n.toNat; have e2 := getD_bd hbx n.toNat; have e3 := mulBd e2 e2)
         refine aw_seq ?_
         refine aw_text (by kernel_rfl) ?_
         refine al_ro' (ro_lss s14_10 ev_c) trivial rfl ?_
         refine al_end (fun e_11 he_11 => ?_)
         have s5_11 := ef 5 he_11 (up_m rfl s5_10)
         have s13_11 := ef 13 he_11 (up_m rfl s13_10)
         have s14_11 := ef 14 he_11 (up_m rfl s14_10)
         have s15_11 := ef 15 he_11 up_h
         clear he_11 s13_10 s14_10 s5_10
         refine then_n ?_
         refine aw_seq ?_
         refine aw_case s15_11 (fun hq_12 => ?_) (fun hq_12 => ?_)
         · (first | replace hq_12 := bnt hq_12 | replace hq_12 := bnf hq_12 | replace hq_12 := bt hq_12 | replace hq_12 := bf hq_12 | replace hq_12 := bt' hq_12 | replace hq_12 := bf' hq_12 | skip)
           first
           | (cases hq_12; done) | (exfalso; omega)
           | (
              refine aw_skip ?_
              refine then_n ?_
              refine aw_seq ?_
              refine aw_block ?_
              refine aw_seq ?_
              refine aw_text (by kernel_rfl) ?_
              refine al_ro' (ro_eq (ro_aidx h6_at22 rfl s13_11 s14_11 rfl (by rintro l hl; obtain ⟨_, _, rfl⟩ := List.mem_map.1 hl; rfl) (by first | decide | omega | (simp <;> omega)) (by first | omega | (simp only [lnS] <;> omega) | (simp <;> omega)) (by first | (refine idx_map ?_; first | omega | (simp only [lnS]; omega)) | (refine idx_mapI ?_; first | omega | (simp only [lnS]; omega)) | (refine idx_mapN ?_; first | omega | (simp only [lnS]; omega)) | rfl)) (by first | (simp only [packA_t, packA_f, iE, bE, setAt, cellsA, Value.cells, map_vc, map_vn, Nat.reduceAdd, qS] <;> rfl) | rfl)) trivial rfl ?_
              refine al_ro' (ro_assign up_h) trivial rfl ?_
              refine al_end (fun e_13 he_13 => ?_)
              have s5_13 := ef 5 he_13 (u2 rfl s5_11)
              have s7_13 := ef 7 he_13 up_h
              have s13_13 := ef 13 he_13 (u2 rfl s13_11)
              have s14_13 := ef 14 he_13 (u2 rfl s14_11)
              clear he_13 s13_11 s14_11 s15_11 s5_11
              refine then_n ?_
              refine aw_text (by kernel_rfl) ?_
              refine al_ro' (ro_move s5_13) trivial rfl ?_
              refine al_ro' (ro_move (up_m rfl s7_13)) trivial rfl ?_
              refine al_ro' (ro_move (u2 rfl s7_13)) trivial rfl ?_
              first | (refine al_ro' (ro_mul' (up_m rfl up_h) up_h ?_) trivial rfl ?_; · (unfold In64; omega)) | refine al_ro' (ro_mul (up_m rfl up_h) up_h) trivial rfl ?_
              first | (refine al_ro' (ro_add' (up_m rfl (u2 rfl up_h)) up_h ?_) trivial rfl ?_; · (unfold In64; omega)) | refine al_ro' (ro_add (up_m rfl (u2 rfl up_h)) up_h) trivial rfl ?_
              refine al_ro' (ro_assign up_h) trivial rfl ?_
              refine al_end (fun e_14 he_14 => ?_)
              have s5_14 := ef 5 he_14 up_h
              have s13_14 := ef 13 he_14 (u2 rfl (u4 rfl s13_13))
              have s14_14 := ef 14 he_14 (u2 rfl (u4 rfl s14_13))
              clear he_14 s13_13 s14_13 s5_13 s7_13
              refine block_n ?_
              refine then_n ?_
              refine aw_text (by kernel_rfl) ?_
              first | (refine al_ro' (ro_add' s14_14 ev_c ?_) trivial rfl ?_; · (unfold In64; omega)) | refine al_ro' (ro_add s14_14 ev_c) trivial rfl ?_
              refine al_ro' (ro_move up_h) trivial rfl ?_
              refine al_end (fun e_15 he_15 => ?_)
              have s5_15 := ef 5 he_15 (u2 rfl s5_14)
              have s13_15 := ef 13 he_15 (u2 rfl s13_14)
              have s14_15 := ef 14 he_15 up_h
              clear he_15 s13_14 s14_14 s5_14
              refine then_n ?_
              refine ⟨⟨_, _⟩, ⟨s14_15, s5_15, (s13_15.trans s13_9.symm), ml_10, ?_⟩, ?_⟩
              · (refine ⟨by omega, by omega, ?_⟩; rw [show (n + 1).toNat = n.toNat + 1 by omega, enS, p3])
              · ((try dsimp only); omega))
         · (first | replace hq_12 := bnt hq_12 | replace hq_12 := bnf hq_12 | replace hq_12 := bt hq_12 | replace hq_12 := bf hq_12 | replace hq_12 := bt' hq_12 | replace hq_12 := bf' hq_12 | skip)
           first
           | (cases hq_12; done) | (exfalso; omega)
           | (
              refine aw_exit ?_
              refine then_x ?_
              refine then_x ?_
              refine block_hit ?_
              refine then_n ?_
              refine aw_seq ?_
              refine aw_text (by kernel_rfl) ?_
              refine al_ro' (ro_move s5_11) trivial rfl ?_
              refine al_ro' (ro_assign up_h) trivial rfl ?_
              refine al_ro' (ro_assign ev_c) trivial rfl ?_
              refine al_end (fun e_16 he_16 => ?_)
              have s2_16 := ef 2 he_16 (up_m rfl up_h)
              have s3_16 := ef 3 he_16 up_h
              clear he_16 s13_11 s14_11 s15_11 s5_11
              refine then_n ?_
              refine aw_ret ?_
              refine ret2 (.inr rfl) (by kernel_rfl) (resV_tmp s2_16) (resV_tmp s3_16) (.ro _ rfl) (.ro _ rfl) ?_
              clear s2_16 s3_16  ml_10
              (rw [enR, if_pos hz, hz, p3, show n.toNat = 6 by omega])))
set_option maxRecDepth 100000 in
set_option maxHeartbeats 1000000 in
theorem rSize_ok (n m : Int) (hm : -9000000000000000000 ≤ m ∧ m ≤ 9000000000000000000) : FnOk Tryd.prog 55 [nA n, nA m] (fun q => q = oA (smallB n m)) := by
  refine fnOk_of (fn := Tryd.f55) 10 (by kernel_rfl) rfl (by kernel_rfl) (Nat.le_of_ble_eq_true rfl) ?_
  intro e_0 m_0 hA hm_0
  have s0_0 : evA e_0 (.tmp 0) = _ := hA 0 _ rfl
  have s1_0 : evA e_0 (.tmp 1) = _ := hA 1 _ rfl
  have ml_0 : m_0.length = 0 := by rw [hm_0]; rfl
  clear hA hm_0
  refine aw_seq ?_
  refine aw_text (by kernel_rfl) ?_
  refine al_ro' (ro_assign ev_c) trivial rfl ?_
  refine al_end (fun e_1 he_1 => ?_)
  have s0_1 := ef 0 he_1 (up_m rfl s0_0)
  have s1_1 := ef 1 he_1 (up_m rfl s1_0)
  clear he_1 s0_0 s1_0
  refine then_n ?_
  refine aw_seq ?_
  refine aw_text (by kernel_rfl) ?_
  refine al_ro' (ro_move s0_1) trivial rfl ?_
  refine al_ro' (ro_move (up_m rfl s1_1)) trivial rfl ?_
  first | (refine al_ro' (ro_neg' up_h ?_) trivial rfl ?_; · (unfold In64; omega)) | refine al_ro' (ro_neg up_h) trivial rfl ?_
  refine al_ro' (ro_move (up_m rfl (u2 rfl s1_1))) trivial rfl ?_
  refine al_ro' (ro_call (evL_cons (up_m rfl (u2 rfl up_h)) (evL_cons (up_m rfl up_h) (evL_cons up_h evL_nil))) rfl (bWithin_ok _ _ _) h6_hcf18) trivial rfl ?_
  refine al_ro' (ro_assign up_h) trivial rfl ?_
  refine al_end (fun e_2 he_2 => ?_)
  have s4_2 := ef 4 he_2 up_h
  clear he_2 s0_1 s1_1
  refine then_n ?_
  refine aw_ret ?_
  refine ret1 (.inr rfl) (by kernel_rfl) (resV_tmp s4_2) (.ro _ rfl) ?_
  clear s4_2  ml_0
  rfl
set_option maxRecDepth 100000 in
set_option maxHeartbeats 4000000 in
theorem numbersErr_ok (xs : List Int) (hx : xs.length ≤ 1000000) : FnOk Tryd.prog 52 [.row 1 (xs.map iE)] (fun q => q = nA (phasesE xs)) := by
  refine fnOk_of (fn := Tryd.f52) 16 (by kernel_rfl) rfl (by kernel_rfl) (Nat.le_of_ble_eq_true rfl) ?_
  intro e_0 m_0 hA hm_0
  have s0_0 : evA e_0 (.tmp 0) = _ := hA 0 _ rfl
  have ml_0 : m_0.length = 0 := by rw [hm_0]; rfl
  clear hA hm_0
  refine aw_seq ?_
  refine aw_text (by kernel_rfl) ?_
  refine al_ro' (ro_assign ev_c) trivial rfl ?_
  refine al_end (fun e_1 he_1 => ?_)
  have s0_1 := ef 0 he_1 (up_m rfl s0_0)
  clear he_1 s0_0
  refine then_n ?_
  refine aw_seq ?_
  refine aw_seq ?_
  refine aw_text (by kernel_rfl) ?_
  refine al_ro' (ro_assign ev_c) trivial rfl ?_
  refine al_end (fun e_2 he_2 => ?_)
  have s0_2 := ef 0 he_2 (up_m rfl s0_1)
  have s3_2 := ef 3 he_2 up_h
  clear he_2 s0_1
  refine then_n ?_
  refine aw_block ?_
  refine aw_loop (S := Int) (fun i e mem => (evA e (.tmp 3) = .v (.int .i64 i)) ∧ (evA e (.tmp 0) = evA e_2 (.tmp 0)) ∧ (mem.length = 0) ∧ ((0 ≤ i ∧ i ≤ xs.length ∧ ∀ j : Nat, j < i.toNat → badN (xs.getD j default) = false))) (fun i => (xs.length - i).toNat) _ ⟨s3_2, rfl, ml_0, ?_⟩ ?_
  · (exact ⟨by omega, by omega, fun j h => absurd h (by omega)⟩)
  · rintro i e_3 m_3 ⟨s3_3, k0_3, ml_3, hinv⟩
    have s0_3 := k0_3.trans s0_2
    (obtain ⟨p1, p2, p3⟩ := hinv)
    refine aw_seq ?_
    refine aw_seq ?_
    refine aw_text (by kernel_rfl) ?_
    refine al_ro' (ro_move s3_3) trivial rfl ?_
    refine al_ro' (ro_move (up_m rfl s0_3)) trivial rfl ?_
    refine al_ro' (ro_eq (ro_len_row up_h rfl h6_sl46.1) (by first | (simp only [lnS] <;> rfl) | rfl)) trivial rfl ?_
    refine al_ro' (ro_lss (u2 rfl up_h) up_h) trivial rfl ?_
    refine al_end (fun e_4 he_4 => ?_)
    have s0_4 := ef 0 he_4 (u4 rfl s0_3)
    have s3_4 := ef 3 he_4 (u4 rfl s3_3)
    have s7_4 := ef 7 he_4 up_h
    clear he_4 s0_3 s3_3
    refine then_n ?_
    refine aw_case s7_4 (fun hq_5 => ?_) (fun hq_5 => ?_)
    · (first | replace hq_5 := bnt hq_5 | replace hq_5 := bnf hq_5 | replace hq_5 := bt hq_5 | replace hq_5 := bf hq_5 | replace hq_5 := bt' hq_5 | replace hq_5 := bf' hq_5 | skip)
      first
      | (cases hq_5; done) | (exfalso; omega)
      | (
         refine aw_skip ?_
         refine then_n ?_
         refine aw_seq ?_
         refine aw_block ?_
         refine aw_seq ?_
         refine aw_text (by kernel_rfl) ?_
         refine al_ro' (ro_move s0_4) trivial rfl ?_
         refine al_ro' (ro_move (up_m rfl s3_4)) trivial rfl ?_
         refine al_ro' (ro_eq (ro_ix h6_sl46 (up_m rfl up_h) up_h (by first | decide | omega | (simp <;> omega)) (by first | (refine idx_map ?_; first | omega | (simp only [lnS]; omega)) | (refine idx_mapI ?_; first | omega | (simp only [lnS]; omega)) | (refine idx_mapN ?_; first | omega | (simp only [lnS]; omega)) | rfl)) (by first | (simp only [packA_t, packA_f, iE, bE, setAt, cellsA, Value.cells, map_vc, map_vn, Nat.reduceAdd, qS] <;> rfl) | rfl)) trivial rfl ?_
         refine al_ro' (ro_eq (ro_ld_ref h6_ty3 rfl up_h (by first | exact Nat.le_of_ble_eq_true rfl | omega | (simp only [lnS] <;> omega) | (simp <;> omega))) (by first | (simp only [packA_t, packA_f, iE, bE, setAt, cellsA, Value.cells, map_vc, map_vn, Nat.reduceAdd, qS] <;> rfl) | rfl)) trivial rfl ?_
         refine al_ro' (ro_call (evL_cons up_h (evL_cons ev_c evL_nil)) rfl (rSize_ok _ _ (by decide)) h6_hcf55) trivial rfl ?_
         refine al_ro' (ro_not up_h) trivial rfl ?_
         refine al_end (fun e_6 he_6 => ?_)
         have s0_6 := ef 0 he_6 (u2 rfl (u4 rfl s0_4))
         have s3_6 := ef 3 he_6 (u2 rfl (u4 rfl s3_4))
         have s15_6 := ef 15 he_6 up_h
         clear he_6 s0_4 s3_4 s7_4
         refine then_n ?_
         refine aw_case s15_6 (fun hq_7 => ?_) (fun hq_7 => ?_)
         · (first | replace hq_7 := bnt hq_7 | replace hq_7 := bnf hq_7 | replace hq_7 := bt hq_7 | replace hq_7 := bf hq_7 | replace hq_7 := bt' hq_7 | replace hq_7 := bf' hq_7 | skip)
           first
           | (cases hq_7; done) | (exfalso; omega)
           | (
              refine aw_seq ?_
              refine aw_text (by kernel_rfl) ?_
              refine al_ro' (ro_assign ev_c) trivial rfl ?_
              refine al_end (fun e_8 he_8 => ?_)
              have s2_8 := ef 2 he_8 up_h
              clear he_8 s0_6 s15_6 s3_6
              refine then_n ?_
              refine aw_ret ?_
              refine block_r ?_
              refine then_r ?_
              refine then_r ?_
              refine block_r ?_
              refine then_r ?_
              refine ret1 (.inr rfl) (by kernel_rfl) (resV_tmp s2_8) (.ro _ rfl) ?_
              clear s2_8  ml_3
              (have h := (idxB_any badN xs).1 (by rw [idxB_hit (i := i.toNat) (by omega) (by unfold badN; rw [‹smallB _ _ = false›]; rfl) p3]; omega); unfold phasesE; rw [h]; rfl))
         · (first | replace hq_7 := bnt hq_7 | replace hq_7 := bnf hq_7 | replace hq_7 := bt hq_7 | replace hq_7 := bf hq_7 | replace hq_7 := bt' hq_7 | replace hq_7 := bf' hq_7 | skip)
           first
           | (cases hq_7; done) | (exfalso; omega)
           | (
              refine aw_skip ?_
              refine block_n ?_
              refine then_n ?_
              refine aw_text (by kernel_rfl) ?_
              refine al_ro' (ro_move s3_6) trivial rfl ?_
              first | (refine al_ro' (ro_add' up_h ev_c ?_) trivial rfl ?_; · (unfold In64; omega)) | refine al_ro' (ro_add up_h ev_c) trivial rfl ?_
              refine al_ro' (ro_assign up_h) trivial rfl ?_
              refine al_end (fun e_9 he_9 => ?_)
              have s0_9 := ef 0 he_9 (up_m rfl (u2 rfl s0_6))
              have s3_9 := ef 3 he_9 up_h
              clear he_9 s0_6 s15_6 s3_6
              refine then_n ?_
              refine ⟨_, ⟨s3_9, (s0_9.trans s0_2.symm), ml_3, ?_⟩, ?_⟩
              · (refine ⟨by omega, by omega, fun j hj => ?_⟩; by_cases hji : j < i.toNat; (exact p3 j hji); (rw [show j = i.toNat by omega]; unfold badN; rw [‹smallB _ _ = true›]; rfl))
              · ((try dsimp only); omega)))
    · (first | replace hq_5 := bnt hq_5 | replace hq_5 := bnf hq_5 | replace hq_5 := bt hq_5 | replace hq_5 := bf hq_5 | replace hq_5 := bt' hq_5 | replace hq_5 := bf' hq_5 | skip)
      first
      | (cases hq_5; done) | (exfalso; omega)
      | (
         refine aw_exit ?_
         refine then_x ?_
         refine then_x ?_
         refine block_hit ?_
         refine then_n ?_
         refine aw_seq ?_
         refine aw_text (by kernel_rfl) ?_
         refine al_ro' (ro_assign ev_c) trivial rfl ?_
         refine al_end (fun e_10 he_10 => ?_)
         have s2_10 := ef 2 he_10 up_h
         clear he_10 s0_4 s3_4 s7_4
         refine then_n ?_
         refine aw_ret ?_
         refine ret1 (.inr rfl) (by kernel_rfl) (resV_tmp s2_10) (.ro _ rfl) ?_
         clear s2_10  ml_3
         (have h : xs.any badN = false := (by rw [← Bool.not_eq_true, ← idxB_any, idxB_miss (fun j hj => p3 j (by omega))]; decide); unfold phasesE; rw [h]; rfl))
set_option maxRecDepth 100000 in
set_option maxHeartbeats 1000000 in
theorem samplesErr_ok (xs : List Int) (hx : xs.length = 6) : FnOk Tryd.prog 13 [.agg (xs.map iE).flatten] (fun q => q = nA (phasesE xs)) := by
  refine fnOk_of (fn := Tryd.f13) 5 (by kernel_rfl) rfl (by kernel_rfl) (Nat.le_of_ble_eq_true rfl) ?_
  intro e_0 m_0 hA hm_0
  have s0_0 : evA e_0 (.tmp 0) = _ := hA 0 _ rfl
  have ml_0 : m_0.length = 0 := by rw [hm_0]; rfl
  clear hA hm_0
  refine aw_seq ?_
  refine aw_text (by kernel_rfl) ?_
  refine al_stm (st_box s0_0 rfl ml_0) trivial rfl (fun m_1 hm_1 => ?_)
  have mo0_1 := m_push hm_1 ml_0
  (try simp only [packA_t, packA_f, iE, bE, setAt, cellsA, Value.cells, map_vc, map_vn, Nat.reduceAdd, qS] at mo0_1)
  have ml_1 := m_push_l hm_1 ml_0
  have ml_1 : _ = 1 := ml_1
  clear hm_1
  refine al_ro' (ro_assign ev_c) trivial rfl ?_
  refine al_end (fun e_2 he_2 => ?_)
  have s1_2 := ef 1 he_2 (up_m rfl up_h)
  clear he_2 s0_0
  refine then_n ?_
  refine aw_seq ?_
  refine aw_freeze s1_2 mo0_1 (by first | rfl | (apply roL_flat; intro _; rfl)) (fun m_3 e_3 hm_3 he_3 => ?_)
  have ml_3 := m_set_l hm_3 ml_1
  have s1_3 : evA e_3 (.tmp 1) = _ := (congrArg (fun q => evA q (.tmp 1)) he_3).trans up_h
  clear hm_3 he_3
  refine aw_text (by kernel_rfl) ?_
  refine al_ro' (ro_slarr h6_at22 s1_3 rfl (by rintro l hl; obtain ⟨_, _, rfl⟩ := List.mem_map.1 hl; rfl) (by first | rfl | (simp only [lnS]; omega)) (by decide)) trivial rfl ?_
  refine al_ro' (ro_call (evL_cons up_h evL_nil) (by first | rfl | (simp only [roO.roL, roO, Bool.and_true, Bool.true_and]; (apply roL_flat; intro _; rfl))) (numbersErr_ok xs (by omega)) h6_hcf52) trivial rfl ?_
  refine al_ro' (ro_assign up_h) trivial rfl ?_
  refine al_end (fun e_4 he_4 => ?_)
  have s2_4 := ef 2 he_4 up_h
  clear he_4 s1_3
  refine then_n ?_
  refine aw_ret ?_
  refine ret1 (.inr rfl) (by kernel_rfl) (resV_tmp s2_4) (.ro _ rfl) ?_
  clear s2_4  ml_3
  rfl
set_option maxRecDepth 100000 in
set_option maxHeartbeats 4000000 in
theorem rEnergyOf_ok (xs : List Int) (hx : xs.length = 6) (hz : phasesE xs = 0) : FnOk Tryd.prog 15 [.agg (xs.map iE).flatten] (fun q => q = nA (enS xs 6)) := by
  have hbx := phases_bd hz
  refine fnOk_of (fn := Tryd.f15) 19 (by kernel_rfl) rfl (by kernel_rfl) (Nat.le_of_ble_eq_true rfl) ?_
  intro e_0 m_0 hA hm_0
  have s0_0 : evA e_0 (.tmp 0) = _ := hA 0 _ rfl
  have ml_0 : m_0.length = 0 := by rw [hm_0]; rfl
  clear hA hm_0
  refine aw_seq ?_
  refine aw_text (by kernel_rfl) ?_
  refine al_stm (st_box s0_0 rfl ml_0) trivial rfl (fun m_1 hm_1 => ?_)
  have mo0_1 := m_push hm_1 ml_0
  (try simp only [packA_t, packA_f, iE, bE, setAt, cellsA, Value.cells, map_vc, map_vn, Nat.reduceAdd, qS] at mo0_1)
  have ml_1 := m_push_l hm_1 ml_0
  have ml_1 : _ = 1 := ml_1
  clear hm_1
  refine al_ro' (ro_assign ev_c) trivial rfl ?_
  refine al_end (fun e_2 he_2 => ?_)
  have s1_2 := ef 1 he_2 (up_m rfl up_h)
  clear he_2 s0_0
  refine then_n ?_
  refine aw_seq ?_
  refine aw_text (by kernel_rfl) ?_
  refine al_ro' (ro_assign ev_c) trivial rfl ?_
  refine al_end (fun e_3 he_3 => ?_)
  have s1_3 := ef 1 he_3 (up_m rfl s1_2)
  have s3_3 := ef 3 he_3 up_h
  clear he_3 s1_2
  refine then_n ?_
  refine aw_seq ?_
  refine aw_seq ?_
  refine aw_text (by kernel_rfl) ?_
  refine al_ro' (ro_assign ev_c) trivial rfl ?_
  refine al_end (fun e_4 he_4 => ?_)
  have s1_4 := ef 1 he_4 (up_m rfl s1_3)
  have s3_4 := ef 3 he_4 (up_m rfl s3_3)
  have s4_4 := ef 4 he_4 up_h
  clear he_4 s1_3 s3_3
  refine then_n ?_
  refine aw_block ?_
  refine aw_loop (S := (Int × Int)) (fun s e mem => match s with | ⟨n, sm⟩ => (evA e (.tmp 4) = .v (.int .i64 n)) ∧ (evA e (.tmp 3) = .v (.int .i64 sm)) ∧ (evA e (.tmp 1) = evA e_4 (.tmp 1)) ∧ (mem[0]? = m_1[0]?) ∧ (mem.length = 1) ∧ ((0 ≤ n ∧ n ≤ 6 ∧ sm = enS xs n.toNat))) (fun s => match s with | ⟨n, sm⟩ => (6 - n).toNat) ⟨_, _⟩ ⟨s4_4, s3_4, rfl, rfl, ml_1, ?_⟩ ?_
  · (exact ⟨by omega, by omega, rfl⟩)
  · rintro ⟨n, sm⟩ e_5 m_5 ⟨s4_5, s3_5, k1_5, mk0_5, ml_5, hinv⟩
    have s1_5 := k1_5.trans s1_4
    have mo0_5 := mk0_5.trans mo0_1
    (obtain ⟨p1, p2, p3⟩ := hinv; have e1 := enS_bd hbx n.toNat; have e2 := getD_bd hbx n.toNat; have e3 := mulBd e2 e2)
    refine aw_seq ?_
    refine aw_seq ?_
    refine aw_text (by kernel_rfl) ?_
    refine al_ro' (ro_move s4_5) trivial rfl ?_
    refine al_ro' (ro_lss up_h ev_c) trivial rfl ?_
    refine al_end (fun e_6 he_6 => ?_)
    have s1_6 := ef 1 he_6 (u2 rfl s1_5)
    have s3_6 := ef 3 he_6 (u2 rfl s3_5)
    have s4_6 := ef 4 he_6 (u2 rfl s4_5)
    have s6_6 := ef 6 he_6 up_h
    clear he_6 s1_5 s3_5 s4_5
    refine then_n ?_
    refine aw_case s6_6 (fun hq_7 => ?_) (fun hq_7 => ?_)
    · (first | replace hq_7 := bnt hq_7 | replace hq_7 := bnf hq_7 | replace hq_7 := bt hq_7 | replace hq_7 := bf hq_7 | replace hq_7 := bt' hq_7 | replace hq_7 := bf' hq_7 | skip)
      first
      | (cases hq_7; done) | (exfalso; omega)
      | (
         refine aw_skip ?_
         refine then_n ?_
         refine aw_seq ?_
         refine aw_block ?_
         refine aw_draw 9 (by kernel_rfl) (by kernel_rfl) (by kernel_rfl) (by kernel_rfl) ?_
         refine ds_ro' (ro_move s3_6) trivial rfl ?_
         refine ds_ro' (ro_move (up_m rfl s4_6)) trivial rfl ?_
         refine ds_ro' (ro_ixaD h6_ar22 (u2 rfl s1_6) up_h (by first | decide | omega | (simp <;> omega)) (by first | omega | (simp only [lnS] <;> omega) | (simp <;> omega))) trivial rfl ?_
         refine ds_ro' (ro_eq (ro_ld_ael h6_ty3 rfl mo0_5 up_h rfl (by rintro l hl; obtain ⟨_, _, rfl⟩ := List.mem_map.1 hl; rfl) rfl (by first | (refine idx_map ?_; first | omega | (simp only [lnS]; omega)) | (refine idx_mapI ?_; first | omega | (simp only [lnS]; omega)) | (refine idx_mapN ?_; first | omega | (simp only [lnS]; omega)) | rfl)) (by first | (simp only [packA_t, packA_f, iE, bE, setAt, cellsA, Value.cells, map_vc, map_vn, Nat.reduceAdd, qS] <;> rfl) | rfl)) trivial rfl ?_
         refine ds_ro' (ro_move (u4 rfl s4_6)) trivial rfl ?_
         refine ds_ro' (ro_ixaD h6_ar22 (up_m rfl (u4 rfl s1_6)) up_h (by first | decide | omega | (simp <;> omega)) (by first | omega | (simp only [lnS] <;> omega) | (simp <;> omega))) trivial rfl ?_
         refine ds_ro' (ro_eq (ro_ld_ael h6_ty3 rfl mo0_5 up_h rfl (by rintro l hl; obtain ⟨_, _, rfl⟩ := List.mem_map.1 hl; rfl) rfl (by first | (refine idx_map ?_; first | omega | (simp only [lnS]; omega)) | (refine idx_mapI ?_; first | omega | (simp only [lnS]; omega)) | (refine idx_mapN ?_; first | omega | (simp only [lnS]; omega)) | rfl)) (by first | (simp only [packA_t, packA_f, iE, bE, setAt, cellsA, Value.cells, map_vc, map_vn, Nat.reduceAdd, qS] <;> rfl) | rfl)) trivial rfl ?_
         first | (refine ds_ro' (ro_mul' (up_m rfl (u2 rfl up_h)) up_h ?_) trivial rfl ?_; · (unfold In64; omega)) | refine ds_ro' (ro_mul (up_m rfl (u2 rfl up_h)) up_h) trivial rfl ?_
         first | (refine ds_ro' (ro_add' (up_m rfl (u2 rfl (u4 rfl up_h))) up_h ?_) trivial rfl ?_; · (unfold In64; omega)) | refine ds_ro' (ro_add (up_m rfl (u2 rfl (u4 rfl up_h))) up_h) trivial rfl ?_
         refine ds_nil ?_
         refine al_ro' (ro_assign up_h) trivial rfl ?_
         refine al_end (fun e_8 he_8 => ?_)
         have s1_8 := ef 1 he_8 (u2 rfl (u8 rfl s1_6))
         have s3_8 := ef 3 he_8 up_h
         have s4_8 := ef 4 he_8 (u2 rfl (u8 rfl s4_6))
         clear he_8 s1_6 s3_6 s4_6 s6_6
         refine block_n ?_
         refine then_n ?_
         refine aw_text (by kernel_rfl) ?_
         refine al_ro' (ro_move s4_8) trivial rfl ?_
         first | (refine al_ro' (ro_add' up_h ev_c ?_) trivial rfl ?_; · (unfold In64; omega)) | refine al_ro' (ro_add up_h ev_c) trivial rfl ?_
         refine al_ro' (ro_assign up_h) trivial rfl ?_
         refine al_end (fun e_9 he_9 => ?_)
         have s1_9 := ef 1 he_9 (up_m rfl (u2 rfl s1_8))
         have s3_9 := ef 3 he_9 (up_m rfl (u2 rfl s3_8))
         have s4_9 := ef 4 he_9 up_h
         clear he_9 s1_8 s3_8 s4_8
         refine then_n ?_
         refine ⟨⟨_, _⟩, ⟨s4_9, s3_9, (s1_9.trans s1_4.symm), (mo0_5.trans mo0_1.symm), ml_5, ?_⟩, ?_⟩
         · (refine ⟨by omega, by omega, ?_⟩; rw [show (n + 1).toNat = n.toNat + 1 by omega, enS, p3])
         · ((try dsimp only); omega))
    · (first | replace hq_7 := bnt hq_7 | replace hq_7 := bnf hq_7 | replace hq_7 := bt hq_7 | replace hq_7 := bf hq_7 | replace hq_7 := bt' hq_7 | replace hq_7 := bf' hq_7 | skip)
      first
      | (cases hq_7; done) | (exfalso; omega)
      | (
         refine aw_exit ?_
         refine then_x ?_
         refine then_x ?_
         refine block_hit ?_
         refine then_n ?_
         refine aw_seq ?_
         refine aw_text (by kernel_rfl) ?_
         refine al_ro' (ro_move s3_6) trivial rfl ?_
         refine al_ro' (ro_assign up_h) trivial rfl ?_
         refine al_end (fun e_10 he_10 => ?_)
         have s2_10 := ef 2 he_10 up_h
         clear he_10 s1_6 s3_6 s4_6 s6_6
         refine then_n ?_
         refine aw_ret ?_
         refine ret1 (.inr rfl) (by kernel_rfl) (resV_tmp s2_10) (.ro _ rfl) ?_
         clear s2_10 mo0_5 ml_5
         (rw [p3, show n.toNat = 6 by omega]))
set_option maxRecDepth 100000 in
set_option maxHeartbeats 4000000 in
theorem rOrdersOf_ok (xs : List Int) (hx : xs.length = 6) (hz : phasesE xs = 0) : FnOk Tryd.prog 14 [.agg (xs.map iE).flatten] (fun q => q = .agg ((ordW xs).map tE).flatten) := by
  have hbx := phases_bd hz
  have hob := oneV_bd hbx
  have hox : ∀ n : Nat, n < 6 → ((xs.map oneV).getD n default) = (xs.getD n default, 0) := fun n hn => by rw [getD_oneV]; rfl
  refine fnOk_of (fn := Tryd.f14) 30 (by kernel_rfl) rfl (by kernel_rfl) (Nat.le_of_ble_eq_true rfl) ?_
  intro e_0 m_0 hA hm_0
  have s0_0 : evA e_0 (.tmp 0) = _ := hA 0 _ rfl
  have ml_0 : m_0.length = 0 := by rw [hm_0]; rfl
  clear hA hm_0
  refine aw_seq ?_
  refine aw_text (by kernel_rfl) ?_
  refine al_stm (st_box s0_0 rfl ml_0) trivial rfl (fun m_1 hm_1 => ?_)
  have mo0_1 := m_push hm_1 ml_0
  (try simp only [packA_t, packA_f, iE, bE, setAt, cellsA, Value.cells, map_vc, map_vn, Nat.reduceAdd, qS, tE, set_tE] at mo0_1)
  have ml_1 := m_push_l hm_1 ml_0
  have ml_1 : _ = 1 := ml_1
  clear hm_1
  refine al_stm (st_alloc h6_az25 rfl ml_1) trivial rfl (fun m_2 hm_2 => ?_)
  have mo1_2 : m_2[1]? = some (Ob.box 25 ((z6.map tE).flatten)) := m_push hm_2 ml_1
  have mo0_2 := m_push_o hm_2 mo0_1
  have ml_2 := m_push_l hm_2 ml_1
  have ml_2 : _ = 2 := ml_2
  clear hm_2 mo0_1
  refine al_end (fun e_3 he_3 => ?_)
  have s1_3 := ef 1 he_3 (up_m rfl up_h)
  have s2_3 := ef 2 he_3 up_h
  clear he_3 s0_0
  refine then_n ?_
  refine aw_seq ?_
  refine aw_text (by kernel_rfl) ?_
  refine al_stm (st_alloc h6_az25 rfl ml_2) trivial rfl (fun m_4 hm_4 => ?_)
  have mo2_4 : m_4[2]? = some (Ob.box 25 ((z6.map tE).flatten)) := m_push hm_4 ml_2
  have mo1_4 := m_push_o hm_4 mo1_2
  have mo0_4 := m_push_o hm_4 mo0_2
  have ml_4 := m_push_l hm_4 ml_2
  have ml_4 : _ = 3 := ml_4
  clear hm_4 mo1_2 mo0_2
  refine al_end (fun e_5 he_5 => ?_)
  have s1_5 := ef 1 he_5 (up_m rfl s1_3)
  have s2_5 := ef 2 he_5 (up_m rfl s2_3)
  have s3_5 := ef 3 he_5 up_h
  clear he_5 s1_3 s2_3
  refine then_n ?_
  refine aw_seq ?_
  refine aw_seq ?_
  refine aw_text (by kernel_rfl) ?_
  refine al_ro' (ro_assign ev_c) trivial rfl ?_
  refine al_end (fun e_6 he_6 => ?_)
  have s1_6 := ef 1 he_6 (up_m rfl s1_5)
  have s2_6 := ef 2 he_6 (up_m rfl s2_5)
  have s3_6 := ef 3 he_6 (up_m rfl s3_5)
  have s4_6 := ef 4 he_6 up_h
  clear he_6 s1_5 s2_5 s3_5
  refine then_n ?_
  refine aw_block ?_
  refine aw_loop (S := (Int × List V2)) (fun s e mem => match s with | ⟨k, ys⟩ => (evA e (.tmp 4) = .v (.int .i64 k)) ∧ (evA e (.tmp 1) = evA e_6 (.tmp 1)) ∧ (evA e (.tmp 2) = evA e_6 (.tmp 2)) ∧ (evA e (.tmp 3) = evA e_6 (.tmp 3)) ∧ (mem[2]? = some (.box 25 (ys.map tE).flatten)) ∧ (mem[1]? = m_4[1]?) ∧ (mem[0]? = m_4[0]?) ∧ (mem.length = 3) ∧ ((0 ≤ k ∧ k ≤ 6 ∧ ys.length = 6 ∧ ∀ j : Nat, j < 6 → ys.getD j default = if j < k.toNat then trS (xs.map oneV) (-1) j 6 else (0, 0)))) (fun s => match s with | ⟨k, ys⟩ => (6 - k).toNat) ⟨_, z6⟩ ⟨s4_6, rfl, rfl, rfl, mo2_4, rfl, rfl, ml_4, ?_⟩ ?_
  · (refine ⟨by omega, by omega, rfl, fun j hj => ?_⟩; rw [if_neg (by omega)]; exact getD_z6 _ j hj)
  · rintro ⟨k, ys⟩ e_7 m_7 ⟨s4_7, k1_7, k2_7, k3_7, mo2_7, mk1_7, mk0_7, ml_7, hinv⟩
    have s1_7 := k1_7.trans s1_6
    have s2_7 := k2_7.trans s2_6
    have s3_7 := k3_7.trans s3_6
    have mo1_7 := mk1_7.trans mo1_4
    have mo0_7 := mk0_7.trans mo0_4
    (obtain ⟨p1, p2, p3, p4⟩ := hinv)
    refine aw_seq ?_
    refine aw_seq ?_
    refine aw_text (by kernel_rfl) ?_
    refine al_ro' (ro_move s4_7) trivial rfl ?_
    refine al_ro' (ro_lss up_h ev_c) trivial rfl ?_
    refine al_end (fun e_8 he_8 => ?_)
    have s1_8 := ef 1 he_8 (u2 rfl s1_7)
    have s2_8 := ef 2 he_8 (u2 rfl s2_7)
    have s3_8 := ef 3 he_8 (u2 rfl s3_7)
    have s4_8 := ef 4 he_8 (u2 rfl s4_7)
    have s7_8 := ef 7 he_8 up_h
    clear he_8 s1_7 s2_7 s3_7 s4_7
    refine then_n ?_
    refine aw_case s7_8 (fun hq_9 => ?_) (fun hq_9 => ?_)
    · (first | replace hq_9 := bnt hq_9 | replace hq_9 := bnf hq_9 | replace hq_9 := bt hq_9 | replace hq_9 := bf hq_9 | replace hq_9 := bt' hq_9 | replace hq_9 := bf' hq_9 | skip)
      first
      | (cases hq_9; done) | (exfalso; omega)
      | (
         refine aw_skip ?_
         refine then_n ?_
         refine aw_seq ?_
         refine aw_block ?_
         refine aw_seq ?_
         refine aw_text (by kernel_rfl) ?_
         refine al_ro' (ro_assign ev_c) trivial rfl ?_
         refine al_end (fun e_10 he_10 => ?_)
         have s1_10 := ef 1 he_10 (up_m rfl s1_8)
         have s2_10 := ef 2 he_10 (up_m rfl s2_8)
         have s3_10 := ef 3 he_10 (up_m rfl s3_8)
         have s4_10 := ef 4 he_10 (up_m rfl s4_8)
         have s5_10 := ef 5 he_10 up_h
         clear he_10 s1_8 s2_8 s3_8 s4_8 s7_8
         refine then_n ?_
         refine aw_block ?_
         refine aw_loop (S := (Int × List V2)) (fun s e mem => match s with | ⟨n, us⟩ => (evA e (.tmp 5) = .v (.int .i64 n)) ∧ (evA e (.tmp 1) = evA e_10 (.tmp 1)) ∧ (evA e (.tmp 2) = evA e_10 (.tmp 2)) ∧ (evA e (.tmp 3) = evA e_10 (.tmp 3)) ∧ (evA e (.tmp 4) = evA e_10 (.tmp 4)) ∧ (mem[2]? = some (.box 25 (us.map tE).flatten)) ∧ (mem[1]? = m_7[1]?) ∧ (mem[0]? = m_7[0]?) ∧ (mem.length = 3) ∧ ((0 ≤ n ∧ n ≤ 6 ∧ us.length = 6 ∧ ∀ j : Nat, j < 6 → us.getD j default = if j = k.toNat then trS (xs.map oneV) (-1) k n.toNat else ys.getD j default))) (fun s => match s with | ⟨n, us⟩ => (6 - n).toNat) ⟨_, ys⟩ ⟨s5_10, rfl, rfl, rfl, rfl, mo2_7, rfl, rfl, ml_7, ?_⟩ ?_
         · (refine ⟨by omega, by omega, p3, fun j hj => ?_⟩; split; (rw [p4 j hj, if_neg (by omega)]; rfl); rfl)
         · rintro ⟨n, us⟩ e_11 m_11 ⟨s5_11, k1_11, k2_11, k3_11, k4_11, mo2_11, mk1_11, mk0_11, ml_11, hinv⟩
           have s1_11 := k1_11.trans s1_10
           have s2_11 := k2_11.trans s2_10
           have s3_11 := k3_11.trans s3_10
           have s4_11 := k4_11.trans s4_10
           have mo1_11 := mk1_11.trans mo1_7
           have mo0_11 := mk0_11.trans mo0_7
           (obtain ⟨r1, r2, r3, r4⟩ := hinv; have hs0 := r4 k.toNat (by omega); rw [if_pos rfl] at hs0; have hs1 := trS_bd hob (-1) k n.toNat; rw [← hs0] at hs1; have w2 := mulBd (A := 6) (B := 6) (a := -k) (b := n) (by omega) (by omega))
           refine aw_seq ?_
           refine aw_seq ?_
           refine aw_text (by kernel_rfl) ?_
           refine al_ro' (ro_move s5_11) trivial rfl ?_
           refine al_ro' (ro_lss up_h ev_c) trivial rfl ?_
           refine al_end (fun e_12 he_12 => ?_)
           have s1_12 := ef 1 he_12 (u2 rfl s1_11)
           have s2_12 := ef 2 he_12 (u2 rfl s2_11)
           have s3_12 := ef 3 he_12 (u2 rfl s3_11)
           have s4_12 := ef 4 he_12 (u2 rfl s4_11)
           have s5_12 := ef 5 he_12 (u2 rfl s5_11)
           have s11_12 := ef 11 he_12 up_h
           clear he_12 s1_11 s2_11 s3_11 s4_11 s5_11
           refine then_n ?_
           refine aw_case s11_12 (fun hq_13 => ?_) (fun hq_13 => ?_)
           · (first | replace hq_13 := bnt hq_13 | replace hq_13 := bnf hq_13 | replace hq_13 := bt hq_13 | replace hq_13 := bf hq_13 | replace hq_13 := bt' hq_13 | replace hq_13 := bf' hq_13 | skip)
             first
             | (cases hq_13; done) | (exfalso; omega)
             | (
                refine aw_skip ?_
                refine then_n ?_
                refine aw_seq ?_
                refine aw_block ?_
                refine aw_draw 15 (by kernel_rfl) (by kernel_rfl) (by kernel_rfl) (by kernel_rfl) ?_
                refine ds_ro' (ro_move s4_12) trivial rfl ?_
                refine ds_ro' (ro_move (up_m rfl s4_12)) trivial rfl ?_
                refine ds_ro' (ro_ixaD h6_ar25 (u2 rfl s3_12) up_h (by first | decide | omega | (simp <;> omega)) (by first | omega | (simp only [lnS] <;> omega) | (simp <;> omega))) trivial rfl ?_
                refine ds_ro' (ro_eq (ro_ld_ael h6_ty24 rfl mo2_11 up_h rfl (by rintro l hl; obtain ⟨_, _, rfl⟩ := List.mem_map.1 hl; rfl) rfl (by first | (refine idx_map ?_; first | omega | (simp only [lnS]; omega)) | (refine idx_mapI ?_; first | omega | (simp only [lnS]; omega)) | (refine idx_mapN ?_; first | omega | (simp only [lnS]; omega)) | rfl)) (by first | (simp only [packA_t, packA_f, iE, bE, setAt, cellsA, Value.cells, map_vc, map_vn, Nat.reduceAdd, qS, tE, set_tE] <;> rfl) | rfl)) trivial rfl ?_
                refine ds_ro' (ro_move (u4 rfl s5_12)) trivial rfl ?_
                refine ds_ro' (ro_ixaD h6_ar22 (up_m rfl (u4 rfl s1_12)) up_h (by first | decide | omega | (simp <;> omega)) (by first | omega | (simp only [lnS] <;> omega) | (simp <;> omega))) trivial rfl ?_
                refine ds_ro' (ro_eq (ro_ld_ael h6_ty3 rfl mo0_11 up_h rfl (by rintro l hl; obtain ⟨_, _, rfl⟩ := List.mem_map.1 hl; rfl) rfl (by first | (refine idx_map ?_; first | omega | (simp only [lnS]; omega)) | (refine idx_mapI ?_; first | omega | (simp only [lnS]; omega)) | (refine idx_mapN ?_; first | omega | (simp only [lnS]; omega)) | rfl)) (by first | (simp only [packA_t, packA_f, iE, bE, setAt, cellsA, Value.cells, map_vc, map_vn, Nat.reduceAdd, qS, tE, set_tE] <;> rfl) | rfl)) trivial rfl ?_
                refine ds_ro' (ro_build (evP_cons up_h evP_nil) h6_bz24 h6_bu24 h6_bp24 rfl) trivial rfl ?_
                refine ds_ro' (ro_move (u8 rfl s4_12)) trivial rfl ?_
                first | (refine ds_ro' (ro_neg' up_h ?_) trivial rfl ?_; · (unfold In64; omega)) | refine ds_ro' (ro_neg up_h) trivial rfl ?_
                refine ds_ro' (ro_move (u2 rfl (u8 rfl s5_12))) trivial rfl ?_
                first | (refine ds_ro' (ro_mul' (up_m rfl up_h) up_h ?_) trivial rfl ?_; · (unfold In64; omega)) | refine ds_ro' (ro_mul (up_m rfl up_h) up_h) trivial rfl ?_
                refine ds_ro' (ro_call (evL_cons (u4 rfl up_h) (evL_cons up_h evL_nil)) (by first | rfl | (simp only [roO.roL, roO, Bool.and_true, Bool.true_and]; (apply roL_flat; intro _; rfl))) (rTurned_ok (xs.getD n.toNat default, 0) (-k * n) (by have := getD_bd hbx n.toNat; exact ⟨⟨by simp only; omega, by simp only; omega⟩, by simp only; omega, by simp only; omega⟩)) h6_hcf54) trivial rfl ?_
                refine ds_ro' (ro_call (evL_cons (up_m rfl (u8 rfl up_h)) (evL_cons up_h evL_nil)) (by first | rfl | (simp only [roO.roL, roO, Bool.and_true, Bool.true_and]; (apply roL_flat; intro _; rfl))) (tAdd_ok _ _ (hs1.mono (by omega)) (by have h := turnV_bd (Bd.getD hob (by decide) n.toNat) (-1 * k * n); rw [hox _ (by omega)] at h; rw [show -k * n = -1 * k * n by rw [show (-1 : Int) * k = -k by omega]]; exact h.mono (by decide))) h6_hcf53) trivial rfl ?_
                refine ds_ro' (ro_ixaD h6_ar25 (u2 rfl (u4 rfl (u8 rfl s3_12))) (up_m rfl (u4 rfl (u8 rfl up_h))) (by first | decide | omega | (simp <;> omega)) (by first | omega | (simp only [lnS] <;> omega) | (simp <;> omega))) trivial rfl ?_
                refine ds_nil ?_
                refine al_stm (st_store_ael up_h (up_m rfl up_h) rfl rfl mo2_11 rfl (by rintro l hl; obtain ⟨_, _, rfl⟩ := List.mem_map.1 hl; rfl) h6_sz24 rfl rfl (by first | omega | (simp only [lnS] <;> omega) | (simp <;> omega))) trivial rfl (fun m_14 hm_14 => ?_)
                have mo2_14 := m_set hm_14 mo2_11
                (try simp only [packA_t, packA_f, iE, bE, setAt, cellsA, Value.cells, map_vc, map_vn, Nat.reduceAdd, qS, tE, set_tE] at mo2_14)
                have mo1_14 := m_set_o hm_14 mo1_11 (by decide)
                have mo0_14 := m_set_o hm_14 mo0_11 (by decide)
                have ml_14 := m_set_l hm_14 ml_11
                clear hm_14 mo2_11 mo1_11 mo0_11
                refine al_end (fun e_15 he_15 => ?_)
                have s1_15 := ef 1 he_15 (up_n (up_m rfl (u2 rfl (u4 rfl (u8 rfl s1_12)))))
                have s2_15 := ef 2 he_15 (up_n (up_m rfl (u2 rfl (u4 rfl (u8 rfl s2_12)))))
                have s3_15 := ef 3 he_15 (up_n (up_m rfl (u2 rfl (u4 rfl (u8 rfl s3_12)))))
                have s4_15 := ef 4 he_15 (up_n (up_m rfl (u2 rfl (u4 rfl (u8 rfl s4_12)))))
                have s5_15 := ef 5 he_15 (up_n (up_m rfl (u2 rfl (u4 rfl (u8 rfl s5_12)))))
                clear he_15 s11_12 s1_12 s2_12 s3_12 s4_12 s5_12
                refine block_n ?_
                refine then_n ?_
                refine aw_text (by kernel_rfl) ?_
                refine al_ro' (ro_move s5_15) trivial rfl ?_
                first | (refine al_ro' (ro_add' up_h ev_c ?_) trivial rfl ?_; · (unfold In64; omega)) | refine al_ro' (ro_add up_h ev_c) trivial rfl ?_
                refine al_ro' (ro_assign up_h) trivial rfl ?_
                refine al_end (fun e_16 he_16 => ?_)
                have s1_16 := ef 1 he_16 (up_m rfl (u2 rfl s1_15))
                have s2_16 := ef 2 he_16 (up_m rfl (u2 rfl s2_15))
                have s3_16 := ef 3 he_16 (up_m rfl (u2 rfl s3_15))
                have s4_16 := ef 4 he_16 (up_m rfl (u2 rfl s4_15))
                have s5_16 := ef 5 he_16 up_h
                clear he_16 s1_15 s2_15 s3_15 s4_15 s5_15
                refine then_n ?_
                refine ⟨⟨_, _⟩, ⟨s5_16, (s1_16.trans s1_10.symm), (s2_16.trans s2_10.symm), (s3_16.trans s3_10.symm), (s4_16.trans s4_10.symm), mo2_14, (mo1_14.trans mo1_7.symm), (mo0_14.trans mo0_7.symm), ml_14, ?_⟩, ?_⟩
                · (refine ⟨by omega, by omega, by simp [r3], fun j hj => ?_⟩; rw [getD_setV (by omega)]; by_cases hjk : j = k.toNat; (rw [if_pos hjk, if_pos hjk, hs0, show (n + 1).toNat = n.toNat + 1 by omega]; simp only [trS]; rw [hox _ (by omega), Int.toNat_of_nonneg r1, show -k * n = -1 * k * n by rw [show (-1 : Int) * k = -k by omega]]); (rw [if_neg hjk, if_neg hjk, r4 j hj, if_neg hjk]))
                · ((try dsimp only); omega))
           · (first | replace hq_13 := bnt hq_13 | replace hq_13 := bnf hq_13 | replace hq_13 := bt hq_13 | replace hq_13 := bf hq_13 | replace hq_13 := bt' hq_13 | replace hq_13 := bf' hq_13 | skip)
             first
             | (cases hq_13; done) | (exfalso; omega)
             | (
                refine aw_exit ?_
                refine then_x ?_
                refine then_x ?_
                refine block_hit ?_
                refine block_n ?_
                refine then_n ?_
                refine aw_text (by kernel_rfl) ?_
                refine al_ro' (ro_move s4_12) trivial rfl ?_
                first | (refine al_ro' (ro_add' up_h ev_c ?_) trivial rfl ?_; · (unfold In64; omega)) | refine al_ro' (ro_add up_h ev_c) trivial rfl ?_
                refine al_ro' (ro_assign up_h) trivial rfl ?_
                refine al_end (fun e_17 he_17 => ?_)
                have s1_17 := ef 1 he_17 (up_m rfl (u2 rfl s1_12))
                have s2_17 := ef 2 he_17 (up_m rfl (u2 rfl s2_12))
                have s3_17 := ef 3 he_17 (up_m rfl (u2 rfl s3_12))
                have s4_17 := ef 4 he_17 up_h
                clear he_17 s11_12 s1_12 s2_12 s3_12 s4_12 s5_12
                refine then_n ?_
                refine ⟨⟨_, _⟩, ⟨s4_17, (s1_17.trans s1_6.symm), (s2_17.trans s2_6.symm), (s3_17.trans s3_6.symm), mo2_11, (mo1_11.trans mo1_4.symm), (mo0_11.trans mo0_4.symm), ml_11, ?_⟩, ?_⟩
                · (refine ⟨by omega, by omega, r3, fun j hj => ?_⟩; rw [r4 j hj]; by_cases hjk : j = k.toNat; (rw [if_pos hjk, if_pos (by omega), show n.toNat = 6 by omega, show (j : Int) = k by omega]); (rw [if_neg hjk, p4 j hj]; by_cases hjl : j < k.toNat; (rw [if_pos hjl, if_pos (by omega)]); (rw [if_neg hjl, if_neg (by omega)])))
                · ((try dsimp only); omega)))
    · (first | replace hq_9 := bnt hq_9 | replace hq_9 := bnf hq_9 | replace hq_9 := bt hq_9 | replace hq_9 := bf hq_9 | replace hq_9 := bt' hq_9 | replace hq_9 := bf' hq_9 | skip)
      first
      | (cases hq_9; done) | (exfalso; omega)
      | (
         refine aw_exit ?_
         refine then_x ?_
         refine then_x ?_
         refine block_hit ?_
         refine then_n ?_
         refine aw_seq ?_
         refine aw_text (by kernel_rfl) ?_
         refine al_ro' (ro_ld_all h6_ty25 mo2_7 s3_8 (by first | rfl | (rw [flat_map_len (k := 2)] <;> first | omega | (intro _; rfl)))) trivial rfl ?_
         refine al_stm (st_store_all (up_m rfl s2_8) up_h rfl (by first | rfl | (apply oneL_flat; intro _; rfl)) mo1_7 h6_sz25 (by first | rfl | (rw [flat_map_len (k := 2)] <;> first | omega | (intro _; rfl))) (by first | rfl | (rw [flat_map_len (k := 2)] <;> first | omega | (intro _; rfl)))) trivial rfl (fun m_18 hm_18 => ?_)
         have mo1_18 := m_set hm_18 mo1_7
         (try simp only [packA_t, packA_f, iE, bE, setAt, cellsA, Value.cells, map_vc, map_vn, Nat.reduceAdd, qS, tE, set_tE] at mo1_18)
         have mo2_18 := m_set_o hm_18 mo2_7 (by decide)
         have mo0_18 := m_set_o hm_18 mo0_7 (by decide)
         have ml_18 := m_set_l hm_18 ml_7
         clear hm_18 mo2_7 mo1_7 mo0_7
         refine al_end (fun e_19 he_19 => ?_)
         have s2_19 := ef 2 he_19 (up_n (up_m rfl s2_8))
         clear he_19 s1_8 s2_8 s3_8 s4_8 s7_8
         refine then_n ?_
         refine aw_ret ?_
         refine ret1 (.inr rfl) (by kernel_rfl) (resV_cell s2_19 mo1_18 h6_ty25 (by first | exact Nat.le_of_ble_eq_true rfl | (rw [flat_map_len (k := 2)] <;> first | omega | (intro _; rfl))) (by simp)) (vw_r (.ro _ (by first | rfl | (apply ro_aggF; intro _; rfl) | (apply roL_flat; intro _; rfl)))) ?_
         clear s2_19 mo1_18 mo2_18 mo0_18 ml_18
         (rw [take_flat_all (k := 2) (fun _ => rfl) (by omega), list_ext' (xs := ys) (ys := ordW xs) (by rw [ordW_len, p3]) (fun j hj => by rw [p4 j (by omega), if_pos (by omega), ordW, trW_at _ _ (by omega)])]))
end Go.Proofs.YtgiiedpambimoaaDoor

/- Contracts of chapter 3: samples out of orders. No conditions on a program. -/
namespace Go.Proofs.YtgiiedpambimoaaDoor
open Go Go.RowKit Go.Proofs
set_option linter.unusedSimpArgs false
set_option linter.unusedVariables false
theorem h7_az22 : (Tryd.prog.info? 22).bind (·.zero) = some (.agg #[.int .i64 0, .int .i64 0, .int .i64 0, .int .i64 0, .int .i64 0, .int .i64 0]) := by kernel_rfl
theorem h7_az24 : (Tryd.prog.info? 24).bind (·.zero) = some (.agg #[.int .i64 0, .int .i64 0]) := by kernel_rfl
theorem h7_az96 : (Tryd.prog.info? 96).bind (·.zero) = some (.agg #[.int .i64 0, .int .i64 0]) := by kernel_rfl
theorem h7_az97 : (Tryd.prog.info? 97).bind (·.zero) = some (.agg #[.int .i64 0, .int .i64 0, .int .i64 0, .int .i64 0, .int .i64 0, .int .i64 0, .int .i64 0, .int .i64 0, .int .i64 0, .int .i64 0, .int .i64 0, .int .i64 0]) := by kernel_rfl
theorem h7_ar22 : ArIs Tryd.prog 22 6 1 := ⟨by kernel_rfl, by kernel_rfl⟩
theorem h7_ar25 : ArIs Tryd.prog 25 6 2 := ⟨by kernel_rfl, by kernel_rfl⟩
theorem h7_ar97 : ArIs Tryd.prog 97 6 2 := ⟨by kernel_rfl, by kernel_rfl⟩
theorem h7_at22 : ArTy Tryd.prog 22 6 3 false 1 := ⟨by kernel_rfl, by kernel_rfl, by kernel_rfl⟩
theorem h7_at25 : ArTy Tryd.prog 25 6 24 true 2 := ⟨by kernel_rfl, by kernel_rfl, by kernel_rfl⟩
theorem h7_at97 : ArTy Tryd.prog 97 6 96 true 2 := ⟨by kernel_rfl, by kernel_rfl, by kernel_rfl⟩
theorem h7_bz22 : (Tryd.prog.info? 22).bind (·.zero) = some (.agg #[.int .i64 0, .int .i64 0, .int .i64 0, .int .i64 0, .int .i64 0, .int .i64 0]) := by kernel_rfl
theorem h7_bu22 : Tryd.prog.underlying 22 = some (.array 6 3) := by kernel_rfl
theorem h7_bp22 : (Tryd.prog.info? 3).map (·.size) = some 1 := by kernel_rfl
theorem h7_fl24_0 : FldIs Tryd.prog 24 0 0 false 1 := by unfold FldIs; kernel_rfl
theorem h7_fl24_1 : FldIs Tryd.prog 24 1 1 false 1 := by unfold FldIs; kernel_rfl
theorem h7_fl96_0 : FldIs Tryd.prog 96 0 0 false 1 := by unfold FldIs; kernel_rfl
theorem h7_fl96_1 : FldIs Tryd.prog 96 1 1 false 1 := by unfold FldIs; kernel_rfl
theorem h7_hcf13 : ∀ args w, (callFunc 13 args).run Tryd.prog w = .ok (.enter 13 args) w := fun _ _ => by kernel_rfl
theorem h7_hcf48 : ∀ args w, (callFunc 48 args).run Tryd.prog w = .ok (.enter 48 args) w := fun _ _ => by kernel_rfl
theorem h7_hcf50 : ∀ args w, (callFunc 50 args).run Tryd.prog w = .ok (.enter 50 args) w := fun _ _ => by kernel_rfl
theorem h7_hcf51 : ∀ args w, (callFunc 51 args).run Tryd.prog w = .ok (.enter 51 args) w := fun _ _ => by kernel_rfl
theorem h7_hcf53 : ∀ args w, (callFunc 53 args).run Tryd.prog w = .ok (.enter 53 args) w := fun _ _ => by kernel_rfl
theorem h7_hcf54 : ∀ args w, (callFunc 54 args).run Tryd.prog w = .ok (.enter 54 args) w := fun _ _ => by kernel_rfl
theorem h7_hcf55 : ∀ args w, (callFunc 55 args).run Tryd.prog w = .ok (.enter 55 args) w := fun _ _ => by kernel_rfl
theorem h7_sz22 : (Tryd.prog.info? 22).map (·.size) = some 6 := by kernel_rfl
theorem h7_sz24 : (Tryd.prog.info? 24).map (·.size) = some 2 := by kernel_rfl
theorem h7_sz3 : (Tryd.prog.info? 3).map (·.size) = some 1 := by kernel_rfl
theorem h7_sz96 : (Tryd.prog.info? 96).map (·.size) = some 2 := by kernel_rfl
theorem h7_ty22 : TyIs Tryd.prog 22 true 6 := ⟨by kernel_rfl, by kernel_rfl⟩
theorem h7_ty24 : TyIs Tryd.prog 24 true 2 := ⟨by kernel_rfl, by kernel_rfl⟩
theorem h7_ty25 : TyIs Tryd.prog 25 true 12 := ⟨by kernel_rfl, by kernel_rfl⟩
theorem h7_ty3 : TyIs Tryd.prog 3 false 1 := ⟨by kernel_rfl, by kernel_rfl⟩
theorem h7_ty97 : TyIs Tryd.prog 97 true 12 := ⟨by kernel_rfl, by kernel_rfl⟩

def badO (v : V2) : Bool := !(smallB v.1 600000) || !(smallB v.2 600000)
def ordE (hs : List V2) : Int := unlessE (!(hs.any badO)) 2
def badS (v : V2) : Bool := decide (v.2 ≠ 0) || decide (v.1.tmod 6 ≠ 0)
def sixth (v : V2) : Int := v.1.tdiv 6
def outW (hs : List V2) : List Int := (trW hs 1).map sixth
def smpE (hs : List V2) : Int := if (trW hs 1).any badS then 3 else phasesE (outW hs)
def smpF (hs : List V2) : Int := if ordE hs = 0 then smpE hs else ordE hs
def smpV (hs : List V2) : List Int := if smpF hs = 0 then outW hs else i6
theorem outW_len (hs : List V2) : (outW hs).length = 6 := by simp [outW, trW_len]
theorem outW_at (hs : List V2) {j : Nat} (hj : j < 6) : (outW hs).getD j default = sixth ((trW hs 1).getD j default) := by
  have := trW_len hs 1
  simp [outW, List.getD_eq_getElem?_getD, this, hj]
theorem badO_bd {v : V2} (h : badO v = false) : Bd 600000 v := by
  simp only [badO, smallB, withinB, Bool.or_eq_false_iff, Bool.not_eq_false', Bool.and_eq_true, decide_eq_true_eq] at h
  exact ⟨h.1, h.2⟩
theorem any_false {α : Type} [Inhabited α] {g : α → Bool} {l : List α} (h : ∀ j : Nat, j < l.length → g (l.getD j default) = false) : l.any g = false := by
  rw [← Bool.not_eq_true, ← idxB_any, idxB_miss h]; decide
theorem any_true {α : Type} [Inhabited α] {g : α → Bool} {l : List α} {i : Nat} (hi : i < l.length) (h : g (l.getD i default) = true) : l.any g = true := List.any_eq_true.2 ⟨_, getD_mem hi, h⟩
theorem ordE_bd {hs : List V2} (h : ordE hs = 0) : ∀ v ∈ hs, Bd 600000 v := by
  unfold ordE at h
  rw [unlessE_z (by decide), Bool.not_eq_true', List.any_eq_false] at h
  intro v hv
  exact badO_bd (by simpa using h v hv)
theorem sixth_bd {M : Int} {v : V2} (h : Bd M v) : -M ≤ sixth v ∧ sixth v ≤ M := by
  obtain ⟨⟨a, b⟩, c, d⟩ := h
  unfold sixth
  have h1 := Int.mul_tdiv_add_tmod v.1 6
  have h2 : v.1.tmod 6 < 6 := Int.tmod_lt_of_pos _ (by decide)
  have h3 : -6 < v.1.tmod 6 := Int.lt_tmod_of_pos _ (by decide)
  have h4 : 0 ≤ v.1 → 0 ≤ v.1.tdiv 6 := fun h => Int.tdiv_nonneg h (by decide)
  have h5 : v.1 ≤ 0 → v.1.tdiv 6 ≤ 0 := fun h => by
    have := Int.tdiv_nonneg (a := -v.1) (b := 6) (by omega) (by decide)
    rw [Int.neg_tdiv] at this; omega
  by_cases h0 : 0 ≤ v.1
  · have := h4 h0; omega
  · have := h5 (by omega); omega
theorem trW_bd {hs : List V2} (h : ∀ v ∈ hs, Bd 600000 v) (w : Int) {j : Nat} (hj : j < 6) : Bd 7200000 ((trW hs w).getD j default) := by
  rw [trW_at _ _ hj]
  exact (trS_bd h w j 6).mono (by decide)
set_option maxRecDepth 100000 in
set_option maxHeartbeats 4000000 in
theorem samplesOf_ok (hs : List V2) (hx : hs.length = 6) : FnOk Tryd.prog 12 [.agg (hs.map tE).flatten] (fun q => q = .tuple [.agg ((smpV hs).map iE).flatten, nA (smpF hs)]) := by
  refine fnOk_of (fn := Tryd.f12) 60 (by kernel_rfl) rfl (by kernel_rfl) (Nat.le_of_ble_eq_true rfl) ?_
  intro e_0 m_0 hA hm_0
  have s0_0 : evA e_0 (.tmp 0) = _ := hA 0 _ rfl
  have ml_0 : m_0.length = 0 := by rw [hm_0]; rfl
  clear hA hm_0
  refine aw_seq ?_
  refine aw_text (by kernel_rfl) ?_
  refine al_stm (st_box s0_0 rfl ml_0) trivial rfl (fun m_1 hm_1 => ?_)
  have mo0_1 := m_push hm_1 ml_0
  (try simp only [packA_t, packA_f, iE, bE, setAt, cellsA, Value.cells, map_vc, map_vn, Nat.reduceAdd, qS, tE, set_tE, set_iE] at mo0_1)
  have ml_1 := m_push_l hm_1 ml_0
  have ml_1 : _ = 1 := ml_1
  clear hm_1
  refine al_stm (st_alloc h7_az22 rfl ml_1) trivial rfl (fun m_2 hm_2 => ?_)
  have mo1_2 : m_2[1]? = some (Ob.box 22 ((i6.map iE).flatten)) := m_push hm_2 ml_1
  have mo0_2 := m_push_o hm_2 mo0_1
  have ml_2 := m_push_l hm_2 ml_1
  have ml_2 : _ = 2 := ml_2
  clear hm_2 mo0_1
  refine al_ro' (ro_assign ev_c) trivial rfl ?_
  refine al_end (fun e_3 he_3 => ?_)
  have s1_3 := ef 1 he_3 (u2 rfl up_h)
  have s2_3 := ef 2 he_3 (up_m rfl up_h)
  clear he_3 s0_0
  refine then_n ?_
  refine aw_seq ?_
  refine aw_text (by kernel_rfl) ?_
  refine al_stm (st_alloc h7_az97 rfl ml_2) trivial rfl (fun m_4 hm_4 => ?_)
  have mo2_4 : m_4[2]? = some (Ob.box 97 ((z6.map tE).flatten)) := m_push hm_4 ml_2
  have mo1_4 := m_push_o hm_4 mo1_2
  have mo0_4 := m_push_o hm_4 mo0_2
  have ml_4 := m_push_l hm_4 ml_2
  have ml_4 : _ = 3 := ml_4
  clear hm_4 mo1_2 mo0_2
  refine al_end (fun e_5 he_5 => ?_)
  have s1_5 := ef 1 he_5 (up_m rfl s1_3)
  have s2_5 := ef 2 he_5 (up_m rfl s2_3)
  have s4_5 := ef 4 he_5 up_h
  clear he_5 s1_3 s2_3
  refine then_n ?_
  refine aw_seq ?_
  refine aw_seq ?_
  refine aw_text (by kernel_rfl) ?_
  refine al_ro' (ro_ld_all h7_ty25 mo0_4 s1_5 (by first | rfl | (rw [flat_map_len (k := 2)] <;> first | omega | (intro _; rfl)))) trivial rfl ?_
  refine al_ro' (ro_move ev_c) trivial rfl ?_
  refine al_end (fun e_6 he_6 => ?_)
  have s2_6 := ef 2 he_6 (u2 rfl s2_5)
  have s4_6 := ef 4 he_6 (u2 rfl s4_5)
  have s11_6 := ef 11 he_6 (up_m rfl up_h)
  have s12_6 := ef 12 he_6 up_h
  clear he_6 s1_5 s2_5 s4_5
  refine then_n ?_
  refine aw_block ?_
  refine aw_loop (S := (Int × List V2)) (fun s e mem => match s with | ⟨k, ys⟩ => (evA e (.tmp 12) = .v (.int .i64 k)) ∧ (evA e (.tmp 2) = evA e_6 (.tmp 2)) ∧ (evA e (.tmp 4) = evA e_6 (.tmp 4)) ∧ (evA e (.tmp 11) = evA e_6 (.tmp 11)) ∧ (mem[2]? = some (.box 97 (ys.map tE).flatten)) ∧ (mem[1]? = m_4[1]?) ∧ (mem[0]? = m_4[0]?) ∧ (∃ n, mem.length = n ∧ 3 ≤ n) ∧ ((0 ≤ k ∧ k ≤ 6 ∧ ys.length = 6 ∧ (∀ j : Nat, j < k.toNat → badO (hs.getD j default) = false) ∧ ∀ j : Nat, j < 6 → ys.getD j default = if j < k.toNat then hs.getD j default else (0, 0)))) (fun s => match s with | ⟨k, ys⟩ => (6 - k).toNat) ⟨_, z6⟩ ⟨s12_6, rfl, rfl, rfl, mo2_4, rfl, rfl, ⟨_, ml_4, Nat.le_refl _⟩, ?_⟩ ?_
  · (exact ⟨by omega, by omega, rfl, fun j hj => absurd hj (by omega), fun j hj => by rw [if_neg (by omega)]; exact getD_z6 _ j hj⟩)
  · rintro ⟨k, ys⟩ e_7 m_7 ⟨s12_7, k2_7, k4_7, k11_7, mo2_7, mk1_7, mk0_7, ⟨n_7, ml_7, hn_7⟩, hinv⟩
    have s2_7 := k2_7.trans s2_6
    have s4_7 := k4_7.trans s4_6
    have s11_7 := k11_7.trans s11_6
    have mo1_7 := mk1_7.trans mo1_4
    have mo0_7 := mk0_7.trans mo0_4
    (obtain ⟨p1, p2, p3, p5, p4⟩ := hinv)
    refine aw_seq ?_
    refine aw_text (by kernel_rfl) ?_
    refine al_ro' (ro_lss s12_7 ev_c) trivial rfl ?_
    refine al_end (fun e_8 he_8 => ?_)
    have s2_8 := ef 2 he_8 (up_m rfl s2_7)
    have s4_8 := ef 4 he_8 (up_m rfl s4_7)
    have s11_8 := ef 11 he_8 (up_m rfl s11_7)
    have s12_8 := ef 12 he_8 (up_m rfl s12_7)
    have s13_8 := ef 13 he_8 up_h
    clear he_8 s11_7 s12_7 s2_7 s4_7
    refine then_n ?_
    refine aw_seq ?_
    refine aw_case s13_8 (fun hq_9 => ?_) (fun hq_9 => ?_)
    · (first | replace hq_9 := bnt hq_9 | replace hq_9 := bnf hq_9 | replace hq_9 := bt hq_9 | replace hq_9 := bf hq_9 | replace hq_9 := bt' hq_9 | replace hq_9 := bf' hq_9 | skip)
      first
      | (cases hq_9; done) | (exfalso; omega)
      | (
         refine aw_skip ?_
         refine then_n ?_
         refine aw_seq ?_
         refine aw_block ?_
         refine aw_seq ?_
         refine aw_text (by kernel_rfl) ?_
         refine al_ro' (ro_move s12_8) trivial rfl ?_
         refine al_ro' (ro_eq (ro_aidx h7_at25 rfl (up_m rfl s11_8) (up_m rfl s12_8) rfl (by rintro l hl; obtain ⟨_, _, rfl⟩ := List.mem_map.1 hl; rfl) (by first | decide | omega | (simp <;> omega)) (by first | omega | (simp only [lnS] <;> omega) | (simp <;> omega)) (by first | (refine idx_map ?_; first | omega | (simp only [lnS]; omega)) | (refine idx_mapI ?_; first | omega | (simp only [lnS]; omega)) | (refine idx_mapN ?_; first | omega | (simp only [lnS]; omega)) | rfl)) (by first | (simp only [packA_t, packA_f, iE, bE, setAt, cellsA, Value.cells, map_vc, map_vn, Nat.reduceAdd, qS, tE, set_tE, set_iE] <;> rfl) | rfl)) trivial rfl ?_
         refine al_stm (st_alloc h7_az24 rfl ml_7) trivial rfl (fun m_10 hm_10 => ?_)
         have mon_7_10 := m_push hm_10 ml_7
         (try simp only [packA_t, packA_f, iE, bE, setAt, cellsA, Value.cells, map_vc, map_vn, Nat.reduceAdd, qS, tE, set_tE, set_iE] at mon_7_10)
         have mo2_10 := m_push_o hm_10 mo2_7
         have mo1_10 := m_push_o hm_10 mo1_7
         have mo0_10 := m_push_o hm_10 mo0_7
         have ml_10 := m_push_l hm_10 ml_7
         clear hm_10 mo2_7 mo1_7 mo0_7
         refine al_ro' (ro_assign (u2 rfl up_h)) trivial rfl ?_
         refine al_stm (st_store (up_m rfl up_h) (u2 rfl up_h) rfl rfl mon_7_10 h7_sz24 rfl (by first | exact Nat.le_of_ble_eq_true rfl | omega | (simp only [lnS] <;> omega) | (simp <;> omega))) trivial rfl (fun m_11 hm_11 => ?_)
         have mon_7_11 := m_set hm_11 mon_7_10
         (try simp only [packA_t, packA_f, iE, bE, setAt, cellsA, Value.cells, map_vc, map_vn, Nat.reduceAdd, qS, tE, set_tE, set_iE] at mon_7_11)
         have mo2_11 := m_set_o hm_11 mo2_10 (by omega)
         have mo1_11 := m_set_o hm_11 mo1_10 (by omega)
         have mo0_11 := m_set_o hm_11 mo0_10 (by omega)
         have ml_11 := m_set_l hm_11 ml_10
         clear hm_11 mon_7_10 mo2_10 mo1_10 mo0_10
         refine al_end (fun e_12 he_12 => ?_)
         have s2_12 := ef 2 he_12 (up_n (u4 rfl s2_8))
         have s4_12 := ef 4 he_12 (up_n (u4 rfl s4_8))
         have s5_12 := ef 5 he_12 (up_n up_h)
         have s6_12 := ef 6 he_12 (up_n (up_m rfl up_h))
         have s11_12 := ef 11 he_12 (up_n (u4 rfl s11_8))
         have s12_12 := ef 12 he_12 (up_n (u4 rfl s12_8))
         clear he_12 s11_8 s12_8 s13_8 s2_8 s4_8
         refine then_n ?_
         refine aw_seq ?_
         refine aw_seq ?_
         refine aw_cut (fun e mem => (evA e (.tmp 25) = .v (.bool (badO (hs.getD k.toNat default)))) ∧ (evA e (.tmp 2) = evA e_12 (.tmp 2)) ∧ (evA e (.tmp 4) = evA e_12 (.tmp 4)) ∧ (evA e (.tmp 5) = evA e_12 (.tmp 5)) ∧ (evA e (.tmp 6) = evA e_12 (.tmp 6)) ∧ (evA e (.tmp 11) = evA e_12 (.tmp 11)) ∧ (evA e (.tmp 12) = evA e_12 (.tmp 12)) ∧ m_11 = mem) ?_ ?_
         ·
           refine aw_text (by kernel_rfl) ?_
           refine al_ro' (ro_fld_ptr h7_fl24_0 rfl s6_12) trivial rfl ?_
           refine al_ro' (ro_eq (ro_ld_ptr h7_ty3 rfl mon_7_11 up_h (by first | exact Nat.le_of_ble_eq_true rfl | omega | (simp only [lnS] <;> omega) | (simp <;> omega))) (by first | (simp only [packA_t, packA_f, iE, bE, setAt, cellsA, Value.cells, map_vc, map_vn, Nat.reduceAdd, qS, tE, set_tE, set_iE] <;> rfl) | rfl)) trivial rfl ?_
           refine al_ro' (ro_call (evL_cons up_h (evL_cons ev_c evL_nil)) (by first | rfl | (simp only [roO.roL, roO, Bool.and_true, Bool.true_and]; (apply roL_flat; intro _; rfl))) (sSmall_ok _ _ (by decide)) h7_hcf51) trivial rfl ?_
           refine al_ro' (ro_not up_h) trivial rfl ?_
           refine al_ro' (ro_move up_h) trivial rfl ?_
           refine al_case up_h (fun hb_14 hq_14 => ?_) (fun hb_14 hq_14 => ?_)
           · (first | replace hq_14 := bnt hq_14 | replace hq_14 := bnf hq_14 | replace hq_14 := bt hq_14 | replace hq_14 := bf hq_14 | replace hq_14 := bt' hq_14 | replace hq_14 := bf' hq_14 | skip)
             first
             | (cases hq_14; done) | (exfalso; omega)
             | (
                refine al_skip' ⟨_, rfl, .inl hb_14⟩ rfl ?_
                refine al_skip' ⟨_, rfl, .inl (up_m rfl hb_14)⟩ rfl ?_
                refine al_skip' ⟨_, rfl, .inl (u2 rfl hb_14)⟩ rfl ?_
                refine al_skip' ⟨_, rfl, .inl (up_m rfl (u2 rfl hb_14))⟩ rfl ?_
                refine al_ro' (ro_pickT (u4 rfl hb_14) ev_c) trivial rfl ?_
                refine al_end (fun e_15 he_15 => ?_)
                have s2_15 := ef 2 he_15 (u2 rfl (u8 rfl s2_12))
                have s4_15 := ef 4 he_15 (u2 rfl (u8 rfl s4_12))
                have s5_15 := ef 5 he_15 (u2 rfl (u8 rfl s5_12))
                have s6_15 := ef 6 he_15 (u2 rfl (u8 rfl s6_12))
                have s11_15 := ef 11 he_15 (u2 rfl (u8 rfl s11_12))
                have s12_15 := ef 12 he_15 (u2 rfl (u8 rfl s12_12))
                have s25_15 := ef 25 he_15 up_h
                clear he_15
                refine then_n ⟨(s25_15).trans (by (refine avb ?_; simp_all [badO])), (s2_15).trans (s2_12).symm, (s4_15).trans (s4_12).symm, (s5_15).trans (s5_12).symm, (s6_15).trans (s6_12).symm, (s11_15).trans (s11_12).symm, (s12_15).trans (s12_12).symm, rfl⟩)
           · (first | replace hq_14 := bnt hq_14 | replace hq_14 := bnf hq_14 | replace hq_14 := bt hq_14 | replace hq_14 := bf hq_14 | replace hq_14 := bt' hq_14 | replace hq_14 := bf' hq_14 | skip)
             first
             | (cases hq_14; done) | (exfalso; omega)
             | (
                refine al_ro' (ro_fld_ptr h7_fl24_1 rfl (up_m rfl (u4 rfl s6_12))) ⟨_, rfl, hb_14⟩ rfl ?_
                refine al_ro' (ro_eq (ro_ld_ptr h7_ty3 rfl mon_7_11 up_h (by first | exact Nat.le_of_ble_eq_true rfl | omega | (simp only [lnS] <;> omega) | (simp <;> omega))) (by first | (simp only [packA_t, packA_f, iE, bE, setAt, cellsA, Value.cells, map_vc, map_vn, Nat.reduceAdd, qS, tE, set_tE, set_iE] <;> rfl) | rfl)) ⟨_, rfl, (up_m rfl hb_14)⟩ rfl ?_
                refine al_ro' (ro_call (evL_cons up_h (evL_cons ev_c evL_nil)) (by first | rfl | (simp only [roO.roL, roO, Bool.and_true, Bool.true_and]; (apply roL_flat; intro _; rfl))) (sSmall_ok _ _ (by decide)) h7_hcf51) ⟨_, rfl, (u2 rfl hb_14)⟩ rfl ?_
                refine al_ro' (ro_not up_h) ⟨_, rfl, (up_m rfl (u2 rfl hb_14))⟩ rfl ?_
                refine al_ro' (ro_pickF (u4 rfl hb_14) up_h) trivial rfl ?_
                refine al_end (fun e_16 he_16 => ?_)
                have s2_16 := ef 2 he_16 (u2 rfl (u8 rfl s2_12))
                have s4_16 := ef 4 he_16 (u2 rfl (u8 rfl s4_12))
                have s5_16 := ef 5 he_16 (u2 rfl (u8 rfl s5_12))
                have s6_16 := ef 6 he_16 (u2 rfl (u8 rfl s6_12))
                have s11_16 := ef 11 he_16 (u2 rfl (u8 rfl s11_12))
                have s12_16 := ef 12 he_16 (u2 rfl (u8 rfl s12_12))
                have s25_16 := ef 25 he_16 up_h
                clear he_16
                refine then_n ⟨(s25_16).trans (by (refine avb ?_; simp_all [badO])), (s2_16).trans (s2_12).symm, (s4_16).trans (s4_12).symm, (s5_16).trans (s5_12).symm, (s6_16).trans (s6_12).symm, (s11_16).trans (s11_12).symm, (s12_16).trans (s12_12).symm, rfl⟩)
         · rintro e_13 _ ⟨s25_13, k2_13, k4_13, k5_13, k6_13, k11_13, k12_13, rfl⟩
           have s2_13 := k2_13.trans s2_12
           have s4_13 := k4_13.trans s4_12
           have s5_13 := k5_13.trans s5_12
           have s6_13 := k6_13.trans s6_12
           have s11_13 := k11_13.trans s11_12
           have s12_13 := k12_13.trans s12_12
           refine aw_case s25_13 (fun hq_17 => ?_) (fun hq_17 => ?_)
           · (first | replace hq_17 := bnt hq_17 | replace hq_17 := bnf hq_17 | replace hq_17 := bt hq_17 | replace hq_17 := bf hq_17 | replace hq_17 := bt' hq_17 | replace hq_17 := bf' hq_17 | skip)
             first
             | (cases hq_17; done) | (exfalso; omega)
             | (
                refine aw_seq ?_
                refine aw_text (by kernel_rfl) ?_
                refine al_ro' (ro_eq (ro_buildA evP_nil h7_bz22 h7_bu22 h7_bp22 rfl) (show _ = AV.agg ((i6.map iE).flatten) from rfl)) trivial rfl ?_
                refine al_stm (st_store_all (up_m rfl s2_13) up_h rfl (by first | rfl | (apply oneL_flat; intro _; rfl)) mo1_11 h7_sz22 (by first | rfl | (rw [flat_map_len (k := 1)] <;> first | omega | (intro _; rfl))) (by first | rfl | (rw [flat_map_len (k := 1)] <;> first | omega | (intro _; rfl)))) trivial rfl (fun m_18 hm_18 => ?_)
                have mo1_18 := m_set hm_18 mo1_11
                (try simp only [packA_t, packA_f, iE, bE, setAt, cellsA, Value.cells, map_vc, map_vn, Nat.reduceAdd, qS, tE, set_tE, set_iE] at mo1_18)
                have mon_7_18 := m_set_o hm_18 mon_7_11 (by omega)
                have mo2_18 := m_set_o hm_18 mo2_11 (by decide)
                have mo0_18 := m_set_o hm_18 mo0_11 (by decide)
                have ml_18 := m_set_l hm_18 ml_11
                clear hm_18 mon_7_11 mo2_11 mo1_11 mo0_11
                refine al_ro' (ro_assign ev_c) trivial rfl ?_
                refine al_end (fun e_19 he_19 => ?_)
                have s2_19 := ef 2 he_19 (up_m rfl (up_n (up_m rfl s2_13)))
                have s3_19 := ef 3 he_19 up_h
                clear he_19 s11_13 s12_13 s25_13 s2_13 s4_13 s5_13 s6_13
                refine then_n ?_
                refine aw_ret ?_
                refine then_r ?_
                refine block_r ?_
                refine then_r ?_
                refine then_r ?_
                refine block_r ?_
                refine then_r ?_
                refine ret2 (.inr rfl) (by kernel_rfl) (resV_cell s2_19 mo1_18 h7_ty22 (by first | exact Nat.le_of_ble_eq_true rfl | (rw [flat_map_len (k := 1)] <;> first | omega | (intro _; rfl))) (by simp)) (resV_tmp s3_19) (vw_r (.ro _ (by first | rfl | (apply ro_aggF; intro _; rfl) | (apply roL_flat; intro _; rfl)))) (.ro _ rfl) ?_
                clear s2_19 s3_19 mo1_18 mon_7_18 mo2_18 mo0_18 ml_18
                (have h1 : hs.any badO = true := any_true (i := k.toNat) (by omega) (by assumption); have h2 : ordE hs = 2 := (by unfold ordE; rw [h1]; rfl); have h3 : smpF hs = 2 := (by unfold smpF; rw [h2]; rfl); rw [smpV, h3]; rfl))
           · (first | replace hq_17 := bnt hq_17 | replace hq_17 := bnf hq_17 | replace hq_17 := bt hq_17 | replace hq_17 := bf hq_17 | replace hq_17 := bt' hq_17 | replace hq_17 := bf' hq_17 | skip)
             first
             | (cases hq_17; done) | (exfalso; omega)
             | (
                refine aw_skip ?_
                refine then_n ?_
                refine aw_text (by kernel_rfl) ?_
                refine al_ro' (ro_move s5_13) trivial rfl ?_
                refine al_ro' (ro_eq (ro_ld_ptr h7_ty24 rfl mon_7_11 (up_m rfl s6_13) (by first | exact Nat.le_of_ble_eq_true rfl | omega | (simp only [lnS] <;> omega) | (simp <;> omega))) (by first | (simp only [packA_t, packA_f, iE, bE, setAt, cellsA, Value.cells, map_vc, map_vn, Nat.reduceAdd, qS, tE, set_tE, set_iE] <;> rfl) | rfl)) trivial rfl ?_
                refine al_ro' (ro_ixaD h7_ar97 (u2 rfl s4_13) (up_m rfl up_h) (by first | decide | omega | (simp <;> omega)) (by first | omega | (simp only [lnS] <;> omega) | (simp <;> omega))) trivial rfl ?_
                refine al_stm (st_store_ael up_h (up_m rfl up_h) rfl rfl mo2_11 rfl (by rintro l hl; obtain ⟨_, _, rfl⟩ := List.mem_map.1 hl; rfl) h7_sz96 rfl rfl (by first | omega | (simp only [lnS] <;> omega) | (simp <;> omega))) trivial rfl (fun m_20 hm_20 => ?_)
                have mo2_20 := m_set hm_20 mo2_11
                (try simp only [packA_t, packA_f, iE, bE, setAt, cellsA, Value.cells, map_vc, map_vn, Nat.reduceAdd, qS, tE, set_tE, set_iE] at mo2_20)
                have mon_7_20 := m_set_o hm_20 mon_7_11 (by omega)
                have mo1_20 := m_set_o hm_20 mo1_11 (by decide)
                have mo0_20 := m_set_o hm_20 mo0_11 (by decide)
                have ml_20 := m_set_l hm_20 ml_11
                clear hm_20 mon_7_11 mo2_11 mo1_11 mo0_11
                refine al_end (fun e_21 he_21 => ?_)
                have s2_21 := ef 2 he_21 (up_n (up_m rfl (u2 rfl s2_13)))
                have s4_21 := ef 4 he_21 (up_n (up_m rfl (u2 rfl s4_13)))
                have s11_21 := ef 11 he_21 (up_n (up_m rfl (u2 rfl s11_13)))
                have s12_21 := ef 12 he_21 (up_n (up_m rfl (u2 rfl s12_13)))
                clear he_21 s11_13 s12_13 s25_13 s2_13 s4_13 s5_13 s6_13
                refine block_n ?_
                refine then_n ?_
                refine aw_text (by kernel_rfl) ?_
                first | (refine al_ro' (ro_add' s12_21 ev_c ?_) trivial rfl ?_; · (unfold In64; omega)) | refine al_ro' (ro_add s12_21 ev_c) trivial rfl ?_
                refine al_ro' (ro_move up_h) trivial rfl ?_
                refine al_end (fun e_22 he_22 => ?_)
                have s2_22 := ef 2 he_22 (u2 rfl s2_21)
                have s4_22 := ef 4 he_22 (u2 rfl s4_21)
                have s11_22 := ef 11 he_22 (u2 rfl s11_21)
                have s12_22 := ef 12 he_22 up_h
                clear he_22 s11_21 s12_21 s2_21 s4_21
                refine then_n ?_
                refine ⟨⟨_, _⟩, ⟨s12_22, (s2_22.trans s2_6.symm), (s4_22.trans s4_6.symm), (s11_22.trans s11_6.symm), mo2_20, (mo1_20.trans mo1_4.symm), (mo0_20.trans mo0_4.symm), ⟨_, ml_20, by omega⟩, ?_⟩, ?_⟩
                · (refine ⟨by omega, by omega, by simp [p3], fun j hj => ?_, fun j hj => ?_⟩; (by_cases hji : j < k.toNat; (exact p5 j hji); (rw [show j = k.toNat by omega]; assumption)); (rw [getD_setV (by omega)]; by_cases hjk : j = k.toNat; (rw [if_pos hjk, if_pos (by omega), hjk]); (rw [if_neg hjk, p4 j hj]; by_cases hjl : j < k.toNat; (rw [if_pos hjl, if_pos (by omega)]); (rw [if_neg hjl, if_neg (by omega)]))))
                · ((try dsimp only); omega)))
    · (first | replace hq_9 := bnt hq_9 | replace hq_9 := bnf hq_9 | replace hq_9 := bt hq_9 | replace hq_9 := bf hq_9 | replace hq_9 := bt' hq_9 | replace hq_9 := bf' hq_9 | skip)
      first
      | (cases hq_9; done) | (exfalso; omega)
      | (
         (have hye : ys = hs := list_ext' (by omega) (fun j hj => by rw [p4 j (by omega), if_pos (by omega)]); have hne : hs.any badO = false := any_false (fun j hj => p5 j (by omega)); have hoe : ordE hs = 0 := (by unfold ordE; rw [hne]; rfl); have hyb : ∀ v ∈ ys, Bd 600000 v := (by rw [hye]; exact ordE_bd hoe); have htl := trW_len ys 1)
         refine aw_exit ?_
         refine then_x ?_
         refine then_x ?_
         refine block_hit ?_
         refine then_n ?_
         refine aw_seq ?_
         refine aw_text (by kernel_rfl) ?_
         refine al_stm (st_alloc h7_az22 rfl ml_7) trivial rfl (fun m_23 hm_23 => ?_)
         have mon_7_23 : m_23[n_7]? = some (Ob.box 22 ((i6.map iE).flatten)) := m_push hm_23 ml_7
         have mo2_23 := m_push_o hm_23 mo2_7
         have mo1_23 := m_push_o hm_23 mo1_7
         have mo0_23 := m_push_o hm_23 mo0_7
         have ml_23 := m_push_l hm_23 ml_7
         clear hm_23 mo2_7 mo1_7 mo0_7
         refine al_end (fun e_24 he_24 => ?_)
         have s2_24 := ef 2 he_24 (up_m rfl s2_8)
         have s4_24 := ef 4 he_24 (up_m rfl s4_8)
         have s7_24 := ef 7 he_24 up_h
         clear he_24 s11_8 s12_8 s13_8 s2_8 s4_8
         refine then_n ?_
         refine aw_seq ?_
         refine aw_seq ?_
         refine aw_text (by kernel_rfl) ?_
         refine al_ro' (ro_ld_all h7_ty97 mo2_23 s4_24 (by first | rfl | (rw [flat_map_len (k := 2)] <;> first | omega | (intro _; rfl)))) trivial rfl ?_
         refine al_ro' (ro_call (evL_cons up_h (evL_cons ev_c evL_nil)) (by first | rfl | (simp only [roO.roL, roO, Bool.and_true, Bool.true_and]; (apply roL_flat; intro _; rfl))) (transform_ok ys (by omega) hyb 1 (by decide)) h7_hcf50) trivial rfl ?_
         refine al_ro' (ro_move ev_c) trivial rfl ?_
         refine al_end (fun e_25 he_25 => ?_)
         have s2_25 := ef 2 he_25 (up_m rfl (u2 rfl s2_24))
         have s7_25 := ef 7 he_25 (up_m rfl (u2 rfl s7_24))
         have s32_25 := ef 32 he_25 (up_m rfl up_h)
         have s33_25 := ef 33 he_25 up_h
         clear he_25 s2_24 s4_24 s7_24
         refine then_n ?_
         refine aw_block ?_
         refine aw_loop (S := (Int × List Int)) (fun s e mem => match s with | ⟨n, zs⟩ => (evA e (.tmp 33) = .v (.int .i64 n)) ∧ (evA e (.tmp 2) = evA e_25 (.tmp 2)) ∧ (evA e (.tmp 7) = evA e_25 (.tmp 7)) ∧ (evA e (.tmp 32) = evA e_25 (.tmp 32)) ∧ (mem[n_7]? = some (.box 22 (zs.map iE).flatten)) ∧ (mem[2]? = m_23[2]?) ∧ (mem[1]? = m_23[1]?) ∧ (mem[0]? = m_23[0]?) ∧ (∃ n, mem.length = n ∧ n_7 + 1 ≤ n) ∧ ((0 ≤ n ∧ n ≤ 6 ∧ zs.length = 6 ∧ (∀ j : Nat, j < n.toNat → badS ((trW ys 1).getD j default) = false) ∧ ∀ j : Nat, j < 6 → zs.getD j default = if j < n.toNat then sixth ((trW ys 1).getD j default) else 0))) (fun s => match s with | ⟨n, zs⟩ => (6 - n).toNat) ⟨_, i6⟩ ⟨s33_25, rfl, rfl, rfl, mon_7_23, rfl, rfl, rfl, ⟨_, ml_23, Nat.le_refl _⟩, ?_⟩ ?_
         · (exact ⟨by omega, by omega, rfl, fun j hj => absurd hj (by omega), fun j hj => by rw [if_neg (by omega)]; exact getD_z6 _ j hj⟩)
         · rintro ⟨n, zs⟩ e_26 m_26 ⟨s33_26, k2_26, k7_26, k32_26, mon_7_26, mk2_26, mk1_26, mk0_26, ⟨n_26, ml_26, hn_26⟩, hinv⟩
           have s2_26 := k2_26.trans s2_25
           have s7_26 := k7_26.trans s7_25
           have s32_26 := k32_26.trans s32_25
           have mo2_26 := mk2_26.trans mo2_23
           have mo1_26 := mk1_26.trans mo1_23
           have mo0_26 := mk0_26.trans mo0_23
           (obtain ⟨r1, r2, r3, r5, r4⟩ := hinv)
           refine aw_seq ?_
           refine aw_text (by kernel_rfl) ?_
           refine al_ro' (ro_lss s33_26 ev_c) trivial rfl ?_
           refine al_end (fun e_27 he_27 => ?_)
           have s2_27 := ef 2 he_27 (up_m rfl s2_26)
           have s7_27 := ef 7 he_27 (up_m rfl s7_26)
           have s32_27 := ef 32 he_27 (up_m rfl s32_26)
           have s33_27 := ef 33 he_27 (up_m rfl s33_26)
           have s34_27 := ef 34 he_27 up_h
           clear he_27 s2_26 s32_26 s33_26 s7_26
           refine then_n ?_
           refine aw_seq ?_
           refine aw_case s34_27 (fun hq_28 => ?_) (fun hq_28 => ?_)
           · (first | replace hq_28 := bnt hq_28 | replace hq_28 := bnf hq_28 | replace hq_28 := bt hq_28 | replace hq_28 := bf hq_28 | replace hq_28 := bt' hq_28 | replace hq_28 := bf' hq_28 | skip)
             first
             | (cases hq_28; done) | (exfalso; omega)
             | (
                refine aw_skip ?_
                refine then_n ?_
                refine aw_seq ?_
                refine aw_block ?_
                refine aw_seq ?_
                refine aw_text (by kernel_rfl) ?_
                refine al_ro' (ro_move s33_27) trivial rfl ?_
                refine al_ro' (ro_eq (ro_aidx h7_at97 rfl (up_m rfl s32_27) (up_m rfl s33_27) rfl (by rintro l hl; obtain ⟨_, _, rfl⟩ := List.mem_map.1 hl; rfl) (by first | decide | omega | (simp <;> omega)) (by first | omega | (simp only [lnS] <;> omega) | (simp <;> omega)) (by first | (refine idx_map ?_; first | omega | (simp only [lnS]; omega)) | (refine idx_mapI ?_; first | omega | (simp only [lnS]; omega)) | (refine idx_mapN ?_; first | omega | (simp only [lnS]; omega)) | rfl)) (by first | (simp only [packA_t, packA_f, iE, bE, setAt, cellsA, Value.cells, map_vc, map_vn, Nat.reduceAdd, qS, tE, set_tE, set_iE] <;> rfl) | rfl)) trivial rfl ?_
                refine al_stm (st_alloc h7_az96 rfl ml_26) trivial rfl (fun m_29 hm_29 => ?_)
                have mon_26_29 := m_push hm_29 ml_26
                (try simp only [packA_t, packA_f, iE, bE, setAt, cellsA, Value.cells, map_vc, map_vn, Nat.reduceAdd, qS, tE, set_tE, set_iE] at mon_26_29)
                have mon_7_29 := m_push_o hm_29 mon_7_26
                have mo2_29 := m_push_o hm_29 mo2_26
                have mo1_29 := m_push_o hm_29 mo1_26
                have mo0_29 := m_push_o hm_29 mo0_26
                have ml_29 := m_push_l hm_29 ml_26
                clear hm_29 mon_7_26 mo2_26 mo1_26 mo0_26
                refine al_ro' (ro_assign (u2 rfl up_h)) trivial rfl ?_
                refine al_stm (st_store (up_m rfl up_h) (u2 rfl up_h) rfl rfl mon_26_29 h7_sz96 rfl (by first | exact Nat.le_of_ble_eq_true rfl | omega | (simp only [lnS] <;> omega) | (simp <;> omega))) trivial rfl (fun m_30 hm_30 => ?_)
                have mon_26_30 := m_set hm_30 mon_26_29
                (try simp only [packA_t, packA_f, iE, bE, setAt, cellsA, Value.cells, map_vc, map_vn, Nat.reduceAdd, qS, tE, set_tE, set_iE] at mon_26_30)
                have mon_7_30 := m_set_o hm_30 mon_7_29 (by omega)
                have mo2_30 := m_set_o hm_30 mo2_29 (by omega)
                have mo1_30 := m_set_o hm_30 mo1_29 (by omega)
                have mo0_30 := m_set_o hm_30 mo0_29 (by omega)
                have ml_30 := m_set_l hm_30 ml_29
                clear hm_30 mon_26_29 mon_7_29 mo2_29 mo1_29 mo0_29
                refine al_end (fun e_31 he_31 => ?_)
                have s2_31 := ef 2 he_31 (up_n (u4 rfl s2_27))
                have s7_31 := ef 7 he_31 (up_n (u4 rfl s7_27))
                have s8_31 := ef 8 he_31 (up_n up_h)
                have s9_31 := ef 9 he_31 (up_n (up_m rfl up_h))
                have s32_31 := ef 32 he_31 (up_n (u4 rfl s32_27))
                have s33_31 := ef 33 he_31 (up_n (u4 rfl s33_27))
                clear he_31 s2_27 s32_27 s33_27 s34_27 s7_27
                refine then_n ?_
                refine aw_seq ?_
                refine aw_seq ?_
                refine aw_cut (fun e mem => (evA e (.tmp 45) = .v (.bool (badS ((trW ys 1).getD n.toNat default)))) ∧ (evA e (.tmp 2) = evA e_31 (.tmp 2)) ∧ (evA e (.tmp 7) = evA e_31 (.tmp 7)) ∧ (evA e (.tmp 8) = evA e_31 (.tmp 8)) ∧ (evA e (.tmp 9) = evA e_31 (.tmp 9)) ∧ (evA e (.tmp 32) = evA e_31 (.tmp 32)) ∧ (evA e (.tmp 33) = evA e_31 (.tmp 33)) ∧ m_30 = mem) ?_ ?_
                ·
                  refine aw_text (by kernel_rfl) ?_
                  refine al_ro' (ro_fld_ptr h7_fl96_1 rfl s9_31) trivial rfl ?_
                  refine al_ro' (ro_eq (ro_ld_ptr h7_ty3 rfl mon_26_30 up_h (by first | exact Nat.le_of_ble_eq_true rfl | omega | (simp only [lnS] <;> omega) | (simp <;> omega))) (by first | (simp only [packA_t, packA_f, iE, bE, setAt, cellsA, Value.cells, map_vc, map_vn, Nat.reduceAdd, qS, tE, set_tE, set_iE] <;> rfl) | rfl)) trivial rfl ?_
                  refine al_ro' (ro_neq up_h ev_c) trivial rfl ?_
                  refine al_ro' (ro_move up_h) trivial rfl ?_
                  refine al_case up_h (fun hb_33 hq_33 => ?_) (fun hb_33 hq_33 => ?_)
                  · (first | replace hq_33 := bnt hq_33 | replace hq_33 := bnf hq_33 | replace hq_33 := bt hq_33 | replace hq_33 := bf hq_33 | replace hq_33 := bt' hq_33 | replace hq_33 := bf' hq_33 | skip)
                    first
                    | (cases hq_33; done) | (exfalso; omega)
                    | (
                       refine al_skip' ⟨_, rfl, .inl hb_33⟩ rfl ?_
                       refine al_skip' ⟨_, rfl, .inl (up_m rfl hb_33)⟩ rfl ?_
                       refine al_skip' ⟨_, rfl, .inl (u2 rfl hb_33)⟩ rfl ?_
                       refine al_skip' ⟨_, rfl, .inl (up_m rfl (u2 rfl hb_33))⟩ rfl ?_
                       refine al_ro' (ro_pickT (u4 rfl hb_33) ev_c) trivial rfl ?_
                       refine al_end (fun e_34 he_34 => ?_)
                       have s2_34 := ef 2 he_34 (up_m rfl (u8 rfl s2_31))
                       have s7_34 := ef 7 he_34 (up_m rfl (u8 rfl s7_31))
                       have s8_34 := ef 8 he_34 (up_m rfl (u8 rfl s8_31))
                       have s9_34 := ef 9 he_34 (up_m rfl (u8 rfl s9_31))
                       have s32_34 := ef 32 he_34 (up_m rfl (u8 rfl s32_31))
                       have s33_34 := ef 33 he_34 (up_m rfl (u8 rfl s33_31))
                       have s45_34 := ef 45 he_34 up_h
                       clear he_34
                       refine then_n ⟨(s45_34).trans (by (refine avb ?_; simp_all [badS])), (s2_34).trans (s2_31).symm, (s7_34).trans (s7_31).symm, (s8_34).trans (s8_31).symm, (s9_34).trans (s9_31).symm, (s32_34).trans (s32_31).symm, (s33_34).trans (s33_31).symm, rfl⟩)
                  · (first | replace hq_33 := bnt hq_33 | replace hq_33 := bnf hq_33 | replace hq_33 := bt hq_33 | replace hq_33 := bf hq_33 | replace hq_33 := bt' hq_33 | replace hq_33 := bf' hq_33 | skip)
                    first
                    | (cases hq_33; done) | (exfalso; omega)
                    | (
                       refine al_ro' (ro_fld_ptr h7_fl96_0 rfl (u4 rfl s9_31)) ⟨_, rfl, hb_33⟩ rfl ?_
                       refine al_ro' (ro_eq (ro_ld_ptr h7_ty3 rfl mon_26_30 up_h (by first | exact Nat.le_of_ble_eq_true rfl | omega | (simp only [lnS] <;> omega) | (simp <;> omega))) (by first | (simp only [packA_t, packA_f, iE, bE, setAt, cellsA, Value.cells, map_vc, map_vn, Nat.reduceAdd, qS, tE, set_tE, set_iE] <;> rfl) | rfl)) ⟨_, rfl, (up_m rfl hb_33)⟩ rfl ?_
                       refine al_ro' (ro_rem up_h ev_c (by first | decide | omega)) ⟨_, rfl, (u2 rfl hb_33)⟩ rfl ?_
                       refine al_ro' (ro_neq up_h ev_c) ⟨_, rfl, (up_m rfl (u2 rfl hb_33))⟩ rfl ?_
                       refine al_ro' (ro_pickF (u4 rfl hb_33) up_h) trivial rfl ?_
                       refine al_end (fun e_35 he_35 => ?_)
                       have s2_35 := ef 2 he_35 (up_m rfl (u8 rfl s2_31))
                       have s7_35 := ef 7 he_35 (up_m rfl (u8 rfl s7_31))
                       have s8_35 := ef 8 he_35 (up_m rfl (u8 rfl s8_31))
                       have s9_35 := ef 9 he_35 (up_m rfl (u8 rfl s9_31))
                       have s32_35 := ef 32 he_35 (up_m rfl (u8 rfl s32_31))
                       have s33_35 := ef 33 he_35 (up_m rfl (u8 rfl s33_31))
                       have s45_35 := ef 45 he_35 up_h
                       clear he_35
                       refine then_n ⟨(s45_35).trans (by (refine avb ?_; simp_all [badS])), (s2_35).trans (s2_31).symm, (s7_35).trans (s7_31).symm, (s8_35).trans (s8_31).symm, (s9_35).trans (s9_31).symm, (s32_35).trans (s32_31).symm, (s33_35).trans (s33_31).symm, rfl⟩)
                · rintro e_32 _ ⟨s45_32, k2_32, k7_32, k8_32, k9_32, k32_32, k33_32, rfl⟩
                  have s2_32 := k2_32.trans s2_31
                  have s7_32 := k7_32.trans s7_31
                  have s8_32 := k8_32.trans s8_31
                  have s9_32 := k9_32.trans s9_31
                  have s32_32 := k32_32.trans s32_31
                  have s33_32 := k33_32.trans s33_31
                  refine aw_case s45_32 (fun hq_36 => ?_) (fun hq_36 => ?_)
                  · (first | replace hq_36 := bnt hq_36 | replace hq_36 := bnf hq_36 | replace hq_36 := bt hq_36 | replace hq_36 := bf hq_36 | replace hq_36 := bt' hq_36 | replace hq_36 := bf' hq_36 | skip)
                    first
                    | (cases hq_36; done) | (exfalso; omega)
                    | (
                       refine aw_seq ?_
                       refine aw_text (by kernel_rfl) ?_
                       refine al_ro' (ro_eq (ro_buildA evP_nil h7_bz22 h7_bu22 h7_bp22 rfl) (show _ = AV.agg ((i6.map iE).flatten) from rfl)) trivial rfl ?_
                       refine al_stm (st_store_all (up_m rfl s2_32) up_h rfl (by first | rfl | (apply oneL_flat; intro _; rfl)) mo1_30 h7_sz22 (by first | rfl | (rw [flat_map_len (k := 1)] <;> first | omega | (intro _; rfl))) (by first | rfl | (rw [flat_map_len (k := 1)] <;> first | omega | (intro _; rfl)))) trivial rfl (fun m_37 hm_37 => ?_)
                       have mo1_37 := m_set hm_37 mo1_30
                       (try simp only [packA_t, packA_f, iE, bE, setAt, cellsA, Value.cells, map_vc, map_vn, Nat.reduceAdd, qS, tE, set_tE, set_iE] at mo1_37)
                       have mon_26_37 := m_set_o hm_37 mon_26_30 (by omega)
                       have mon_7_37 := m_set_o hm_37 mon_7_30 (by omega)
                       have mo2_37 := m_set_o hm_37 mo2_30 (by decide)
                       have mo0_37 := m_set_o hm_37 mo0_30 (by decide)
                       have ml_37 := m_set_l hm_37 ml_30
                       clear hm_37 mon_26_30 mon_7_30 mo2_30 mo1_30 mo0_30
                       refine al_ro' (ro_assign ev_c) trivial rfl ?_
                       refine al_end (fun e_38 he_38 => ?_)
                       have s2_38 := ef 2 he_38 (up_m rfl (up_n (up_m rfl s2_32)))
                       have s3_38 := ef 3 he_38 up_h
                       clear he_38 s2_32 s32_32 s33_32 s45_32 s7_32 s8_32 s9_32
                       refine then_n ?_
                       refine aw_ret ?_
                       refine then_r ?_
                       refine block_r ?_
                       refine then_r ?_
                       refine then_r ?_
                       refine block_r ?_
                       refine then_r ?_
                       refine ret2 (.inr rfl) (by kernel_rfl) (resV_cell s2_38 mo1_37 h7_ty22 (by first | exact Nat.le_of_ble_eq_true rfl | (rw [flat_map_len (k := 1)] <;> first | omega | (intro _; rfl))) (by simp)) (resV_tmp s3_38) (vw_r (.ro _ (by first | rfl | (apply ro_aggF; intro _; rfl) | (apply roL_flat; intro _; rfl)))) (.ro _ rfl) ?_
                       clear s2_38 s3_38 mo1_37 mon_26_37 mon_7_37 mo2_37 mo0_37 ml_37
                       (have h1 : (trW hs 1).any badS = true := any_true (i := n.toNat) (by rw [trW_len]; omega) (by rw [← hye]; assumption); have h3 : smpF hs = 3 := (by unfold smpF smpE; rw [hoe, h1]; rfl); rw [smpV, h3]; rfl))
                  · (first | replace hq_36 := bnt hq_36 | replace hq_36 := bnf hq_36 | replace hq_36 := bt hq_36 | replace hq_36 := bf hq_36 | replace hq_36 := bt' hq_36 | replace hq_36 := bf' hq_36 | skip)
                    first
                    | (cases hq_36; done) | (exfalso; omega)
                    | (
                       (have hsx := sixth_bd (trW_bd hyb 1 (j := n.toNat) (by omega)); unfold sixth at hsx)
                       refine aw_skip ?_
                       refine then_n ?_
                       refine aw_text (by kernel_rfl) ?_
                       refine al_ro' (ro_move s8_32) trivial rfl ?_
                       refine al_ro' (ro_fld_ptr h7_fl96_0 rfl (up_m rfl s9_32)) trivial rfl ?_
                       refine al_ro' (ro_eq (ro_ld_ptr h7_ty3 rfl mon_26_30 up_h (by first | exact Nat.le_of_ble_eq_true rfl | omega | (simp only [lnS] <;> omega) | (simp <;> omega))) (by first | (simp only [packA_t, packA_f, iE, bE, setAt, cellsA, Value.cells, map_vc, map_vn, Nat.reduceAdd, qS, tE, set_tE, set_iE] <;> rfl) | rfl)) trivial rfl ?_
                       first | (refine al_ro' (ro_quo' up_h ev_c (by first | decide | omega) ?_) trivial rfl ?_; · (unfold In64; omega)) | refine al_ro' (ro_quo up_h ev_c (by first | decide | omega)) trivial rfl ?_
                       refine al_ro' (ro_ixaD h7_ar22 (u4 rfl s7_32) (up_m rfl (u2 rfl up_h)) (by first | decide | omega | (simp <;> omega)) (by first | omega | (simp only [lnS] <;> omega) | (simp <;> omega))) trivial rfl ?_
                       refine al_stm (st_store_ael up_h (up_m rfl up_h) rfl rfl mon_7_30 rfl (by rintro l hl; obtain ⟨_, _, rfl⟩ := List.mem_map.1 hl; rfl) h7_sz3 rfl rfl (by first | omega | (simp only [lnS] <;> omega) | (simp <;> omega))) trivial rfl (fun m_39 hm_39 => ?_)
                       have mon_7_39 := m_set hm_39 mon_7_30
                       (try simp only [packA_t, packA_f, iE, bE, setAt, cellsA, Value.cells, map_vc, map_vn, Nat.reduceAdd, qS, tE, set_tE, set_iE] at mon_7_39)
                       have mon_26_39 := m_set_o hm_39 mon_26_30 (by omega)
                       have mo2_39 := m_set_o hm_39 mo2_30 (by omega)
                       have mo1_39 := m_set_o hm_39 mo1_30 (by omega)
                       have mo0_39 := m_set_o hm_39 mo0_30 (by omega)
                       have ml_39 := m_set_l hm_39 ml_30
                       clear hm_39 mon_26_30 mon_7_30 mo2_30 mo1_30 mo0_30
                       refine al_end (fun e_40 he_40 => ?_)
                       have s2_40 := ef 2 he_40 (up_n (up_m rfl (u4 rfl s2_32)))
                       have s7_40 := ef 7 he_40 (up_n (up_m rfl (u4 rfl s7_32)))
                       have s32_40 := ef 32 he_40 (up_n (up_m rfl (u4 rfl s32_32)))
                       have s33_40 := ef 33 he_40 (up_n (up_m rfl (u4 rfl s33_32)))
                       clear he_40 s2_32 s32_32 s33_32 s45_32 s7_32 s8_32 s9_32
                       refine block_n ?_
                       refine then_n ?_
                       refine aw_text (by kernel_rfl) ?_
                       first | (refine al_ro' (ro_add' s33_40 ev_c ?_) trivial rfl ?_; · (unfold In64; omega)) | refine al_ro' (ro_add s33_40 ev_c) trivial rfl ?_
                       refine al_ro' (ro_move up_h) trivial rfl ?_
                       refine al_end (fun e_41 he_41 => ?_)
                       have s2_41 := ef 2 he_41 (u2 rfl s2_40)
                       have s7_41 := ef 7 he_41 (u2 rfl s7_40)
                       have s32_41 := ef 32 he_41 (u2 rfl s32_40)
                       have s33_41 := ef 33 he_41 up_h
                       clear he_41 s2_40 s32_40 s33_40 s7_40
                       refine then_n ?_
                       refine ⟨⟨_, _⟩, ⟨s33_41, (s2_41.trans s2_25.symm), (s7_41.trans s7_25.symm), (s32_41.trans s32_25.symm), mon_7_39, (mo2_39.trans mo2_23.symm), (mo1_39.trans mo1_23.symm), (mo0_39.trans mo0_23.symm), ⟨_, ml_39, by omega⟩, ?_⟩, ?_⟩
                       · (refine ⟨by omega, by omega, by simp [r3], fun j hj => ?_, fun j hj => ?_⟩; (by_cases hji : j < n.toNat; (exact r5 j hji); (rw [show j = n.toNat by omega]; assumption)); (rw [getD_setV (by omega)]; by_cases hjk : j = n.toNat; (rw [if_pos hjk, if_pos (by omega), hjk]; rfl); (rw [if_neg hjk, r4 j hj]; by_cases hjl : j < n.toNat; (rw [if_pos hjl, if_pos (by omega)]); (rw [if_neg hjl, if_neg (by omega)]))))
                       · ((try dsimp only); omega)))
           · (first | replace hq_28 := bnt hq_28 | replace hq_28 := bnf hq_28 | replace hq_28 := bt hq_28 | replace hq_28 := bf hq_28 | replace hq_28 := bt' hq_28 | replace hq_28 := bf' hq_28 | skip)
             first
             | (cases hq_28; done) | (exfalso; omega)
             | (
                (have hzn : (trW hs 1).any badS = false := (by rw [← hye]; exact any_false (fun j hj => r5 j (by omega))); have hze : zs = outW hs := list_ext' (by rw [outW_len]; omega) (fun j hj => by rw [r4 j (by omega), if_pos (by omega), outW_at _ (by omega), hye]); have hse : smpF hs = phasesE zs := (by unfold smpF smpE; rw [hoe, hzn, hze]; rfl))
                refine aw_exit ?_
                refine then_x ?_
                refine then_x ?_
                refine block_hit ?_
                refine then_n ?_
                refine aw_seq ?_
                refine aw_seq ?_
                refine aw_freeze s7_27 mon_7_26 (by first | rfl | (apply roL_flat; intro _; rfl)) (fun m_42 e_42 hm_42 he_42 => ?_)
                have mo2_42 := m_set_o hm_42 mo2_26 (by omega)
                have mo1_42 := m_set_o hm_42 mo1_26 (by omega)
                have mo0_42 := m_set_o hm_42 mo0_26 (by omega)
                have ml_42 := m_set_l hm_42 ml_26
                have s2_42 : evA e_42 (.tmp 2) = _ := (congrArg (fun q => evA q (.tmp 2)) he_42).trans (up_m rfl s2_27)
                have s7_42 : evA e_42 (.tmp 7) = _ := (congrArg (fun q => evA q (.tmp 7)) he_42).trans up_h
                have s32_42 : evA e_42 (.tmp 32) = _ := (congrArg (fun q => evA q (.tmp 32)) he_42).trans (up_m rfl s32_27)
                have s33_42 : evA e_42 (.tmp 33) = _ := (congrArg (fun q => evA q (.tmp 33)) he_42).trans (up_m rfl s33_27)
                have s34_42 : evA e_42 (.tmp 34) = _ := (congrArg (fun q => evA q (.tmp 34)) he_42).trans (up_m rfl s34_27)
                clear hm_42 he_42
                refine aw_text (by kernel_rfl) ?_
                refine al_ro' (ro_slarr h7_at22 s7_42 rfl (by rintro l hl; obtain ⟨_, _, rfl⟩ := List.mem_map.1 hl; rfl) (by first | rfl | (simp only [lnS]; omega)) (by decide)) trivial rfl ?_
                refine al_ro' (ro_call (evL_cons up_h evL_nil) (by first | rfl | (simp only [roO.roL, roO, Bool.and_true, Bool.true_and]; (apply roL_flat; intro _; rfl))) (phases_ok zs (by omega)) h7_hcf48) trivial rfl ?_
                refine al_ro' (ro_assign up_h) trivial rfl ?_
                refine al_end (fun e_43 he_43 => ?_)
                have s2_43 := ef 2 he_43 (up_m rfl (u2 rfl s2_42))
                have s7_43 := ef 7 he_43 (up_m rfl (u2 rfl s7_42))
                have s10_43 := ef 10 he_43 up_h
                clear he_43 s2_42 s32_42 s33_42 s34_42 s7_42
                refine then_n ?_
                refine aw_seq ?_
                refine aw_text (by kernel_rfl) ?_
                refine al_ro' (ro_move s10_43) trivial rfl ?_
                refine al_ro' (ro_neq up_h ev_c) trivial rfl ?_
                refine al_end (fun e_44 he_44 => ?_)
                have s2_44 := ef 2 he_44 (u2 rfl s2_43)
                have s7_44 := ef 7 he_44 (u2 rfl s7_43)
                have s10_44 := ef 10 he_44 (u2 rfl s10_43)
                have s56_44 := ef 56 he_44 up_h
                clear he_44 s10_43 s2_43 s7_43
                refine then_n ?_
                refine aw_case s56_44 (fun hq_45 => ?_) (fun hq_45 => ?_)
                · (first | replace hq_45 := bnt hq_45 | replace hq_45 := bnf hq_45 | replace hq_45 := bt hq_45 | replace hq_45 := bf hq_45 | replace hq_45 := bt' hq_45 | replace hq_45 := bf' hq_45 | skip)
                  first
                  | (cases hq_45; done) | (exfalso; omega)
                  | (
                     refine aw_seq ?_
                     refine aw_text (by kernel_rfl) ?_
                     refine al_ro' (ro_eq (ro_buildA evP_nil h7_bz22 h7_bu22 h7_bp22 rfl) (show _ = AV.agg ((i6.map iE).flatten) from rfl)) trivial rfl ?_
                     refine al_ro' (ro_move (up_m rfl s10_44)) trivial rfl ?_
                     refine al_stm (st_store_all (u2 rfl s2_44) (up_m rfl up_h) rfl (by first | rfl | (apply oneL_flat; intro _; rfl)) mo1_42 h7_sz22 (by first | rfl | (rw [flat_map_len (k := 1)] <;> first | omega | (intro _; rfl))) (by first | rfl | (rw [flat_map_len (k := 1)] <;> first | omega | (intro _; rfl)))) trivial rfl (fun m_46 hm_46 => ?_)
                     have mo1_46 := m_set hm_46 mo1_42
                     (try simp only [packA_t, packA_f, iE, bE, setAt, cellsA, Value.cells, map_vc, map_vn, Nat.reduceAdd, qS, tE, set_tE, set_iE] at mo1_46)
                     have mo2_46 := m_set_o hm_46 mo2_42 (by decide)
                     have mo0_46 := m_set_o hm_46 mo0_42 (by decide)
                     have ml_46 := m_set_l hm_46 ml_42
                     clear hm_46 mo2_42 mo1_42 mo0_42
                     refine al_ro' (ro_assign (up_n up_h)) trivial rfl ?_
                     refine al_end (fun e_47 he_47 => ?_)
                     have s2_47 := ef 2 he_47 (up_m rfl (up_n (u2 rfl s2_44)))
                     have s3_47 := ef 3 he_47 up_h
                     clear he_47 s10_44 s2_44 s56_44 s7_44
                     refine then_n ?_
                     refine aw_ret ?_
                     refine then_r ?_
                     refine ret2 (.inr rfl) (by kernel_rfl) (resV_cell s2_47 mo1_46 h7_ty22 (by first | exact Nat.le_of_ble_eq_true rfl | (rw [flat_map_len (k := 1)] <;> first | omega | (intro _; rfl))) (by simp)) (resV_tmp s3_47) (vw_r (.ro _ (by first | rfl | (apply ro_aggF; intro _; rfl) | (apply roL_flat; intro _; rfl)))) (.ro _ rfl) ?_
                     clear s2_47 s3_47 mo1_46 mo2_46 mo0_46 ml_46
                     (have hn := ‹¬ phasesE zs = 0›; rw [smpV, hse, if_neg hn]; rfl))
                · (first | replace hq_45 := bnt hq_45 | replace hq_45 := bnf hq_45 | replace hq_45 := bt hq_45 | replace hq_45 := bf hq_45 | replace hq_45 := bt' hq_45 | replace hq_45 := bf' hq_45 | skip)
                  first
                  | (cases hq_45; done) | (exfalso; omega)
                  | (
                     refine aw_skip ?_
                     refine then_n ?_
                     refine aw_seq ?_
                     refine aw_text (by kernel_rfl) ?_
                     refine al_ro' (ro_ld_allR h7_ty22 s7_44 (by first | rfl | (rw [flat_map_len (k := 1)] <;> first | omega | (intro _; rfl)))) trivial rfl ?_
                     refine al_stm (st_store_all (up_m rfl s2_44) up_h rfl (by first | rfl | (apply oneL_flat; intro _; rfl)) mo1_42 h7_sz22 (by first | rfl | (rw [flat_map_len (k := 1)] <;> first | omega | (intro _; rfl))) (by first | rfl | (rw [flat_map_len (k := 1)] <;> first | omega | (intro _; rfl)))) trivial rfl (fun m_48 hm_48 => ?_)
                     have mo1_48 := m_set hm_48 mo1_42
                     (try simp only [packA_t, packA_f, iE, bE, setAt, cellsA, Value.cells, map_vc, map_vn, Nat.reduceAdd, qS, tE, set_tE, set_iE] at mo1_48)
                     have mo2_48 := m_set_o hm_48 mo2_42 (by decide)
                     have mo0_48 := m_set_o hm_48 mo0_42 (by decide)
                     have ml_48 := m_set_l hm_48 ml_42
                     clear hm_48 mo2_42 mo1_42 mo0_42
                     refine al_ro' (ro_assign ev_c) trivial rfl ?_
                     refine al_end (fun e_49 he_49 => ?_)
                     have s2_49 := ef 2 he_49 (up_m rfl (up_n (up_m rfl s2_44)))
                     have s3_49 := ef 3 he_49 up_h
                     clear he_49 s10_44 s2_44 s56_44 s7_44
                     refine then_n ?_
                     refine aw_ret ?_
                     refine ret2 (.inr rfl) (by kernel_rfl) (resV_cell s2_49 mo1_48 h7_ty22 (by first | exact Nat.le_of_ble_eq_true rfl | (rw [flat_map_len (k := 1)] <;> first | omega | (intro _; rfl))) (by simp)) (resV_tmp s3_49) (vw_r (.ro _ (by first | rfl | (apply ro_aggF; intro _; rfl) | (apply roL_flat; intro _; rfl)))) (.ro _ rfl) ?_
                     clear s2_49 s3_49 mo1_48 mo2_48 mo0_48 ml_48
                     (have hn := ‹phasesE zs = 0›; rw [take_flat_all (k := 1) (fun _ => rfl) (by omega), smpV, hse, if_pos hn, hn, hze]))))
set_option maxRecDepth 100000 in
set_option maxHeartbeats 4000000 in
theorem ordersErr_ok (hs : List V2) (hx : hs.length = 6) : FnOk Tryd.prog 16 [.agg (hs.map tE).flatten] (fun q => q = nA (ordE hs)) := by
  refine fnOk_of (fn := Tryd.f16) 22 (by kernel_rfl) rfl (by kernel_rfl) (Nat.le_of_ble_eq_true rfl) ?_
  intro e_0 m_0 hA hm_0
  have s0_0 : evA e_0 (.tmp 0) = _ := hA 0 _ rfl
  have ml_0 : m_0.length = 0 := by rw [hm_0]; rfl
  clear hA hm_0
  refine aw_seq ?_
  refine aw_text (by kernel_rfl) ?_
  refine al_stm (st_box s0_0 rfl ml_0) trivial rfl (fun m_1 hm_1 => ?_)
  have mo0_1 := m_push hm_1 ml_0
  (try simp only [packA_t, packA_f, iE, bE, setAt, cellsA, Value.cells, map_vc, map_vn, Nat.reduceAdd, qS, tE] at mo0_1)
  have ml_1 := m_push_l hm_1 ml_0
  have ml_1 : _ = 1 := ml_1
  clear hm_1
  refine al_ro' (ro_assign ev_c) trivial rfl ?_
  refine al_end (fun e_2 he_2 => ?_)
  have s1_2 := ef 1 he_2 (up_m rfl up_h)
  clear he_2 s0_0
  refine then_n ?_
  refine aw_seq ?_
  refine aw_seq ?_
  refine aw_text (by kernel_rfl) ?_
  refine al_ro' (ro_assign ev_c) trivial rfl ?_
  refine al_end (fun e_3 he_3 => ?_)
  have s1_3 := ef 1 he_3 (up_m rfl s1_2)
  have s3_3 := ef 3 he_3 up_h
  clear he_3 s1_2
  refine then_n ?_
  refine aw_block ?_
  refine aw_loop (S := Int) (fun k e mem => (evA e (.tmp 3) = .v (.int .i64 k)) ∧ (evA e (.tmp 1) = evA e_3 (.tmp 1)) ∧ (mem[0]? = m_1[0]?) ∧ (mem.length = 1) ∧ ((0 ≤ k ∧ k ≤ 6 ∧ ∀ j : Nat, j < k.toNat → badO (hs.getD j default) = false))) (fun k => (6 - k).toNat) _ ⟨s3_3, rfl, rfl, ml_1, ?_⟩ ?_
  · (exact ⟨by omega, by omega, fun j hj => absurd hj (by omega)⟩)
  · rintro k e_4 m_4 ⟨s3_4, k1_4, mk0_4, ml_4, hinv⟩
    have s1_4 := k1_4.trans s1_3
    have mo0_4 := mk0_4.trans mo0_1
    (obtain ⟨p1, p2, p5⟩ := hinv)
    refine aw_seq ?_
    refine aw_seq ?_
    refine aw_text (by kernel_rfl) ?_
    refine al_ro' (ro_move s3_4) trivial rfl ?_
    refine al_ro' (ro_lss up_h ev_c) trivial rfl ?_
    refine al_end (fun e_5 he_5 => ?_)
    have s1_5 := ef 1 he_5 (u2 rfl s1_4)
    have s3_5 := ef 3 he_5 (u2 rfl s3_4)
    have s5_5 := ef 5 he_5 up_h
    clear he_5 s1_4 s3_4
    refine then_n ?_
    refine aw_case s5_5 (fun hq_6 => ?_) (fun hq_6 => ?_)
    · (first | replace hq_6 := bnt hq_6 | replace hq_6 := bnf hq_6 | replace hq_6 := bt hq_6 | replace hq_6 := bf hq_6 | replace hq_6 := bt' hq_6 | replace hq_6 := bf' hq_6 | skip)
      first
      | (cases hq_6; done) | (exfalso; omega)
      | (
         refine aw_skip ?_
         refine then_n ?_
         refine aw_seq ?_
         refine aw_block ?_
         refine aw_seq ?_
         refine aw_cut (fun e mem => (evA e (.tmp 21) = .v (.bool (badO (hs.getD k.toNat default)))) ∧ (evA e (.tmp 1) = evA e_5 (.tmp 1)) ∧ (evA e (.tmp 3) = evA e_5 (.tmp 3)) ∧ m_4 = mem) ?_ ?_
         ·
           refine aw_text (by kernel_rfl) ?_
           refine al_ro' (ro_move s3_5) trivial rfl ?_
           refine al_ro' (ro_ixaD h7_ar25 (up_m rfl s1_5) up_h (by first | decide | omega | (simp <;> omega)) (by first | omega | (simp only [lnS] <;> omega) | (simp <;> omega))) trivial rfl ?_
           refine al_ro' (ro_fld_ptr h7_fl24_0 rfl up_h) trivial rfl ?_
           refine al_ro' (ro_eq (ro_ld_aelf h7_ty3 rfl mo0_4 up_h rfl (by rintro l hl; obtain ⟨_, _, rfl⟩ := List.mem_map.1 hl; rfl) (by first | exact Nat.le_of_ble_eq_true rfl | omega | (simp only [lnS] <;> omega) | (simp <;> omega)) (by first | (refine idx_map ?_; first | omega | (simp only [lnS]; omega)) | (refine idx_mapI ?_; first | omega | (simp only [lnS]; omega)) | (refine idx_mapN ?_; first | omega | (simp only [lnS]; omega)) | rfl)) (by first | (simp only [packA_t, packA_f, iE, bE, setAt, cellsA, Value.cells, map_vc, map_vn, Nat.reduceAdd, qS, tE] <;> rfl) | rfl)) trivial rfl ?_
           refine al_ro' (ro_call (evL_cons up_h (evL_cons ev_c evL_nil)) (by first | rfl | (simp only [roO.roL, roO, Bool.and_true, Bool.true_and]; (apply roL_flat; intro _; rfl))) (rSize_ok _ _ (by decide)) h7_hcf55) trivial rfl ?_
           refine al_ro' (ro_not up_h) trivial rfl ?_
           refine al_ro' (ro_move up_h) trivial rfl ?_
           refine al_case up_h (fun hb_8 hq_8 => ?_) (fun hb_8 hq_8 => ?_)
           · (first | replace hq_8 := bnt hq_8 | replace hq_8 := bnf hq_8 | replace hq_8 := bt hq_8 | replace hq_8 := bf hq_8 | replace hq_8 := bt' hq_8 | replace hq_8 := bf' hq_8 | skip)
             first
             | (cases hq_8; done) | (exfalso; omega)
             | (
                refine al_skip' ⟨_, rfl, .inl hb_8⟩ rfl ?_
                refine al_skip' ⟨_, rfl, .inl (up_m rfl hb_8)⟩ rfl ?_
                refine al_skip' ⟨_, rfl, .inl (u2 rfl hb_8)⟩ rfl ?_
                refine al_skip' ⟨_, rfl, .inl (up_m rfl (u2 rfl hb_8))⟩ rfl ?_
                refine al_skip' ⟨_, rfl, .inl (u4 rfl hb_8)⟩ rfl ?_
                refine al_skip' ⟨_, rfl, .inl (up_m rfl (u4 rfl hb_8))⟩ rfl ?_
                refine al_ro' (ro_pickT (u2 rfl (u4 rfl hb_8)) ev_c) trivial rfl ?_
                refine al_end (fun e_9 he_9 => ?_)
                have s1_9 := ef 1 he_9 (u2 rfl (u4 rfl (u8 rfl s1_5)))
                have s3_9 := ef 3 he_9 (u2 rfl (u4 rfl (u8 rfl s3_5)))
                have s21_9 := ef 21 he_9 up_h
                clear he_9
                refine then_n ⟨(s21_9).trans (by (refine avb ?_; simp_all [badO])), (s1_9).trans (s1_5).symm, (s3_9).trans (s3_5).symm, rfl⟩)
           · (first | replace hq_8 := bnt hq_8 | replace hq_8 := bnf hq_8 | replace hq_8 := bt hq_8 | replace hq_8 := bf hq_8 | replace hq_8 := bt' hq_8 | replace hq_8 := bf' hq_8 | skip)
             first
             | (cases hq_8; done) | (exfalso; omega)
             | (
                refine al_ro' (ro_move (up_m rfl (u2 rfl (u4 rfl s3_5)))) ⟨_, rfl, hb_8⟩ rfl ?_
                refine al_ro' (ro_ixaD h7_ar25 (u8 rfl s1_5) up_h (by first | decide | omega | (simp <;> omega)) (by first | omega | (simp only [lnS] <;> omega) | (simp <;> omega))) ⟨_, rfl, (up_m rfl hb_8)⟩ rfl ?_
                refine al_ro' (ro_fld_ptr h7_fl24_1 rfl up_h) ⟨_, rfl, (u2 rfl hb_8)⟩ rfl ?_
                refine al_ro' (ro_eq (ro_ld_aelf h7_ty3 rfl mo0_4 up_h rfl (by rintro l hl; obtain ⟨_, _, rfl⟩ := List.mem_map.1 hl; rfl) (by first | exact Nat.le_of_ble_eq_true rfl | omega | (simp only [lnS] <;> omega) | (simp <;> omega)) (by first | (refine idx_map ?_; first | omega | (simp only [lnS]; omega)) | (refine idx_mapI ?_; first | omega | (simp only [lnS]; omega)) | (refine idx_mapN ?_; first | omega | (simp only [lnS]; omega)) | rfl)) (by first | (simp only [packA_t, packA_f, iE, bE, setAt, cellsA, Value.cells, map_vc, map_vn, Nat.reduceAdd, qS, tE] <;> rfl) | rfl)) ⟨_, rfl, (up_m rfl (u2 rfl hb_8))⟩ rfl ?_
                refine al_ro' (ro_call (evL_cons up_h (evL_cons ev_c evL_nil)) (by first | rfl | (simp only [roO.roL, roO, Bool.and_true, Bool.true_and]; (apply roL_flat; intro _; rfl))) (rSize_ok _ _ (by decide)) h7_hcf55) ⟨_, rfl, (u4 rfl hb_8)⟩ rfl ?_
                refine al_ro' (ro_not up_h) ⟨_, rfl, (up_m rfl (u4 rfl hb_8))⟩ rfl ?_
                refine al_ro' (ro_pickF (u2 rfl (u4 rfl hb_8)) up_h) trivial rfl ?_
                refine al_end (fun e_10 he_10 => ?_)
                have s1_10 := ef 1 he_10 (u2 rfl (u4 rfl (u8 rfl s1_5)))
                have s3_10 := ef 3 he_10 (u2 rfl (u4 rfl (u8 rfl s3_5)))
                have s21_10 := ef 21 he_10 up_h
                clear he_10
                refine then_n ⟨(s21_10).trans (by (refine avb ?_; simp_all [badO])), (s1_10).trans (s1_5).symm, (s3_10).trans (s3_5).symm, rfl⟩)
         · rintro e_7 _ ⟨s21_7, k1_7, k3_7, rfl⟩
           have s1_7 := k1_7.trans s1_5
           have s3_7 := k3_7.trans s3_5
           refine aw_case s21_7 (fun hq_11 => ?_) (fun hq_11 => ?_)
           · (first | replace hq_11 := bnt hq_11 | replace hq_11 := bnf hq_11 | replace hq_11 := bt hq_11 | replace hq_11 := bf hq_11 | replace hq_11 := bt' hq_11 | replace hq_11 := bf' hq_11 | skip)
             first
             | (cases hq_11; done) | (exfalso; omega)
             | (
                refine aw_seq ?_
                refine aw_text (by kernel_rfl) ?_
                refine al_ro' (ro_assign ev_c) trivial rfl ?_
                refine al_end (fun e_12 he_12 => ?_)
                have s2_12 := ef 2 he_12 up_h
                clear he_12 s1_7 s21_7 s3_7
                refine then_n ?_
                refine aw_ret ?_
                refine block_r ?_
                refine then_r ?_
                refine then_r ?_
                refine block_r ?_
                refine then_r ?_
                refine ret1 (.inr rfl) (by kernel_rfl) (resV_tmp s2_12) (.ro _ rfl) ?_
                clear s2_12 mo0_4 ml_4
                (have h1 : hs.any badO = true := any_true (i := k.toNat) (by omega) (by assumption); unfold ordE; rw [h1]; rfl))
           · (first | replace hq_11 := bnt hq_11 | replace hq_11 := bnf hq_11 | replace hq_11 := bt hq_11 | replace hq_11 := bf hq_11 | replace hq_11 := bt' hq_11 | replace hq_11 := bf' hq_11 | skip)
             first
             | (cases hq_11; done) | (exfalso; omega)
             | (
                refine aw_skip ?_
                refine block_n ?_
                refine then_n ?_
                refine aw_text (by kernel_rfl) ?_
                refine al_ro' (ro_move s3_7) trivial rfl ?_
                first | (refine al_ro' (ro_add' up_h ev_c ?_) trivial rfl ?_; · (unfold In64; omega)) | refine al_ro' (ro_add up_h ev_c) trivial rfl ?_
                refine al_ro' (ro_assign up_h) trivial rfl ?_
                refine al_end (fun e_13 he_13 => ?_)
                have s1_13 := ef 1 he_13 (up_m rfl (u2 rfl s1_7))
                have s3_13 := ef 3 he_13 up_h
                clear he_13 s1_7 s21_7 s3_7
                refine then_n ?_
                refine ⟨_, ⟨s3_13, (s1_13.trans s1_3.symm), (mo0_4.trans mo0_1.symm), ml_4, ?_⟩, ?_⟩
                · (refine ⟨by omega, by omega, fun j hj => ?_⟩; by_cases hji : j < k.toNat; (exact p5 j hji); (rw [show j = k.toNat by omega]; assumption))
                · ((try dsimp only); omega)))
    · (first | replace hq_6 := bnt hq_6 | replace hq_6 := bnf hq_6 | replace hq_6 := bt hq_6 | replace hq_6 := bf hq_6 | replace hq_6 := bt' hq_6 | replace hq_6 := bf' hq_6 | skip)
      first
      | (cases hq_6; done) | (exfalso; omega)
      | (
         refine aw_exit ?_
         refine then_x ?_
         refine then_x ?_
         refine block_hit ?_
         refine then_n ?_
         refine aw_seq ?_
         refine aw_text (by kernel_rfl) ?_
         refine al_ro' (ro_assign ev_c) trivial rfl ?_
         refine al_end (fun e_14 he_14 => ?_)
         have s2_14 := ef 2 he_14 up_h
         clear he_14 s1_5 s3_5 s5_5
         refine then_n ?_
         refine aw_ret ?_
         refine ret1 (.inr rfl) (by kernel_rfl) (resV_tmp s2_14) (.ro _ rfl) ?_
         clear s2_14 mo0_4 ml_4
         (have hne : hs.any badO = false := any_false (fun j hj => p5 j (by omega)); unfold ordE; rw [hne]; rfl))
def rSmpV (hs : List V2) : List Int := if smpE hs = 0 then outW hs else i6
set_option maxRecDepth 100000 in
set_option maxHeartbeats 4000000 in
theorem rSamplesOf_ok (hs : List V2) (hx : hs.length = 6) (ho : ordE hs = 0) : FnOk Tryd.prog 17 [.agg (hs.map tE).flatten] (fun q => q = .tuple [.agg ((rSmpV hs).map iE).flatten, nA (smpE hs)]) := by
  have hob := ordE_bd ho
  have htl := trW_len hs 1
  refine fnOk_of (fn := Tryd.f17) 45 (by kernel_rfl) rfl (by kernel_rfl) (Nat.le_of_ble_eq_true rfl) ?_
  intro e_0 m_0 hA hm_0
  have s0_0 : evA e_0 (.tmp 0) = _ := hA 0 _ rfl
  have ml_0 : m_0.length = 0 := by rw [hm_0]; rfl
  clear hA hm_0
  refine aw_seq ?_
  refine aw_text (by kernel_rfl) ?_
  refine al_stm (st_box s0_0 rfl ml_0) trivial rfl (fun m_1 hm_1 => ?_)
  have mo0_1 := m_push hm_1 ml_0
  (try simp only [packA_t, packA_f, iE, bE, setAt, cellsA, Value.cells, map_vc, map_vn, Nat.reduceAdd, qS, tE, set_tE, set_iE] at mo0_1)
  have ml_1 := m_push_l hm_1 ml_0
  have ml_1 : _ = 1 := ml_1
  clear hm_1
  refine al_stm (st_alloc h7_az22 rfl ml_1) trivial rfl (fun m_2 hm_2 => ?_)
  have mo1_2 : m_2[1]? = some (Ob.box 22 ((i6.map iE).flatten)) := m_push hm_2 ml_1
  have mo0_2 := m_push_o hm_2 mo0_1
  have ml_2 := m_push_l hm_2 ml_1
  have ml_2 : _ = 2 := ml_2
  clear hm_2 mo0_1
  refine al_ro' (ro_assign ev_c) trivial rfl ?_
  refine al_end (fun e_3 he_3 => ?_)
  have s1_3 := ef 1 he_3 (u2 rfl up_h)
  have s2_3 := ef 2 he_3 (up_m rfl up_h)
  clear he_3 s0_0
  refine then_n ?_
  refine aw_seq ?_
  refine aw_text (by kernel_rfl) ?_
  refine al_stm (st_alloc h7_az22 rfl ml_2) trivial rfl (fun m_4 hm_4 => ?_)
  have mo2_4 : m_4[2]? = some (Ob.box 22 ((i6.map iE).flatten)) := m_push hm_4 ml_2
  have mo1_4 := m_push_o hm_4 mo1_2
  have mo0_4 := m_push_o hm_4 mo0_2
  have ml_4 := m_push_l hm_4 ml_2
  have ml_4 : _ = 3 := ml_4
  clear hm_4 mo1_2 mo0_2
  refine al_end (fun e_5 he_5 => ?_)
  have s1_5 := ef 1 he_5 (up_m rfl s1_3)
  have s2_5 := ef 2 he_5 (up_m rfl s2_3)
  have s4_5 := ef 4 he_5 up_h
  clear he_5 s1_3 s2_3
  refine then_n ?_
  refine aw_seq ?_
  refine aw_seq ?_
  refine aw_text (by kernel_rfl) ?_
  refine al_ro' (ro_assign ev_c) trivial rfl ?_
  refine al_end (fun e_6 he_6 => ?_)
  have s1_6 := ef 1 he_6 (up_m rfl s1_5)
  have s2_6 := ef 2 he_6 (up_m rfl s2_5)
  have s4_6 := ef 4 he_6 (up_m rfl s4_5)
  have s5_6 := ef 5 he_6 up_h
  clear he_6 s1_5 s2_5 s4_5
  refine then_n ?_
  refine aw_block ?_
  refine aw_loop (S := (Int × List Int)) (fun s e mem => match s with | ⟨n, zs⟩ => (evA e (.tmp 5) = .v (.int .i64 n)) ∧ (evA e (.tmp 1) = evA e_6 (.tmp 1)) ∧ (evA e (.tmp 2) = evA e_6 (.tmp 2)) ∧ (evA e (.tmp 4) = evA e_6 (.tmp 4)) ∧ (mem[2]? = some (.box 22 (zs.map iE).flatten)) ∧ (mem[1]? = m_4[1]?) ∧ (mem[0]? = m_4[0]?) ∧ (∃ n, mem.length = n ∧ 3 ≤ n) ∧ ((0 ≤ n ∧ n ≤ 6 ∧ zs.length = 6 ∧ (∀ j : Nat, j < n.toNat → badS ((trW hs 1).getD j default) = false) ∧ ∀ j : Nat, j < 6 → zs.getD j default = if j < n.toNat then sixth ((trW hs 1).getD j default) else 0))) (fun s => match s with | ⟨n, zs⟩ => (6 - n).toNat) ⟨_, i6⟩ ⟨s5_6, rfl, rfl, rfl, mo2_4, rfl, rfl, ⟨_, ml_4, Nat.le_refl _⟩, ?_⟩ ?_
  · (exact ⟨by omega, by omega, rfl, fun j hj => absurd hj (by omega), fun j hj => by rw [if_neg (by omega)]; exact getD_z6 _ j hj⟩)
  · rintro ⟨n, zs⟩ e_7 m_7 ⟨s5_7, k1_7, k2_7, k4_7, mo2_7, mk1_7, mk0_7, ⟨n_7, ml_7, hn_7⟩, hinv⟩
    have s1_7 := k1_7.trans s1_6
    have s2_7 := k2_7.trans s2_6
    have s4_7 := k4_7.trans s4_6
    have mo1_7 := mk1_7.trans mo1_4
    have mo0_7 := mk0_7.trans mo0_4
    (obtain ⟨r1, r2, r3, r5, r4⟩ := hinv)
    refine aw_seq ?_
    refine aw_seq ?_
    refine aw_text (by kernel_rfl) ?_
    refine al_ro' (ro_move s5_7) trivial rfl ?_
    refine al_ro' (ro_lss up_h ev_c) trivial rfl ?_
    refine al_end (fun e_8 he_8 => ?_)
    have s1_8 := ef 1 he_8 (u2 rfl s1_7)
    have s2_8 := ef 2 he_8 (u2 rfl s2_7)
    have s4_8 := ef 4 he_8 (u2 rfl s4_7)
    have s5_8 := ef 5 he_8 (u2 rfl s5_7)
    have s9_8 := ef 9 he_8 up_h
    clear he_8 s1_7 s2_7 s4_7 s5_7
    refine then_n ?_
    refine aw_case s9_8 (fun hq_9 => ?_) (fun hq_9 => ?_)
    · (first | replace hq_9 := bnt hq_9 | replace hq_9 := bnf hq_9 | replace hq_9 := bt hq_9 | replace hq_9 := bf hq_9 | replace hq_9 := bt' hq_9 | replace hq_9 := bf' hq_9 | skip)
      first
      | (cases hq_9; done) | (exfalso; omega)
      | (
         refine aw_skip ?_
         refine then_n ?_
         refine aw_seq ?_
         refine aw_block ?_
         refine aw_seq ?_
         refine aw_text (by kernel_rfl) ?_
         refine al_stm (st_alloc h7_az24 rfl ml_7) trivial rfl (fun m_10 hm_10 => ?_)
         have mon_7_10 := m_push hm_10 ml_7
         (try simp only [packA_t, packA_f, iE, bE, setAt, cellsA, Value.cells, map_vc, map_vn, Nat.reduceAdd, qS, tE, set_tE, set_iE] at mon_7_10)
         have mo2_10 := m_push_o hm_10 mo2_7
         have mo1_10 := m_push_o hm_10 mo1_7
         have mo0_10 := m_push_o hm_10 mo0_7
         have ml_10 := m_push_l hm_10 ml_7
         clear hm_10 mo2_7 mo1_7 mo0_7
         refine al_end (fun e_11 he_11 => ?_)
         have s1_11 := ef 1 he_11 (up_m rfl s1_8)
         have s2_11 := ef 2 he_11 (up_m rfl s2_8)
         have s4_11 := ef 4 he_11 (up_m rfl s4_8)
         have s5_11 := ef 5 he_11 (up_m rfl s5_8)
         have s6_11 := ef 6 he_11 up_h
         clear he_11 s1_8 s2_8 s4_8 s5_8 s9_8
         refine then_n ?_
         refine aw_seq ?_
         refine aw_seq ?_
         refine aw_text (by kernel_rfl) ?_
         refine al_ro' (ro_assign ev_c) trivial rfl ?_
         refine al_end (fun e_12 he_12 => ?_)
         have s1_12 := ef 1 he_12 (up_m rfl s1_11)
         have s2_12 := ef 2 he_12 (up_m rfl s2_11)
         have s4_12 := ef 4 he_12 (up_m rfl s4_11)
         have s5_12 := ef 5 he_12 (up_m rfl s5_11)
         have s6_12 := ef 6 he_12 (up_m rfl s6_11)
         have s7_12 := ef 7 he_12 up_h
         clear he_12 s1_11 s2_11 s4_11 s5_11 s6_11
         refine then_n ?_
         refine aw_block ?_
         refine aw_loop (S := (Int × V2)) (fun s e mem => match s with | ⟨k, u⟩ => (evA e (.tmp 7) = .v (.int .i64 k)) ∧ (evA e (.tmp 1) = evA e_12 (.tmp 1)) ∧ (evA e (.tmp 2) = evA e_12 (.tmp 2)) ∧ (evA e (.tmp 4) = evA e_12 (.tmp 4)) ∧ (evA e (.tmp 5) = evA e_12 (.tmp 5)) ∧ (evA e (.tmp 6) = evA e_12 (.tmp 6)) ∧ (mem[n_7]? = some (.box 24 [nA u.1, nA u.2])) ∧ (mem[2]? = m_10[2]?) ∧ (mem[1]? = m_10[1]?) ∧ (mem[0]? = m_10[0]?) ∧ (mem.length = n_7 + 1) ∧ ((0 ≤ k ∧ k ≤ 6 ∧ u = trS hs 1 n k.toNat))) (fun s => match s with | ⟨k, u⟩ => (6 - k).toNat) ⟨_, (0, 0)⟩ ⟨s7_12, rfl, rfl, rfl, rfl, rfl, mon_7_10, rfl, rfl, rfl, ml_10, ?_⟩ ?_
         · (exact ⟨by omega, by omega, rfl⟩)
         · rintro ⟨k, u⟩ e_13 m_13 ⟨s7_13, k1_13, k2_13, k4_13, k5_13, k6_13, mon_7_13, mk2_13, mk1_13, mk0_13, ml_13, hinv⟩
           have s1_13 := k1_13.trans s1_12
           have s2_13 := k2_13.trans s2_12
           have s4_13 := k4_13.trans s4_12
           have s5_13 := k5_13.trans s5_12
           have s6_13 := k6_13.trans s6_12
           have mo2_13 := mk2_13.trans mo2_10
           have mo1_13 := mk1_13.trans mo1_10
           have mo0_13 := mk0_13.trans mo0_10
           (obtain ⟨s1, s2, s3⟩ := hinv; have hs1 := trS_bd hob 1 n k.toNat; rw [← s3] at hs1; have w2 := mulBd (A := 6) (B := 6) (a := k) (b := n) (by omega) (by omega))
           refine aw_seq ?_
           refine aw_seq ?_
           refine aw_text (by kernel_rfl) ?_
           refine al_ro' (ro_move s7_13) trivial rfl ?_
           refine al_ro' (ro_lss up_h ev_c) trivial rfl ?_
           refine al_end (fun e_14 he_14 => ?_)
           have s1_14 := ef 1 he_14 (u2 rfl s1_13)
           have s2_14 := ef 2 he_14 (u2 rfl s2_13)
           have s4_14 := ef 4 he_14 (u2 rfl s4_13)
           have s5_14 := ef 5 he_14 (u2 rfl s5_13)
           have s6_14 := ef 6 he_14 (u2 rfl s6_13)
           have s7_14 := ef 7 he_14 (u2 rfl s7_13)
           have s13_14 := ef 13 he_14 up_h
           clear he_14 s1_13 s2_13 s4_13 s5_13 s6_13 s7_13
           refine then_n ?_
           refine aw_case s13_14 (fun hq_15 => ?_) (fun hq_15 => ?_)
           · (first | replace hq_15 := bnt hq_15 | replace hq_15 := bnf hq_15 | replace hq_15 := bt hq_15 | replace hq_15 := bf hq_15 | replace hq_15 := bt' hq_15 | replace hq_15 := bf' hq_15 | skip)
             first
             | (cases hq_15; done) | (exfalso; omega)
             | (
                refine aw_skip ?_
                refine then_n ?_
                refine aw_seq ?_
                refine aw_block ?_
                refine aw_draw 9 (by kernel_rfl) (by kernel_rfl) (by kernel_rfl) (by kernel_rfl) ?_
                refine ds_ro' (ro_eq (ro_ld_ptr h7_ty24 rfl mon_7_13 s6_14 (by first | exact Nat.le_of_ble_eq_true rfl | omega | (simp only [lnS] <;> omega) | (simp <;> omega))) (by first | (simp only [packA_t, packA_f, iE, bE, setAt, cellsA, Value.cells, map_vc, map_vn, Nat.reduceAdd, qS, tE, set_tE, set_iE] <;> rfl) | rfl)) trivial rfl ?_
                refine ds_ro' (ro_move (up_m rfl s7_14)) trivial rfl ?_
                refine ds_ro' (ro_ixaD h7_ar25 (u2 rfl s1_14) up_h (by first | decide | omega | (simp <;> omega)) (by first | omega | (simp only [lnS] <;> omega) | (simp <;> omega))) trivial rfl ?_
                refine ds_ro' (ro_eq (ro_ld_ael h7_ty24 rfl mo0_13 up_h rfl (by rintro l hl; obtain ⟨_, _, rfl⟩ := List.mem_map.1 hl; rfl) rfl (by first | (refine idx_map ?_; first | omega | (simp only [lnS]; omega)) | (refine idx_mapI ?_; first | omega | (simp only [lnS]; omega)) | (refine idx_mapN ?_; first | omega | (simp only [lnS]; omega)) | rfl)) (by first | (simp only [packA_t, packA_f, iE, bE, setAt, cellsA, Value.cells, map_vc, map_vn, Nat.reduceAdd, qS, tE, set_tE, set_iE] <;> rfl) | rfl)) trivial rfl ?_
                refine ds_ro' (ro_move (u4 rfl s7_14)) trivial rfl ?_
                refine ds_ro' (ro_move (up_m rfl (u4 rfl s5_14))) trivial rfl ?_
                first | (refine ds_ro' (ro_mul' (up_m rfl up_h) up_h ?_) trivial rfl ?_; · (unfold In64; omega)) | refine ds_ro' (ro_mul (up_m rfl up_h) up_h) trivial rfl ?_
                refine ds_ro' (ro_call (evL_cons (up_m rfl (u2 rfl up_h)) (evL_cons up_h evL_nil)) (by first | rfl | (simp only [roO.roL, roO, Bool.and_true, Bool.true_and]; (apply roL_flat; intro _; rfl))) (rTurned_ok (hs.getD k.toNat default) (k * n) ((Bd.getD hob (by decide) _).mono (by decide))) h7_hcf54) trivial rfl ?_
                refine ds_ro' (ro_call (evL_cons (up_m rfl (u2 rfl (u4 rfl up_h))) (evL_cons up_h evL_nil)) (by first | rfl | (simp only [roO.roL, roO, Bool.and_true, Bool.true_and]; (apply roL_flat; intro _; rfl))) (tAdd_ok u (turnV (hs.getD k.toNat default) (k * n)) (hs1.mono (by omega)) ((turnV_bd (Bd.getD hob (by decide) _) _).mono (by decide))) h7_hcf53) trivial rfl ?_
                refine ds_nil ?_
                refine al_stm (st_store (up_m rfl (u8 rfl s6_14)) up_h rfl rfl mon_7_13 h7_sz24 rfl (by first | exact Nat.le_of_ble_eq_true rfl | omega | (simp only [lnS] <;> omega) | (simp <;> omega))) trivial rfl (fun m_16 hm_16 => ?_)
                have mon_7_16 := m_set hm_16 mon_7_13
                (try simp only [packA_t, packA_f, iE, bE, setAt, cellsA, Value.cells, map_vc, map_vn, Nat.reduceAdd, qS, tE, set_tE, set_iE] at mon_7_16)
                have mo2_16 := m_set_o hm_16 mo2_13 (by omega)
                have mo1_16 := m_set_o hm_16 mo1_13 (by omega)
                have mo0_16 := m_set_o hm_16 mo0_13 (by omega)
                have ml_16 := m_set_l hm_16 ml_13
                clear hm_16 mon_7_13 mo2_13 mo1_13 mo0_13
                refine al_end (fun e_17 he_17 => ?_)
                have s1_17 := ef 1 he_17 (up_n (up_m rfl (u8 rfl s1_14)))
                have s2_17 := ef 2 he_17 (up_n (up_m rfl (u8 rfl s2_14)))
                have s4_17 := ef 4 he_17 (up_n (up_m rfl (u8 rfl s4_14)))
                have s5_17 := ef 5 he_17 (up_n (up_m rfl (u8 rfl s5_14)))
                have s6_17 := ef 6 he_17 (up_n (up_m rfl (u8 rfl s6_14)))
                have s7_17 := ef 7 he_17 (up_n (up_m rfl (u8 rfl s7_14)))
                clear he_17 s13_14 s1_14 s2_14 s4_14 s5_14 s6_14 s7_14
                refine block_n ?_
                refine then_n ?_
                refine aw_text (by kernel_rfl) ?_
                refine al_ro' (ro_move s7_17) trivial rfl ?_
                first | (refine al_ro' (ro_add' up_h ev_c ?_) trivial rfl ?_; · (unfold In64; omega)) | refine al_ro' (ro_add up_h ev_c) trivial rfl ?_
                refine al_ro' (ro_assign up_h) trivial rfl ?_
                refine al_end (fun e_18 he_18 => ?_)
                have s1_18 := ef 1 he_18 (up_m rfl (u2 rfl s1_17))
                have s2_18 := ef 2 he_18 (up_m rfl (u2 rfl s2_17))
                have s4_18 := ef 4 he_18 (up_m rfl (u2 rfl s4_17))
                have s5_18 := ef 5 he_18 (up_m rfl (u2 rfl s5_17))
                have s6_18 := ef 6 he_18 (up_m rfl (u2 rfl s6_17))
                have s7_18 := ef 7 he_18 up_h
                clear he_18 s1_17 s2_17 s4_17 s5_17 s6_17 s7_17
                refine then_n ?_
                refine ⟨⟨_, addV u (turnV (hs.getD k.toNat default) (k * n))⟩, ⟨s7_18, (s1_18.trans s1_12.symm), (s2_18.trans s2_12.symm), (s4_18.trans s4_12.symm), (s5_18.trans s5_12.symm), (s6_18.trans s6_12.symm), mon_7_16, (mo2_16.trans mo2_10.symm), (mo1_16.trans mo1_10.symm), (mo0_16.trans mo0_10.symm), ml_16, ?_⟩, ?_⟩
                · (refine ⟨by omega, by omega, ?_⟩; rw [show (k + 1).toNat = k.toNat + 1 by omega, trS, s3, Int.toNat_of_nonneg s1, show (1 : Int) * n * k = k * n by rw [Int.one_mul, Int.mul_comm]])
                · ((try dsimp only); omega))
           · (first | replace hq_15 := bnt hq_15 | replace hq_15 := bnf hq_15 | replace hq_15 := bt hq_15 | replace hq_15 := bf hq_15 | replace hq_15 := bt' hq_15 | replace hq_15 := bf' hq_15 | skip)
             first
             | (cases hq_15; done) | (exfalso; omega)
             | (
                (have hte : u = (trW hs 1).getD n.toNat default := (by rw [trW_at _ _ (by omega), s3, show k.toNat = 6 by omega, Int.toNat_of_nonneg r1]); have hsx := sixth_bd (trW_bd hob 1 (j := n.toNat) (by omega)); rw [← hte] at hsx; unfold sixth at hsx)
                refine aw_exit ?_
                refine then_x ?_
                refine then_x ?_
                refine block_hit ?_
                refine then_n ?_
                refine aw_seq ?_
                refine aw_seq ?_
                refine aw_cut (fun e mem => (evA e (.tmp 33) = .v (.bool (badS ((trW hs 1).getD n.toNat default)))) ∧ (evA e (.tmp 1) = evA e_14 (.tmp 1)) ∧ (evA e (.tmp 2) = evA e_14 (.tmp 2)) ∧ (evA e (.tmp 4) = evA e_14 (.tmp 4)) ∧ (evA e (.tmp 5) = evA e_14 (.tmp 5)) ∧ (evA e (.tmp 6) = evA e_14 (.tmp 6)) ∧ m_13 = mem) ?_ ?_
                ·
                  refine aw_text (by kernel_rfl) ?_
                  refine al_ro' (ro_fld_ptr h7_fl24_1 rfl s6_14) trivial rfl ?_
                  refine al_ro' (ro_eq (ro_ld_ptr h7_ty3 rfl mon_7_13 up_h (by first | exact Nat.le_of_ble_eq_true rfl | omega | (simp only [lnS] <;> omega) | (simp <;> omega))) (by first | (simp only [packA_t, packA_f, iE, bE, setAt, cellsA, Value.cells, map_vc, map_vn, Nat.reduceAdd, qS, tE, set_tE, set_iE] <;> rfl) | rfl)) trivial rfl ?_
                  refine al_ro' (ro_neq up_h ev_c) trivial rfl ?_
                  refine al_ro' (ro_move up_h) trivial rfl ?_
                  refine al_case up_h (fun hb_20 hq_20 => ?_) (fun hb_20 hq_20 => ?_)
                  · (first | replace hq_20 := bnt hq_20 | replace hq_20 := bnf hq_20 | replace hq_20 := bt hq_20 | replace hq_20 := bf hq_20 | replace hq_20 := bt' hq_20 | replace hq_20 := bf' hq_20 | skip)
                    first
                    | (cases hq_20; done) | (exfalso; omega)
                    | (
                       refine al_skip' ⟨_, rfl, .inl hb_20⟩ rfl ?_
                       refine al_skip' ⟨_, rfl, .inl (up_m rfl hb_20)⟩ rfl ?_
                       refine al_skip' ⟨_, rfl, .inl (u2 rfl hb_20)⟩ rfl ?_
                       refine al_skip' ⟨_, rfl, .inl (up_m rfl (u2 rfl hb_20))⟩ rfl ?_
                       refine al_ro' (ro_pickT (u4 rfl hb_20) ev_c) trivial rfl ?_
                       refine al_end (fun e_21 he_21 => ?_)
                       have s1_21 := ef 1 he_21 (up_m rfl (u8 rfl s1_14))
                       have s2_21 := ef 2 he_21 (up_m rfl (u8 rfl s2_14))
                       have s4_21 := ef 4 he_21 (up_m rfl (u8 rfl s4_14))
                       have s5_21 := ef 5 he_21 (up_m rfl (u8 rfl s5_14))
                       have s6_21 := ef 6 he_21 (up_m rfl (u8 rfl s6_14))
                       have s33_21 := ef 33 he_21 up_h
                       clear he_21
                       refine then_n ⟨(s33_21).trans (by (rw [← hte]; refine avb ?_; simp_all [badS])), (s1_21).trans (s1_14).symm, (s2_21).trans (s2_14).symm, (s4_21).trans (s4_14).symm, (s5_21).trans (s5_14).symm, (s6_21).trans (s6_14).symm, rfl⟩)
                  · (first | replace hq_20 := bnt hq_20 | replace hq_20 := bnf hq_20 | replace hq_20 := bt hq_20 | replace hq_20 := bf hq_20 | replace hq_20 := bt' hq_20 | replace hq_20 := bf' hq_20 | skip)
                    first
                    | (cases hq_20; done) | (exfalso; omega)
                    | (
                       refine al_ro' (ro_fld_ptr h7_fl24_0 rfl (u4 rfl s6_14)) ⟨_, rfl, hb_20⟩ rfl ?_
                       refine al_ro' (ro_eq (ro_ld_ptr h7_ty3 rfl mon_7_13 up_h (by first | exact Nat.le_of_ble_eq_true rfl | omega | (simp only [lnS] <;> omega) | (simp <;> omega))) (by first | (simp only [packA_t, packA_f, iE, bE, setAt, cellsA, Value.cells, map_vc, map_vn, Nat.reduceAdd, qS, tE, set_tE, set_iE] <;> rfl) | rfl)) ⟨_, rfl, (up_m rfl hb_20)⟩ rfl ?_
                       refine al_ro' (ro_rem up_h ev_c (by first | decide | omega)) ⟨_, rfl, (u2 rfl hb_20)⟩ rfl ?_
                       refine al_ro' (ro_neq up_h ev_c) ⟨_, rfl, (up_m rfl (u2 rfl hb_20))⟩ rfl ?_
                       refine al_ro' (ro_pickF (u4 rfl hb_20) up_h) trivial rfl ?_
                       refine al_end (fun e_22 he_22 => ?_)
                       have s1_22 := ef 1 he_22 (up_m rfl (u8 rfl s1_14))
                       have s2_22 := ef 2 he_22 (up_m rfl (u8 rfl s2_14))
                       have s4_22 := ef 4 he_22 (up_m rfl (u8 rfl s4_14))
                       have s5_22 := ef 5 he_22 (up_m rfl (u8 rfl s5_14))
                       have s6_22 := ef 6 he_22 (up_m rfl (u8 rfl s6_14))
                       have s33_22 := ef 33 he_22 up_h
                       clear he_22
                       refine then_n ⟨(s33_22).trans (by (rw [← hte]; refine avb ?_; simp_all [badS])), (s1_22).trans (s1_14).symm, (s2_22).trans (s2_14).symm, (s4_22).trans (s4_14).symm, (s5_22).trans (s5_14).symm, (s6_22).trans (s6_14).symm, rfl⟩)
                · rintro e_19 _ ⟨s33_19, k1_19, k2_19, k4_19, k5_19, k6_19, rfl⟩
                  have s1_19 := k1_19.trans s1_14
                  have s2_19 := k2_19.trans s2_14
                  have s4_19 := k4_19.trans s4_14
                  have s5_19 := k5_19.trans s5_14
                  have s6_19 := k6_19.trans s6_14
                  refine aw_case s33_19 (fun hq_23 => ?_) (fun hq_23 => ?_)
                  · (first | replace hq_23 := bnt hq_23 | replace hq_23 := bnf hq_23 | replace hq_23 := bt hq_23 | replace hq_23 := bf hq_23 | replace hq_23 := bt' hq_23 | replace hq_23 := bf' hq_23 | skip)
                    first
                    | (cases hq_23; done) | (exfalso; omega)
                    | (
                       refine aw_seq ?_
                       refine aw_text (by kernel_rfl) ?_
                       refine al_ro' (ro_eq (ro_buildA evP_nil h7_bz22 h7_bu22 h7_bp22 rfl) (show _ = AV.agg ((i6.map iE).flatten) from rfl)) trivial rfl ?_
                       refine al_stm (st_store_all (up_m rfl s2_19) up_h rfl (by first | rfl | (apply oneL_flat; intro _; rfl)) mo1_13 h7_sz22 (by first | rfl | (rw [flat_map_len (k := 1)] <;> first | omega | (intro _; rfl))) (by first | rfl | (rw [flat_map_len (k := 1)] <;> first | omega | (intro _; rfl)))) trivial rfl (fun m_24 hm_24 => ?_)
                       have mo1_24 := m_set hm_24 mo1_13
                       (try simp only [packA_t, packA_f, iE, bE, setAt, cellsA, Value.cells, map_vc, map_vn, Nat.reduceAdd, qS, tE, set_tE, set_iE] at mo1_24)
                       have mon_7_24 := m_set_o hm_24 mon_7_13 (by omega)
                       have mo2_24 := m_set_o hm_24 mo2_13 (by decide)
                       have mo0_24 := m_set_o hm_24 mo0_13 (by decide)
                       have ml_24 := m_set_l hm_24 ml_13
                       clear hm_24 mon_7_13 mo2_13 mo1_13 mo0_13
                       refine al_ro' (ro_assign ev_c) trivial rfl ?_
                       refine al_end (fun e_25 he_25 => ?_)
                       have s2_25 := ef 2 he_25 (up_m rfl (up_n (up_m rfl s2_19)))
                       have s3_25 := ef 3 he_25 up_h
                       clear he_25 s1_19 s2_19 s33_19 s4_19 s5_19 s6_19
                       refine then_n ?_
                       refine aw_ret ?_
                       refine then_r ?_
                       refine block_r ?_
                       refine then_r ?_
                       refine then_r ?_
                       refine block_r ?_
                       refine then_r ?_
                       refine ret2 (.inr rfl) (by kernel_rfl) (resV_cell s2_25 mo1_24 h7_ty22 (by first | exact Nat.le_of_ble_eq_true rfl | (rw [flat_map_len (k := 1)] <;> first | omega | (intro _; rfl))) (by simp)) (resV_tmp s3_25) (vw_r (.ro _ (by first | rfl | (apply ro_aggF; intro _; rfl) | (apply roL_flat; intro _; rfl)))) (.ro _ rfl) ?_
                       clear s2_25 s3_25 mo1_24 mon_7_24 mo2_24 mo0_24 ml_24
                       (have h1 : (trW hs 1).any badS = true := any_true (i := n.toNat) (by rw [trW_len]; omega) (by assumption); have h3 : smpE hs = 3 := (by unfold smpE; rw [h1]; rfl); rw [rSmpV, h3]; rfl))
                  · (first | replace hq_23 := bnt hq_23 | replace hq_23 := bnf hq_23 | replace hq_23 := bt hq_23 | replace hq_23 := bf hq_23 | replace hq_23 := bt' hq_23 | replace hq_23 := bf' hq_23 | skip)
                    first
                    | (cases hq_23; done) | (exfalso; omega)
                    | (
                       refine aw_skip ?_
                       refine then_n ?_
                       refine aw_text (by kernel_rfl) ?_
                       refine al_ro' (ro_move s5_19) trivial rfl ?_
                       refine al_ro' (ro_fld_ptr h7_fl24_0 rfl (up_m rfl s6_19)) trivial rfl ?_
                       refine al_ro' (ro_eq (ro_ld_ptr h7_ty3 rfl mon_7_13 up_h (by first | exact Nat.le_of_ble_eq_true rfl | omega | (simp only [lnS] <;> omega) | (simp <;> omega))) (by first | (simp only [packA_t, packA_f, iE, bE, setAt, cellsA, Value.cells, map_vc, map_vn, Nat.reduceAdd, qS, tE, set_tE, set_iE] <;> rfl) | rfl)) trivial rfl ?_
                       first | (refine al_ro' (ro_quo' up_h ev_c (by first | decide | omega) ?_) trivial rfl ?_; · (unfold In64; omega)) | refine al_ro' (ro_quo up_h ev_c (by first | decide | omega)) trivial rfl ?_
                       refine al_ro' (ro_ixaD h7_ar22 (u4 rfl s4_19) (up_m rfl (u2 rfl up_h)) (by first | decide | omega | (simp <;> omega)) (by first | omega | (simp only [lnS] <;> omega) | (simp <;> omega))) trivial rfl ?_
                       refine al_stm (st_store_ael up_h (up_m rfl up_h) rfl rfl mo2_13 rfl (by rintro l hl; obtain ⟨_, _, rfl⟩ := List.mem_map.1 hl; rfl) h7_sz3 rfl rfl (by first | omega | (simp only [lnS] <;> omega) | (simp <;> omega))) trivial rfl (fun m_26 hm_26 => ?_)
                       have mo2_26 := m_set hm_26 mo2_13
                       (try simp only [packA_t, packA_f, iE, bE, setAt, cellsA, Value.cells, map_vc, map_vn, Nat.reduceAdd, qS, tE, set_tE, set_iE] at mo2_26)
                       have mon_7_26 := m_set_o hm_26 mon_7_13 (by omega)
                       have mo1_26 := m_set_o hm_26 mo1_13 (by decide)
                       have mo0_26 := m_set_o hm_26 mo0_13 (by decide)
                       have ml_26 := m_set_l hm_26 ml_13
                       clear hm_26 mon_7_13 mo2_13 mo1_13 mo0_13
                       refine al_end (fun e_27 he_27 => ?_)
                       have s1_27 := ef 1 he_27 (up_n (up_m rfl (u4 rfl s1_19)))
                       have s2_27 := ef 2 he_27 (up_n (up_m rfl (u4 rfl s2_19)))
                       have s4_27 := ef 4 he_27 (up_n (up_m rfl (u4 rfl s4_19)))
                       have s5_27 := ef 5 he_27 (up_n (up_m rfl (u4 rfl s5_19)))
                       clear he_27 s1_19 s2_19 s33_19 s4_19 s5_19 s6_19
                       refine block_n ?_
                       refine then_n ?_
                       refine aw_text (by kernel_rfl) ?_
                       refine al_ro' (ro_move s5_27) trivial rfl ?_
                       first | (refine al_ro' (ro_add' up_h ev_c ?_) trivial rfl ?_; · (unfold In64; omega)) | refine al_ro' (ro_add up_h ev_c) trivial rfl ?_
                       refine al_ro' (ro_assign up_h) trivial rfl ?_
                       refine al_end (fun e_28 he_28 => ?_)
                       have s1_28 := ef 1 he_28 (up_m rfl (u2 rfl s1_27))
                       have s2_28 := ef 2 he_28 (up_m rfl (u2 rfl s2_27))
                       have s4_28 := ef 4 he_28 (up_m rfl (u2 rfl s4_27))
                       have s5_28 := ef 5 he_28 up_h
                       clear he_28 s1_27 s2_27 s4_27 s5_27
                       refine then_n ?_
                       refine ⟨⟨_, _⟩, ⟨s5_28, (s1_28.trans s1_6.symm), (s2_28.trans s2_6.symm), (s4_28.trans s4_6.symm), mo2_26, (mo1_26.trans mo1_4.symm), (mo0_26.trans mo0_4.symm), ⟨_, ml_26, by omega⟩, ?_⟩, ?_⟩
                       · (refine ⟨by omega, by omega, by simp [r3], fun j hj => ?_, fun j hj => ?_⟩; (by_cases hji : j < n.toNat; (exact r5 j hji); (rw [show j = n.toNat by omega]; assumption)); (rw [getD_setV (by omega)]; by_cases hjk : j = n.toNat; (rw [if_pos hjk, if_pos (by omega), hjk, hte]; rfl); (rw [if_neg hjk, r4 j hj]; by_cases hjl : j < n.toNat; (rw [if_pos hjl, if_pos (by omega)]); (rw [if_neg hjl, if_neg (by omega)]))))
                       · ((try dsimp only); omega))))
    · (first | replace hq_9 := bnt hq_9 | replace hq_9 := bnf hq_9 | replace hq_9 := bt hq_9 | replace hq_9 := bf hq_9 | replace hq_9 := bt' hq_9 | replace hq_9 := bf' hq_9 | skip)
      first
      | (cases hq_9; done) | (exfalso; omega)
      | (
         (have hzn : (trW hs 1).any badS = false := any_false (fun j hj => r5 j (by omega)); have hze : zs = outW hs := list_ext' (by rw [outW_len]; omega) (fun j hj => by rw [r4 j (by omega), if_pos (by omega), outW_at _ (by omega)]); have hse : smpE hs = phasesE zs := (by unfold smpE; rw [hzn, hze]; rfl))
         refine aw_exit ?_
         refine then_x ?_
         refine then_x ?_
         refine block_hit ?_
         refine then_n ?_
         refine aw_seq ?_
         refine aw_seq ?_
         refine aw_text (by kernel_rfl) ?_
         refine al_ro' (ro_ld_all h7_ty22 mo2_7 s4_8 (by first | rfl | (rw [flat_map_len (k := 1)] <;> first | omega | (intro _; rfl)))) trivial rfl ?_
         refine al_ro' (ro_call (evL_cons up_h evL_nil) (by first | rfl | (simp only [roO.roL, roO, Bool.and_true, Bool.true_and]; (apply roL_flat; intro _; rfl))) (samplesErr_ok zs (by omega)) h7_hcf13) trivial rfl ?_
         refine al_ro' (ro_neq up_h ev_c) trivial rfl ?_
         refine al_end (fun e_29 he_29 => ?_)
         have s2_29 := ef 2 he_29 (up_m rfl (u2 rfl s2_8))
         have s4_29 := ef 4 he_29 (up_m rfl (u2 rfl s4_8))
         have s42_29 := ef 42 he_29 up_h
         clear he_29 s1_8 s2_8 s4_8 s5_8 s9_8
         refine then_n ?_
         refine aw_case s42_29 (fun hq_30 => ?_) (fun hq_30 => ?_)
         · (first | replace hq_30 := bnt hq_30 | replace hq_30 := bnf hq_30 | replace hq_30 := bt hq_30 | replace hq_30 := bf hq_30 | replace hq_30 := bt' hq_30 | replace hq_30 := bf' hq_30 | skip)
           first
           | (cases hq_30; done) | (exfalso; omega)
           | (
              refine aw_seq ?_
              refine aw_text (by kernel_rfl) ?_
              refine al_ro' (ro_eq (ro_buildA evP_nil h7_bz22 h7_bu22 h7_bp22 rfl) (show _ = AV.agg ((i6.map iE).flatten) from rfl)) trivial rfl ?_
              refine al_stm (st_store_all (up_m rfl s2_29) up_h rfl (by first | rfl | (apply oneL_flat; intro _; rfl)) mo1_7 h7_sz22 (by first | rfl | (rw [flat_map_len (k := 1)] <;> first | omega | (intro _; rfl))) (by first | rfl | (rw [flat_map_len (k := 1)] <;> first | omega | (intro _; rfl)))) trivial rfl (fun m_31 hm_31 => ?_)
              have mo1_31 := m_set hm_31 mo1_7
              (try simp only [packA_t, packA_f, iE, bE, setAt, cellsA, Value.cells, map_vc, map_vn, Nat.reduceAdd, qS, tE, set_tE, set_iE] at mo1_31)
              have mo2_31 := m_set_o hm_31 mo2_7 (by decide)
              have mo0_31 := m_set_o hm_31 mo0_7 (by decide)
              have ml_31 := m_set_l hm_31 ml_7
              clear hm_31 mo2_7 mo1_7 mo0_7
              refine al_ro' (ro_assign ev_c) trivial rfl ?_
              refine al_end (fun e_32 he_32 => ?_)
              have s2_32 := ef 2 he_32 (up_m rfl (up_n (up_m rfl s2_29)))
              have s3_32 := ef 3 he_32 up_h
              clear he_32 s2_29 s42_29 s4_29
              refine then_n ?_
              refine aw_ret ?_
              refine then_r ?_
              refine ret2 (.inr rfl) (by kernel_rfl) (resV_cell s2_32 mo1_31 h7_ty22 (by first | exact Nat.le_of_ble_eq_true rfl | (rw [flat_map_len (k := 1)] <;> first | omega | (intro _; rfl))) (by simp)) (resV_tmp s3_32) (vw_r (.ro _ (by first | rfl | (apply ro_aggF; intro _; rfl) | (apply roL_flat; intro _; rfl)))) (.ro _ rfl) ?_
              clear s2_32 s3_32 mo1_31 mo2_31 mo0_31 ml_31
              (have hn := ‹¬ phasesE zs = 0›; rw [rSmpV, hse, if_neg hn, (phases_two zs).resolve_left hn]; rfl))
         · (first | replace hq_30 := bnt hq_30 | replace hq_30 := bnf hq_30 | replace hq_30 := bt hq_30 | replace hq_30 := bf hq_30 | replace hq_30 := bt' hq_30 | replace hq_30 := bf' hq_30 | skip)
           first
           | (cases hq_30; done) | (exfalso; omega)
           | (
              refine aw_skip ?_
              refine then_n ?_
              refine aw_seq ?_
              refine aw_text (by kernel_rfl) ?_
              refine al_ro' (ro_ld_all h7_ty22 mo2_7 s4_29 (by first | rfl | (rw [flat_map_len (k := 1)] <;> first | omega | (intro _; rfl)))) trivial rfl ?_
              refine al_stm (st_store_all (up_m rfl s2_29) up_h rfl (by first | rfl | (apply oneL_flat; intro _; rfl)) mo1_7 h7_sz22 (by first | rfl | (rw [flat_map_len (k := 1)] <;> first | omega | (intro _; rfl))) (by first | rfl | (rw [flat_map_len (k := 1)] <;> first | omega | (intro _; rfl)))) trivial rfl (fun m_33 hm_33 => ?_)
              have mo1_33 := m_set hm_33 mo1_7
              (try simp only [packA_t, packA_f, iE, bE, setAt, cellsA, Value.cells, map_vc, map_vn, Nat.reduceAdd, qS, tE, set_tE, set_iE] at mo1_33)
              have mo2_33 := m_set_o hm_33 mo2_7 (by decide)
              have mo0_33 := m_set_o hm_33 mo0_7 (by decide)
              have ml_33 := m_set_l hm_33 ml_7
              clear hm_33 mo2_7 mo1_7 mo0_7
              refine al_ro' (ro_assign ev_c) trivial rfl ?_
              refine al_end (fun e_34 he_34 => ?_)
              have s2_34 := ef 2 he_34 (up_m rfl (up_n (up_m rfl s2_29)))
              have s3_34 := ef 3 he_34 up_h
              clear he_34 s2_29 s42_29 s4_29
              refine then_n ?_
              refine aw_ret ?_
              refine ret2 (.inr rfl) (by kernel_rfl) (resV_cell s2_34 mo1_33 h7_ty22 (by first | exact Nat.le_of_ble_eq_true rfl | (rw [flat_map_len (k := 1)] <;> first | omega | (intro _; rfl))) (by simp)) (resV_tmp s3_34) (vw_r (.ro _ (by first | rfl | (apply ro_aggF; intro _; rfl) | (apply roL_flat; intro _; rfl)))) (.ro _ rfl) ?_
              clear s2_34 s3_34 mo1_33 mo2_33 mo0_33 ml_33
              (have hn := ‹phasesE zs = 0›; rw [take_flat_all (k := 1) (fun _ => rfl) (by omega), rSmpV, hse, if_pos hn, hn, hze])))
end Go.Proofs.YtgiiedpambimoaaDoor

