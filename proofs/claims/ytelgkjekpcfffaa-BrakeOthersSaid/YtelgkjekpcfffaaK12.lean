/- Contracts of chapter 5: copies, the law's own plant, whether the program is awake. No conditions on a program. -/
import Derived.Test.YtelgkjekpcfffaaK11
namespace Go.Proofs.Ytelgkjekpcfffaa
open Go Go.RowKit Go.Proofs
set_option linter.unusedSimpArgs false
set_option linter.unusedVariables false
theorem k12_az24 : (Try.prog.info? 24).bind (·.zero) = some (.agg #[.string ByteArray.empty, .slice none 0 0]) := by kernel_rfl
theorem k12_az26 : (Try.prog.info? 26).bind (·.zero) = some (.agg #[.int .i64 0, .int .i64 0, .int .i64 0]) := by kernel_rfl
theorem k12_az68 : (Try.prog.info? 68).bind (·.zero) = some (.agg #[.int .i64 0, .int .i64 0]) := by kernel_rfl
theorem k12_bz27 : (Try.prog.info? 27).bind (·.zero) = some (.agg #[.int .i64 0, .int .i64 0]) := by kernel_rfl
theorem k12_bu27 : Try.prog.underlying 27 = some (.array 2 3) := by kernel_rfl
theorem k12_bp27 : (Try.prog.info? 3).map (·.size) = some 1 := by kernel_rfl
theorem k12_bz24 : (Try.prog.info? 24).bind (·.zero) = some (.agg #[.string ByteArray.empty, .slice none 0 0]) := by kernel_rfl
theorem k12_bu24 : Try.prog.underlying 24 = some (.struct (fsOf Try.prog 24)) := by kernel_rfl
theorem k12_bp24 : ∀ w, ((fsOf Try.prog 24).mapM fun f => Prod.mk f.offset <$> sizeOf f.type : Sem (Array (Nat × Nat))).run Try.prog w = .ok (#[(0, 1), (1, 1)]) w := fun _ => by kernel_rfl
theorem k12_bz26 : (Try.prog.info? 26).bind (·.zero) = some (.agg #[.int .i64 0, .int .i64 0, .int .i64 0]) := by kernel_rfl
theorem k12_bu26 : Try.prog.underlying 26 = some (.struct (fsOf Try.prog 26)) := by kernel_rfl
theorem k12_bp26 : ∀ w, ((fsOf Try.prog 26).mapM fun f => Prod.mk f.offset <$> sizeOf f.type : Sem (Array (Nat × Nat))).run Try.prog w = .ok (#[(0, 1), (1, 1), (2, 1)]) w := fun _ => by kernel_rfl
theorem k12_bz42 : (Try.prog.info? 42).bind (·.zero) = some (.agg #[.int .i64 0, .int .i64 0]) := by kernel_rfl
theorem k12_bu42 : Try.prog.underlying 42 = some (.struct (fsOf Try.prog 42)) := by kernel_rfl
theorem k12_bp42 : ∀ w, ((fsOf Try.prog 42).mapM fun f => Prod.mk f.offset <$> sizeOf f.type : Sem (Array (Nat × Nat))).run Try.prog w = .ok (#[(0, 1), (1, 1)]) w := fun _ => by kernel_rfl
theorem k12_bz66 : (Try.prog.info? 66).bind (·.zero) = some (.agg #[.int .i64 0, .int .i64 0, .int .i64 0, .bool false]) := by kernel_rfl
theorem k12_bu66 : Try.prog.underlying 66 = some (.struct (fsOf Try.prog 66)) := by kernel_rfl
theorem k12_bp66 : ∀ w, ((fsOf Try.prog 66).mapM fun f => Prod.mk f.offset <$> sizeOf f.type : Sem (Array (Nat × Nat))).run Try.prog w = .ok (#[(0, 1), (1, 1), (2, 1), (3, 1)]) w := fun _ => by kernel_rfl
theorem k12_bz68 : (Try.prog.info? 68).bind (·.zero) = some (.agg #[.int .i64 0, .int .i64 0]) := by kernel_rfl
theorem k12_bu68 : Try.prog.underlying 68 = some (.struct (fsOf Try.prog 68)) := by kernel_rfl
theorem k12_bp68 : ∀ w, ((fsOf Try.prog 68).mapM fun f => Prod.mk f.offset <$> sizeOf f.type : Sem (Array (Nat × Nat))).run Try.prog w = .ok (#[(0, 1), (1, 1)]) w := fun _ => by kernel_rfl
theorem k12_fl24_0 : FldIs Try.prog 24 0 0 false 1 := by unfold FldIs; kernel_rfl
theorem k12_fl24_1 : FldIs Try.prog 24 1 1 false 1 := by unfold FldIs; kernel_rfl
theorem k12_hcf17 : ∀ args w, (callFunc 17 args).run Try.prog w = .ok (.enter 17 args) w := fun _ _ => by kernel_rfl
theorem k12_hcf22 : ∀ args w, (callFunc 22 args).run Try.prog w = .ok (.enter 22 args) w := fun _ _ => by kernel_rfl
theorem k12_hcf24 : ∀ args w, (callFunc 24 args).run Try.prog w = .ok (.enter 24 args) w := fun _ _ => by kernel_rfl
theorem k12_hcf28 : ∀ args w, (callFunc 28 args).run Try.prog w = .ok (.enter 28 args) w := fun _ _ => by kernel_rfl
theorem k12_hcf40 : ∀ args w, (callFunc 40 args).run Try.prog w = .ok (.enter 40 args) w := fun _ _ => by kernel_rfl
theorem k12_hcf60 : ∀ args w, (callFunc 60 args).run Try.prog w = .ok (.enter 60 args) w := fun _ _ => by kernel_rfl
theorem k12_hcf61 : ∀ args w, (callFunc 61 args).run Try.prog w = .ok (.enter 61 args) w := fun _ _ => by kernel_rfl
theorem k12_sl22 : SlIs Try.prog 22 66 4 32 (.agg #[.int .i64 0, .int .i64 0, .int .i64 0, .bool false]) := ⟨by kernel_rfl, by kernel_rfl, by kernel_rfl⟩
theorem k12_sl30 : SlIs Try.prog 30 3 1 8 (.int .i64 0) := ⟨by kernel_rfl, by kernel_rfl, by kernel_rfl⟩
theorem k12_sz24 : (Try.prog.info? 24).map (·.size) = some 2 := by kernel_rfl
theorem k12_sz26 : (Try.prog.info? 26).map (·.size) = some 3 := by kernel_rfl
theorem k12_sz68 : (Try.prog.info? 68).map (·.size) = some 2 := by kernel_rfl
theorem k12_ty22 : TyIs Try.prog 22 false 1 := ⟨by kernel_rfl, by kernel_rfl⟩
theorem k12_ty24 : TyIs Try.prog 24 true 2 := ⟨by kernel_rfl, by kernel_rfl⟩
theorem k12_ty26 : TyIs Try.prog 26 true 3 := ⟨by kernel_rfl, by kernel_rfl⟩
theorem k12_ty68 : TyIs Try.prog 68 true 2 := ⟨by kernel_rfl, by kernel_rfl⟩
theorem k12_ty9 : TyIs Try.prog 9 false 1 := ⟨by kernel_rfl, by kernel_rfl⟩
theorem k12_un9 : Try.prog.underlying 9 = some .string := by kernel_rfl

set_option maxRecDepth 100000 in
set_option maxHeartbeats 1000000 in
theorem rCopy_ok (nm : ByteArray) (ps : List Piece) (hp : ps.length ≤ 1000000000) : FnOk Try.prog 18 [trA nm ps] (fun q => q = trA nm ps) := by
  refine fnOk_of (fn := Try.f18) 10 (by kernel_rfl) rfl (by kernel_rfl) (Nat.le_of_ble_eq_true rfl) ?_
  intro e_0 m_0 hA hm_0
  have s0_0 : evA e_0 (.tmp 0) = _ := hA 0 _ rfl
  have ml_0 : m_0.length = 0 := by rw [hm_0]; rfl
  clear hA hm_0
  refine aw_seq ?_
  refine aw_text (by kernel_rfl) ?_
  refine al_stm (st_box s0_0 rfl ml_0) trivial rfl (fun m_1 hm_1 => ?_)
  have mo0_1 := m_push hm_1 ml_0
  (try simp only [packA_t, packA_f, iE, bE, setAt, cellsA, Value.cells, map_vc, map_vn, Nat.reduceAdd, qS] at mo0_1)
  have ml_1 := m_push_l hm_1 ml_0
  have ml_1 : _ = 1 := ml_1
  clear hm_1
  refine al_stm (st_alloc k12_az24 rfl ml_1) trivial rfl (fun m_2 hm_2 => ?_)
  have mo1_2 := m_push hm_2 ml_1
  (try simp only [packA_t, packA_f, iE, bE, setAt, cellsA, Value.cells, map_vc, map_vn, Nat.reduceAdd, qS] at mo1_2)
  have mo0_2 := m_push_o hm_2 mo0_1
  have ml_2 := m_push_l hm_2 ml_1
  have ml_2 : _ = 2 := ml_2
  clear hm_2 mo0_1
  refine al_end (fun e_3 he_3 => ?_)
  have s1_3 := ef 1 he_3 (up_m rfl up_h)
  have s2_3 := ef 2 he_3 up_h
  clear he_3 s0_0
  refine then_n ?_
  refine aw_seq ?_
  refine aw_draw 7 (by kernel_rfl) (by kernel_rfl) (by kernel_rfl) (by kernel_rfl) ?_
  refine ds_ro' (ro_fld_ptr k12_fl24_0 rfl s1_3) trivial rfl ?_
  refine ds_ro' (ro_eq (ro_ld_ptr k12_ty9 rfl mo0_2 up_h (by first | exact Nat.le_of_ble_eq_true rfl | omega | (simp only [lnS] <;> omega) | (simp <;> omega))) (by first | (simp only [packA_t, packA_f, iE, bE, setAt, cellsA, Value.cells, map_vc, map_vn, Nat.reduceAdd, qS] <;> rfl) | rfl)) trivial rfl ?_
  refine ds_ro' (ro_lit0 k12_sl22) trivial rfl ?_
  refine ds_ro' (ro_fld_ptr k12_fl24_1 rfl (up_m rfl (u2 rfl s1_3))) trivial rfl ?_
  refine ds_ro' (ro_eq (ro_ld_ptr k12_ty22 rfl mo0_2 up_h (by first | exact Nat.le_of_ble_eq_true rfl | omega | (simp only [lnS] <;> omega) | (simp <;> omega))) (by first | (simp only [packA_t, packA_f, iE, bE, setAt, cellsA, Value.cells, map_vc, map_vn, Nat.reduceAdd, qS] <;> rfl) | rfl)) trivial rfl ?_
  refine ds_ro' (ro_ape k12_sl22 rfl (u2 rfl up_h) up_h (by first | omega | (simp only [lnS] <;> omega) | (simp <;> omega))) trivial rfl ?_
  refine ds_ro' (ro_build (evP_cons (u4 rfl up_h) (evP_cons up_h evP_nil)) k12_bz24 k12_bu24 k12_bp24 rfl) trivial rfl ?_
  refine ds_nil ?_
  refine al_stm (st_store (up_m rfl (u2 rfl (u4 rfl s2_3))) up_h rfl rfl mo1_2 k12_sz24 rfl (by first | exact Nat.le_of_ble_eq_true rfl | omega | (simp only [lnS] <;> omega) | (simp <;> omega))) trivial rfl (fun m_4 hm_4 => ?_)
  have mo1_4 := m_set hm_4 mo1_2
  (try simp only [packA_t, packA_f, iE, bE, setAt, cellsA, Value.cells, map_vc, map_vn, Nat.reduceAdd, qS] at mo1_4)
  have mo0_4 := m_set_o hm_4 mo0_2 (by decide)
  have ml_4 := m_set_l hm_4 ml_2
  clear hm_4 mo1_2 mo0_2
  refine al_end (fun e_5 he_5 => ?_)
  have s2_5 := ef 2 he_5 (up_n (up_m rfl (u2 rfl (u4 rfl s2_3))))
  clear he_5 s1_3 s2_3
  refine then_n ?_
  refine aw_ret ?_
  refine ret1 (.inr rfl) (by kernel_rfl) (resV_cell s2_5 mo1_4 k12_ty24 (by first | exact Nat.le_of_ble_eq_true rfl | omega | (simp only [lnS] <;> omega) | (simp <;> omega)) (by simp)) (vw_r (.ro _ rfl)) ?_
  clear s2_5 mo1_4 mo0_4 ml_4
  rfl
set_option maxRecDepth 100000 in
set_option maxHeartbeats 1000000 in
theorem short_ok (nm : ByteArray) (ps : List Piece) : FnOk Try.prog 16 [trA nm ps] (fun q => q = bA (decide (nm.size ≤ 30 ∧ ps.length ≤ 14))) := by
  refine fnOk_of (fn := Try.f16) 13 (by kernel_rfl) rfl (by kernel_rfl) (Nat.le_of_ble_eq_true rfl) ?_
  intro e_0 m_0 hA hm_0
  have s0_0 : evA e_0 (.tmp 0) = _ := hA 0 _ rfl
  have ml_0 : m_0.length = 0 := by rw [hm_0]; rfl
  clear hA hm_0
  refine aw_seq ?_
  refine aw_text (by kernel_rfl) ?_
  refine al_stm (st_box s0_0 rfl ml_0) trivial rfl (fun m_1 hm_1 => ?_)
  have mo0_1 := m_push hm_1 ml_0
  (try simp only [packA_t, packA_f, iE, bE, setAt, cellsA, Value.cells, map_vc, map_vn, Nat.reduceAdd, qS] at mo0_1)
  have ml_1 := m_push_l hm_1 ml_0
  have ml_1 : _ = 1 := ml_1
  clear hm_1
  refine al_ro' (ro_assign ev_c) trivial rfl ?_
  refine al_end (fun e_2 he_2 => ?_)
  have s1_2 := ef 1 he_2 (up_m rfl up_h)
  clear he_2 s0_0
  refine then_n ?_
  refine aw_seq ?_
  refine aw_text (by kernel_rfl) ?_
  refine al_ro' (ro_fld_ptr k12_fl24_0 rfl s1_2) trivial rfl ?_
  refine al_ro' (ro_eq (ro_ld_ptr k12_ty9 rfl mo0_1 up_h (by first | exact Nat.le_of_ble_eq_true rfl | omega | (simp only [lnS] <;> omega) | (simp <;> omega))) (by first | (simp only [packA_t, packA_f, iE, bE, setAt, cellsA, Value.cells, map_vc, map_vn, Nat.reduceAdd, qS] <;> rfl) | rfl)) trivial rfl ?_
  refine al_ro' (ro_len_str up_h rfl k12_un9) trivial rfl ?_
  refine al_ro' (ro_leq up_h ev_c) trivial rfl ?_
  refine al_ro' (ro_move up_h) trivial rfl ?_
  refine al_case up_h (fun hb_3 hq_3 => ?_) (fun hb_3 hq_3 => ?_)
  · (first | replace hq_3 := bnt hq_3 | replace hq_3 := bnf hq_3 | replace hq_3 := bt hq_3 | replace hq_3 := bf hq_3 | replace hq_3 := bt' hq_3 | replace hq_3 := bf' hq_3 | skip)
    first
    | (cases hq_3; done) | (exfalso; omega)
    | (
       refine al_ro' (ro_fld_ptr k12_fl24_1 rfl (up_m rfl (u4 rfl s1_2))) ⟨_, rfl, hb_3⟩ rfl ?_
       refine al_ro' (ro_eq (ro_ld_ptr k12_ty22 rfl mo0_1 up_h (by first | exact Nat.le_of_ble_eq_true rfl | omega | (simp only [lnS] <;> omega) | (simp <;> omega))) (by first | (simp only [packA_t, packA_f, iE, bE, setAt, cellsA, Value.cells, map_vc, map_vn, Nat.reduceAdd, qS] <;> rfl) | rfl)) ⟨_, rfl, (up_m rfl hb_3)⟩ rfl ?_
       refine al_ro' (ro_eq (ro_len_row up_h rfl k12_sl22.1) (by first | (simp only [lnS] <;> rfl) | rfl)) ⟨_, rfl, (u2 rfl hb_3)⟩ rfl ?_
       refine al_ro' (ro_leq up_h ev_c) ⟨_, rfl, (up_m rfl (u2 rfl hb_3))⟩ rfl ?_
       refine al_ro' (ro_pickT (u4 rfl hb_3) up_h) trivial rfl ?_
       refine al_ro' (ro_assign up_h) trivial rfl ?_
       refine al_end (fun e_4 he_4 => ?_)
       have s2_4 := ef 2 he_4 up_h
       clear he_4 hb_3 s1_2
       refine then_n ?_
       refine aw_ret ?_
       refine ret1 (.inr rfl) (by kernel_rfl) (resV_tmp s2_4) (.ro _ rfl) ?_
       clear s2_4 mo0_1 ml_1
       (refine avb ?_; simp only [decide_eq_true_eq, Bool.false_eq_true, true_iff, false_iff]; omega))
  · (first | replace hq_3 := bnt hq_3 | replace hq_3 := bnf hq_3 | replace hq_3 := bt hq_3 | replace hq_3 := bf hq_3 | replace hq_3 := bt' hq_3 | replace hq_3 := bf' hq_3 | skip)
    first
    | (cases hq_3; done) | (exfalso; omega)
    | (
       refine al_skip' ⟨_, rfl, .inl hb_3⟩ rfl ?_
       refine al_skip' ⟨_, rfl, .inl (up_m rfl hb_3)⟩ rfl ?_
       refine al_skip' ⟨_, rfl, .inl (u2 rfl hb_3)⟩ rfl ?_
       refine al_skip' ⟨_, rfl, .inl (up_m rfl (u2 rfl hb_3))⟩ rfl ?_
       refine al_ro' (ro_pickF (u4 rfl hb_3) ev_c) trivial rfl ?_
       refine al_ro' (ro_assign up_h) trivial rfl ?_
       refine al_end (fun e_5 he_5 => ?_)
       have s2_5 := ef 2 he_5 up_h
       clear he_5 hb_3 s1_2
       refine then_n ?_
       refine aw_ret ?_
       refine ret1 (.inr rfl) (by kernel_rfl) (resV_tmp s2_5) (.ro _ rfl) ?_
       clear s2_5 mo0_1 ml_1
       (refine avb ?_; simp only [decide_eq_true_eq, Bool.false_eq_true, true_iff, false_iff]; omega))
def nm0 : ByteArray := ⟨#[116]⟩
def tr0 : List Piece := [⟨100, 0, 10000, false⟩, ⟨100, 0, 8000, true⟩, ⟨50, -10, 10000, false⟩, ⟨200, 0, 10000, true⟩]
set_option maxRecDepth 100000 in
set_option maxHeartbeats 1000000 in
theorem track0_ok : FnOk Try.prog 60 [] (fun q => q = trA nm0 tr0) := by
  refine fnOk_of (fn := Try.f60) 7 (by kernel_rfl) rfl (by kernel_rfl) (Nat.le_of_ble_eq_true rfl) ?_
  intro e_0 m_0 hA hm_0
  have ml_0 : m_0.length = 0 := by rw [hm_0]; rfl
  clear hA hm_0
  refine aw_seq ?_
  refine aw_text (by kernel_rfl) ?_
  refine al_stm (st_alloc k12_az24 rfl ml_0) trivial rfl (fun m_1 hm_1 => ?_)
  have mo0_1 := m_push hm_1 ml_0
  (try simp only [packA_t, packA_f, iE, bE, setAt, cellsA, Value.cells, map_vc, map_vn, Nat.reduceAdd, qS] at mo0_1)
  have ml_1 := m_push_l hm_1 ml_0
  have ml_1 : _ = 1 := ml_1
  clear hm_1
  refine al_end (fun e_2 he_2 => ?_)
  have s0_2 := ef 0 he_2 up_h
  clear he_2
  refine then_n ?_
  refine aw_seq ?_
  refine aw_text (by kernel_rfl) ?_
  refine al_ro' (ro_build (evP_cons ev_c (evP_cons ev_c evP_nil)) k12_bz66 k12_bu66 k12_bp66 rfl) trivial rfl ?_
  refine al_ro' (ro_build (evP_cons ev_c (evP_cons ev_c (evP_cons ev_c evP_nil))) k12_bz66 k12_bu66 k12_bp66 rfl) trivial rfl ?_
  refine al_ro' (ro_build (evP_cons ev_c (evP_cons ev_c (evP_cons ev_c evP_nil))) k12_bz66 k12_bu66 k12_bp66 rfl) trivial rfl ?_
  refine al_ro' (ro_build (evP_cons ev_c (evP_cons ev_c (evP_cons ev_c evP_nil))) k12_bz66 k12_bu66 k12_bp66 rfl) trivial rfl ?_
  refine al_ro' (ro_lit k12_sl22 (evP_cons (up_m rfl (u2 rfl up_h)) (evP_cons (u2 rfl up_h) (evP_cons (up_m rfl up_h) (evP_cons up_h evP_nil)))) rfl rfl rfl rfl) trivial rfl ?_
  refine al_ro' (ro_build (evP_cons ev_c (evP_cons up_h evP_nil)) k12_bz24 k12_bu24 k12_bp24 rfl) trivial rfl ?_
  refine al_stm (st_store (u2 rfl (u4 rfl s0_2)) up_h rfl rfl mo0_1 k12_sz24 rfl (by first | exact Nat.le_of_ble_eq_true rfl | omega | (simp only [lnS] <;> omega) | (simp <;> omega))) trivial rfl (fun m_3 hm_3 => ?_)
  have mo0_3 := m_set hm_3 mo0_1
  (try simp only [packA_t, packA_f, iE, bE, setAt, cellsA, Value.cells, map_vc, map_vn, Nat.reduceAdd, qS] at mo0_3)
  have ml_3 := m_set_l hm_3 ml_1
  clear hm_3 mo0_1
  refine al_end (fun e_4 he_4 => ?_)
  have s0_4 := ef 0 he_4 (up_n (u2 rfl (u4 rfl s0_2)))
  clear he_4 s0_2
  refine then_n ?_
  refine aw_ret ?_
  refine ret1 (.inr rfl) (by kernel_rfl) (resV_cell s0_4 mo0_3 k12_ty24 (by first | exact Nat.le_of_ble_eq_true rfl | omega | (simp only [lnS] <;> omega) | (simp <;> omega)) (by simp)) (vw_r (.ro _ rfl)) ?_
  clear s0_4 mo0_3 ml_3
  rfl
set_option maxRecDepth 100000 in
set_option maxHeartbeats 1000000 in
theorem system0_ok : FnOk Try.prog 61 [] (fun q => q = syA 100 10 50) := by
  refine fnOk_of (fn := Try.f61) 2 (by kernel_rfl) rfl (by kernel_rfl) (Nat.le_of_ble_eq_true rfl) ?_
  intro e_0 m_0 hA hm_0
  have ml_0 : m_0.length = 0 := by rw [hm_0]; rfl
  clear hA hm_0
  refine aw_seq ?_
  refine aw_text (by kernel_rfl) ?_
  refine al_stm (st_alloc k12_az26 rfl ml_0) trivial rfl (fun m_1 hm_1 => ?_)
  have mo0_1 := m_push hm_1 ml_0
  (try simp only [packA_t, packA_f, iE, bE, setAt, cellsA, Value.cells, map_vc, map_vn, Nat.reduceAdd, qS] at mo0_1)
  have ml_1 := m_push_l hm_1 ml_0
  have ml_1 : _ = 1 := ml_1
  clear hm_1
  refine al_end (fun e_2 he_2 => ?_)
  have s0_2 := ef 0 he_2 up_h
  clear he_2
  refine then_n ?_
  refine aw_seq ?_
  refine aw_text (by kernel_rfl) ?_
  refine al_ro' (ro_build (evP_cons ev_c (evP_cons ev_c (evP_cons ev_c evP_nil))) k12_bz26 k12_bu26 k12_bp26 rfl) trivial rfl ?_
  refine al_stm (st_store (up_m rfl s0_2) up_h rfl rfl mo0_1 k12_sz26 rfl (by first | exact Nat.le_of_ble_eq_true rfl | omega | (simp only [lnS] <;> omega) | (simp <;> omega))) trivial rfl (fun m_3 hm_3 => ?_)
  have mo0_3 := m_set hm_3 mo0_1
  (try simp only [packA_t, packA_f, iE, bE, setAt, cellsA, Value.cells, map_vc, map_vn, Nat.reduceAdd, qS] at mo0_3)
  have ml_3 := m_set_l hm_3 ml_1
  clear hm_3 mo0_1
  refine al_end (fun e_4 he_4 => ?_)
  have s0_4 := ef 0 he_4 (up_n (up_m rfl s0_2))
  clear he_4 s0_2
  refine then_n ?_
  refine aw_ret ?_
  refine ret1 (.inr rfl) (by kernel_rfl) (resV_cell s0_4 mo0_3 k12_ty26 (by first | exact Nat.le_of_ble_eq_true rfl | omega | (simp only [lnS] <;> omega) | (simp <;> omega)) (by simp)) (vw_r (.ro _ rfl)) ?_
  clear s0_4 mo0_3 ml_3
  rfl
theorem curve0_ok : FnOk Try.prog 28 [trA nm0 tr0, syA 100 10 50, iA 1] (fun q => q = .tuple [.row 1 ([10000, 8000, 0].map iE), iA 0]) :=
  (curveOf_ok nm0 tr0 (by decide) (by decide) 100 10 50 1).mono fun q h => h.trans (by kernel_rfl)
theorem run0_ok : FnOk Try.prog 24 [trA nm0 tr0, syA 100 10 50, .agg [iA 0, iA 5000], iA 3] (fun q => q = .tuple [.row 1 ([5000, 3000, 1000, 10000].map iE), iA 0]) :=
  (runTo_ok nm0 tr0 (by decide) (by decide) 100 10 50 0 5000 3).mono fun q h => h.trans (by kernel_rfl)
theorem stands0_ok : FnOk Try.prog 40 [trA nm0 tr0, syA 100 10 50, .agg [iA 0, iA 25000]] (fun q => q = .tuple [.agg [iA 125, iA 125], iA 0]) :=
  (standsAt_ok nm0 tr0 (by decide) (by decide) 100 10 50 0 25000).mono fun q h => h.trans (by kernel_rfl)
theorem fast0_ok : FnOk Try.prog 17 [trA nm0 tr0, syA 100 10 50, .agg [iA 0, iA 0]] (fun q => q = .tuple [.row 1 ([0, 8000, 8000, 10000, 0].map iE), iA 0]) :=
  (fastest_ok nm0 tr0 (by decide) (by decide) 100 10 50 0 0).mono fun q h => h.trans (by kernel_rfl)
theorem same_ok (l : List Int) (h : l.length ≤ 1000000000) : FnOk Try.prog 22 [.row 1 (l.map iE), .row 1 (l.map iE)] (fun q => q = bA true) :=
  (ints_ok l l h h).mono fun q h => h.trans (by simp)
set_option maxRecDepth 100000 in
set_option maxHeartbeats 1000000 in
theorem awake_ok : FnOk Try.prog 15 [] (fun q => q = bA true) := by
  refine fnOk_of (fn := Try.f15) 70 (by kernel_rfl) rfl (by kernel_rfl) (Nat.le_of_ble_eq_true rfl) ?_
  intro e_0 m_0 hA hm_0
  have ml_0 : m_0.length = 0 := by rw [hm_0]; rfl
  clear hA hm_0
  refine aw_seq ?_
  refine aw_text (by kernel_rfl) ?_
  refine al_ro' (ro_assign ev_c) trivial rfl ?_
  refine al_end (fun e_1 he_1 => ?_)
  clear he_1
  refine then_n ?_
  refine aw_seq ?_
  refine aw_text (by kernel_rfl) ?_
  refine al_ro' (ro_call evL_nil rfl (track0_ok) k12_hcf60) trivial rfl ?_
  refine al_ro' (ro_call evL_nil rfl (system0_ok) k12_hcf61) trivial rfl ?_
  refine al_ro' (ro_call (evL_cons (up_m rfl up_h) (evL_cons up_h (evL_cons ev_c evL_nil))) rfl (curve0_ok) k12_hcf28) trivial rfl ?_
  refine al_ro' (ro_move up_h) trivial rfl ?_
  refine al_ro' (ro_extract up_h rfl) trivial rfl ?_
  refine al_ro' (ro_extract (up_m rfl up_h) rfl) trivial rfl ?_
  refine al_ro' (ro_assign (up_m rfl up_h)) trivial rfl ?_
  refine al_ro' (ro_assign (up_m rfl up_h)) trivial rfl ?_
  refine al_end (fun e_2 he_2 => ?_)
  have s1_2 := ef 1 he_2 (up_m rfl up_h)
  have s2_2 := ef 2 he_2 up_h
  clear he_2
  refine then_n ?_
  refine aw_seq ?_
  refine aw_text (by kernel_rfl) ?_
  refine al_ro' (ro_call evL_nil rfl (track0_ok) k12_hcf60) trivial rfl ?_
  refine al_ro' (ro_call evL_nil rfl (system0_ok) k12_hcf61) trivial rfl ?_
  refine al_ro' (ro_build (evP_cons ev_c evP_nil) k12_bz42 k12_bu42 k12_bp42 rfl) trivial rfl ?_
  refine al_ro' (ro_call (evL_cons (u2 rfl up_h) (evL_cons (up_m rfl up_h) (evL_cons up_h (evL_cons ev_c evL_nil)))) rfl (run0_ok) k12_hcf24) trivial rfl ?_
  refine al_ro' (ro_move up_h) trivial rfl ?_
  refine al_ro' (ro_extract up_h rfl) trivial rfl ?_
  refine al_ro' (ro_extract (up_m rfl up_h) rfl) trivial rfl ?_
  refine al_ro' (ro_assign (up_m rfl up_h)) trivial rfl ?_
  refine al_ro' (ro_assign (up_m rfl up_h)) trivial rfl ?_
  refine al_end (fun e_3 he_3 => ?_)
  have s1_3 := ef 1 he_3 (up_m rfl (u8 rfl s1_2))
  have s2_3 := ef 2 he_3 (up_m rfl (u8 rfl s2_2))
  have s3_3 := ef 3 he_3 (up_m rfl up_h)
  have s4_3 := ef 4 he_3 up_h
  clear he_3 s1_2 s2_2
  refine then_n ?_
  refine aw_seq ?_
  refine aw_text (by kernel_rfl) ?_
  refine al_ro' (ro_call evL_nil rfl (track0_ok) k12_hcf60) trivial rfl ?_
  refine al_ro' (ro_call evL_nil rfl (system0_ok) k12_hcf61) trivial rfl ?_
  refine al_ro' (ro_build (evP_cons ev_c evP_nil) k12_bz42 k12_bu42 k12_bp42 rfl) trivial rfl ?_
  refine al_ro' (ro_call (evL_cons (u2 rfl up_h) (evL_cons (up_m rfl up_h) (evL_cons up_h evL_nil))) rfl (stands0_ok) k12_hcf40) trivial rfl ?_
  refine al_ro' (ro_move up_h) trivial rfl ?_
  refine al_ro' (ro_extract up_h rfl) trivial rfl ?_
  refine al_ro' (ro_extract (up_m rfl up_h) rfl) trivial rfl ?_
  refine al_stm (st_alloc k12_az68 rfl ml_0) trivial rfl (fun m_4 hm_4 => ?_)
  have mo0_4 := m_push hm_4 ml_0
  (try simp only [packA_t, packA_f, iE, bE, setAt, cellsA, Value.cells, map_vc, map_vn, Nat.reduceAdd, qS] at mo0_4)
  have ml_4 := m_push_l hm_4 ml_0
  have ml_4 : _ = 1 := ml_4
  clear hm_4
  refine al_stm (st_store up_h (u2 rfl up_h) rfl rfl mo0_4 k12_sz68 rfl (by first | exact Nat.le_of_ble_eq_true rfl | omega | (simp only [lnS] <;> omega) | (simp <;> omega))) trivial rfl (fun m_5 hm_5 => ?_)
  have mo0_5 := m_set hm_5 mo0_4
  (try simp only [packA_t, packA_f, iE, bE, setAt, cellsA, Value.cells, map_vc, map_vn, Nat.reduceAdd, qS] at mo0_5)
  have ml_5 := m_set_l hm_5 ml_4
  clear hm_5 mo0_4
  refine al_ro' (ro_assign (up_n (up_m rfl up_h))) trivial rfl ?_
  refine al_end (fun e_6 he_6 => ?_)
  have s1_6 := ef 1 he_6 (up_m rfl (up_n (u8 rfl s1_3)))
  have s2_6 := ef 2 he_6 (up_m rfl (up_n (u8 rfl s2_3)))
  have s3_6 := ef 3 he_6 (up_m rfl (up_n (u8 rfl s3_3)))
  have s4_6 := ef 4 he_6 (up_m rfl (up_n (u8 rfl s4_3)))
  have s5_6 := ef 5 he_6 (up_m rfl (up_n up_h))
  have s6_6 := ef 6 he_6 up_h
  clear he_6 s1_3 s2_3 s3_3 s4_3
  refine then_n ?_
  refine aw_seq ?_
  refine aw_text (by kernel_rfl) ?_
  refine al_ro' (ro_call evL_nil rfl (track0_ok) k12_hcf60) trivial rfl ?_
  refine al_ro' (ro_call evL_nil rfl (system0_ok) k12_hcf61) trivial rfl ?_
  refine al_ro' (ro_buildA evP_nil k12_bz27 k12_bu27 k12_bp27 rfl) trivial rfl ?_
  refine al_ro' (ro_call (evL_cons (u2 rfl up_h) (evL_cons (up_m rfl up_h) (evL_cons up_h evL_nil))) rfl (fast0_ok) k12_hcf17) trivial rfl ?_
  refine al_ro' (ro_move up_h) trivial rfl ?_
  refine al_ro' (ro_extract up_h rfl) trivial rfl ?_
  refine al_ro' (ro_extract (up_m rfl up_h) rfl) trivial rfl ?_
  refine al_ro' (ro_assign (up_m rfl up_h)) trivial rfl ?_
  refine al_ro' (ro_assign (up_m rfl up_h)) trivial rfl ?_
  refine al_end (fun e_7 he_7 => ?_)
  have s1_7 := ef 1 he_7 (up_m rfl (u8 rfl s1_6))
  have s2_7 := ef 2 he_7 (up_m rfl (u8 rfl s2_6))
  have s3_7 := ef 3 he_7 (up_m rfl (u8 rfl s3_6))
  have s4_7 := ef 4 he_7 (up_m rfl (u8 rfl s4_6))
  have s5_7 := ef 5 he_7 (up_m rfl (u8 rfl s5_6))
  have s6_7 := ef 6 he_7 (up_m rfl (u8 rfl s6_6))
  have s7_7 := ef 7 he_7 (up_m rfl up_h)
  have s8_7 := ef 8 he_7 up_h
  clear he_7 s1_6 s2_6 s3_6 s4_6 s5_6 s6_6
  refine then_n ?_
  refine aw_seq ?_
  refine aw_text (by kernel_rfl) ?_
  refine al_ro' (ro_move s2_7) trivial rfl ?_
  refine al_ro' (ro_eql up_h ev_c) trivial rfl ?_
  refine al_ro' (ro_move up_h) trivial rfl ?_
  refine al_case up_h (fun hb_8 hq_8 => ?_) (fun hb_8 hq_8 => ?_)
  · (first | replace hq_8 := bnt hq_8 | replace hq_8 := bnf hq_8 | replace hq_8 := bt hq_8 | replace hq_8 := bf hq_8 | replace hq_8 := bt' hq_8 | replace hq_8 := bf' hq_8 | skip)
    first
    | (cases hq_8; done) | (exfalso; omega)
    | (
       refine al_ro' (ro_move (up_m rfl (u2 rfl s1_7))) ⟨_, rfl, hb_8⟩ rfl ?_
       refine al_ro' (ro_lit k12_sl30 (evP_cons ev_c (evP_cons ev_c (evP_cons ev_c evP_nil))) rfl rfl rfl rfl) ⟨_, rfl, (up_m rfl hb_8)⟩ rfl ?_
       refine al_ro' (ro_call (evL_cons (up_m rfl up_h) (evL_cons up_h evL_nil)) rfl (same_ok [10000, 8000, 0] (by decide)) k12_hcf22) ⟨_, rfl, (u2 rfl hb_8)⟩ rfl ?_
       refine al_ro' (ro_pickT (up_m rfl (u2 rfl hb_8)) up_h) trivial rfl ?_
       refine al_ro' (ro_move up_h) trivial rfl ?_
       refine al_case up_h (fun hb_9 hq_9 => ?_) (fun hb_9 hq_9 => ?_)
       · (first | replace hq_9 := bnt hq_9 | replace hq_9 := bnf hq_9 | replace hq_9 := bt hq_9 | replace hq_9 := bf hq_9 | replace hq_9 := bt' hq_9 | replace hq_9 := bf' hq_9 | skip)
         first
         | (cases hq_9; done) | (exfalso; omega)
         | (
            refine al_ro' (ro_move (u8 rfl s4_7)) ⟨_, rfl, hb_9⟩ rfl ?_
            refine al_ro' (ro_eql up_h ev_c) ⟨_, rfl, (up_m rfl hb_9)⟩ rfl ?_
            refine al_ro' (ro_pickT (u2 rfl hb_9) up_h) trivial rfl ?_
            refine al_ro' (ro_move up_h) trivial rfl ?_
            refine al_case up_h (fun hb_10 hq_10 => ?_) (fun hb_10 hq_10 => ?_)
            · (first | replace hq_10 := bnt hq_10 | replace hq_10 := bnf hq_10 | replace hq_10 := bt hq_10 | replace hq_10 := bf hq_10 | replace hq_10 := bt' hq_10 | replace hq_10 := bf' hq_10 | skip)
              first
              | (cases hq_10; done) | (exfalso; omega)
              | (
                 refine al_ro' (ro_move (u4 rfl (u8 rfl s3_7))) ⟨_, rfl, hb_10⟩ rfl ?_
                 refine al_ro' (ro_lit k12_sl30 (evP_cons ev_c (evP_cons ev_c (evP_cons ev_c (evP_cons ev_c evP_nil)))) rfl rfl rfl rfl) ⟨_, rfl, (up_m rfl hb_10)⟩ rfl ?_
                 refine al_ro' (ro_call (evL_cons (up_m rfl up_h) (evL_cons up_h evL_nil)) rfl (same_ok [5000, 3000, 1000, 10000] (by decide)) k12_hcf22) ⟨_, rfl, (u2 rfl hb_10)⟩ rfl ?_
                 refine al_ro' (ro_pickT (up_m rfl (u2 rfl hb_10)) up_h) trivial rfl ?_
                 refine al_ro' (ro_move up_h) trivial rfl ?_
                 refine al_case up_h (fun hb_11 hq_11 => ?_) (fun hb_11 hq_11 => ?_)
                 · (first | replace hq_11 := bnt hq_11 | replace hq_11 := bnf hq_11 | replace hq_11 := bt hq_11 | replace hq_11 := bf hq_11 | replace hq_11 := bt' hq_11 | replace hq_11 := bf' hq_11 | skip)
                   first
                   | (cases hq_11; done) | (exfalso; omega)
                   | (
                      refine al_ro' (ro_move (up_m rfl (u16 rfl s6_7))) ⟨_, rfl, hb_11⟩ rfl ?_
                      refine al_ro' (ro_eql up_h ev_c) ⟨_, rfl, (up_m rfl hb_11)⟩ rfl ?_
                      refine al_ro' (ro_pickT (u2 rfl hb_11) up_h) trivial rfl ?_
                      refine al_ro' (ro_move up_h) trivial rfl ?_
                      refine al_case up_h (fun hb_12 hq_12 => ?_) (fun hb_12 hq_12 => ?_)
                      · (first | replace hq_12 := bnt hq_12 | replace hq_12 := bnf hq_12 | replace hq_12 := bt hq_12 | replace hq_12 := bf hq_12 | replace hq_12 := bt' hq_12 | replace hq_12 := bf' hq_12 | skip)
                        first
                        | (cases hq_12; done) | (exfalso; omega)
                        | (
                           refine al_ro' (ro_eq (ro_ld_ptr k12_ty68 rfl mo0_5 (up_m rfl (u4 rfl (u16 rfl s5_7))) (by first | exact Nat.le_of_ble_eq_true rfl | omega | (simp only [lnS] <;> omega) | (simp <;> omega))) (by first | (simp only [packA_t, packA_f, iE, bE, setAt, cellsA, Value.cells, map_vc, map_vn, Nat.reduceAdd, qS] <;> rfl) | rfl)) ⟨_, rfl, hb_12⟩ rfl ?_
                           refine al_ro' (ro_build (evP_cons ev_c (evP_cons ev_c evP_nil)) k12_bz68 k12_bu68 k12_bp68 rfl) ⟨_, rfl, (up_m rfl hb_12)⟩ rfl ?_
                           refine al_ro' (ro_aeql (up_m rfl up_h) up_h (xs := [.int .i64 125, .int .i64 125]) (ys := [.int .i64 125, .int .i64 125]) (b := true) ⟨rfl, by kernel_rfl, fun _ => by kernel_rfl⟩) ⟨_, rfl, (u2 rfl hb_12)⟩ rfl ?_
                           refine al_ro' (ro_pickT (up_m rfl (u2 rfl hb_12)) up_h) trivial rfl ?_
                           refine al_ro' (ro_move up_h) trivial rfl ?_
                           refine al_case up_h (fun hb_13 hq_13 => ?_) (fun hb_13 hq_13 => ?_)
                           · (first | replace hq_13 := bnt hq_13 | replace hq_13 := bnf hq_13 | replace hq_13 := bt hq_13 | replace hq_13 := bf hq_13 | replace hq_13 := bt' hq_13 | replace hq_13 := bf' hq_13 | skip)
                             first
                             | (cases hq_13; done) | (exfalso; omega)
                             | (
                                refine al_ro' (ro_move (u2 rfl (u8 rfl (u16 rfl s8_7)))) ⟨_, rfl, hb_13⟩ rfl ?_
                                refine al_ro' (ro_eql up_h ev_c) ⟨_, rfl, (up_m rfl hb_13)⟩ rfl ?_
                                refine al_ro' (ro_pickT (u2 rfl hb_13) up_h) trivial rfl ?_
                                refine al_ro' (ro_move up_h) trivial rfl ?_
                                refine al_case up_h (fun hb_14 hq_14 => ?_) (fun hb_14 hq_14 => ?_)
                                · (first | replace hq_14 := bnt hq_14 | replace hq_14 := bnf hq_14 | replace hq_14 := bt hq_14 | replace hq_14 := bf hq_14 | replace hq_14 := bt' hq_14 | replace hq_14 := bf' hq_14 | skip)
                                  first
                                  | (cases hq_14; done) | (exfalso; omega)
                                  | (
                                     refine al_ro' (ro_move (u2 rfl (u4 rfl (u8 rfl (u16 rfl s7_7))))) ⟨_, rfl, hb_14⟩ rfl ?_
                                     refine al_ro' (ro_lit k12_sl30 (evP_cons ev_c (evP_cons ev_c (evP_cons ev_c (evP_cons ev_c (evP_cons ev_c evP_nil))))) rfl rfl rfl rfl) ⟨_, rfl, (up_m rfl hb_14)⟩ rfl ?_
                                     refine al_ro' (ro_call (evL_cons (up_m rfl up_h) (evL_cons up_h evL_nil)) rfl (same_ok [0, 8000, 8000, 10000, 0] (by decide)) k12_hcf22) ⟨_, rfl, (u2 rfl hb_14)⟩ rfl ?_
                                     refine al_ro' (ro_pickT (up_m rfl (u2 rfl hb_14)) up_h) trivial rfl ?_
                                     refine al_ro' (ro_assign up_h) trivial rfl ?_
                                     refine al_end (fun e_15 he_15 => ?_)
                                     have s0_15 := ef 0 he_15 up_h
                                     clear he_15 hb_10 hb_11 hb_12 hb_13 hb_14 hb_8 hb_9 s1_7 s2_7 s3_7 s4_7 s5_7 s6_7 s7_7 s8_7
                                     refine then_n ?_
                                     refine aw_ret ?_
                                     refine ret1 (.inr rfl) (by kernel_rfl) (resV_tmp s0_15) (.ro _ rfl) ?_
                                     clear s0_15 mo0_5 ml_5
                                     rfl)
                                · (first | replace hq_14 := bnt hq_14 | replace hq_14 := bnf hq_14 | replace hq_14 := bt hq_14 | replace hq_14 := bf hq_14 | replace hq_14 := bt' hq_14 | replace hq_14 := bf' hq_14 | skip)
                                  first
                                  | (cases hq_14; done) | (exfalso; omega)
                                  | (
                                     refine al_skip' ⟨_, rfl, .inl hb_14⟩ rfl ?_
                                     refine al_skip' ⟨_, rfl, .inl (up_m rfl hb_14)⟩ rfl ?_
                                     refine al_skip' ⟨_, rfl, .inl (u2 rfl hb_14)⟩ rfl ?_
                                     refine al_ro' (ro_pickF (up_m rfl (u2 rfl hb_14)) ev_c) trivial rfl ?_
                                     refine al_ro' (ro_assign up_h) trivial rfl ?_
                                     refine al_end (fun e_16 he_16 => ?_)
                                     have s0_16 := ef 0 he_16 up_h
                                     clear he_16 hb_10 hb_11 hb_12 hb_13 hb_14 hb_8 hb_9 s1_7 s2_7 s3_7 s4_7 s5_7 s6_7 s7_7 s8_7
                                     refine then_n ?_
                                     refine aw_ret ?_
                                     refine ret1 (.inr rfl) (by kernel_rfl) (resV_tmp s0_16) (.ro _ rfl) ?_
                                     clear s0_16 mo0_5 ml_5
                                     rfl))
                           · (first | replace hq_13 := bnt hq_13 | replace hq_13 := bnf hq_13 | replace hq_13 := bt hq_13 | replace hq_13 := bf hq_13 | replace hq_13 := bt' hq_13 | replace hq_13 := bf' hq_13 | skip)
                             first
                             | (cases hq_13; done) | (exfalso; omega)
                             | (
                                refine al_skip' ⟨_, rfl, .inl hb_13⟩ rfl ?_
                                refine al_skip' ⟨_, rfl, .inl (up_m rfl hb_13)⟩ rfl ?_
                                refine al_ro' (ro_pickF (u2 rfl hb_13) ev_c) trivial rfl ?_
                                refine al_ro' (ro_move up_h) trivial rfl ?_
                                refine al_skip' ⟨_, rfl, .inl up_h⟩ rfl ?_
                                refine al_skip' ⟨_, rfl, .inl (up_m rfl up_h)⟩ rfl ?_
                                refine al_skip' ⟨_, rfl, .inl (u2 rfl up_h)⟩ rfl ?_
                                refine al_ro' (ro_pickF (up_m rfl (u2 rfl up_h)) ev_c) trivial rfl ?_
                                refine al_ro' (ro_assign up_h) trivial rfl ?_
                                refine al_end (fun e_17 he_17 => ?_)
                                have s0_17 := ef 0 he_17 up_h
                                clear he_17 hb_10 hb_11 hb_12 hb_13 hb_8 hb_9 s1_7 s2_7 s3_7 s4_7 s5_7 s6_7 s7_7 s8_7
                                refine then_n ?_
                                refine aw_ret ?_
                                refine ret1 (.inr rfl) (by kernel_rfl) (resV_tmp s0_17) (.ro _ rfl) ?_
                                clear s0_17 mo0_5 ml_5
                                rfl))
                      · (first | replace hq_12 := bnt hq_12 | replace hq_12 := bnf hq_12 | replace hq_12 := bt hq_12 | replace hq_12 := bf hq_12 | replace hq_12 := bt' hq_12 | replace hq_12 := bf' hq_12 | skip)
                        first
                        | (cases hq_12; done) | (exfalso; omega)
                        | (
                           refine al_skip' ⟨_, rfl, .inl hb_12⟩ rfl ?_
                           refine al_skip' ⟨_, rfl, .inl (up_m rfl hb_12)⟩ rfl ?_
                           refine al_skip' ⟨_, rfl, .inl (u2 rfl hb_12)⟩ rfl ?_
                           refine al_ro' (ro_pickF (up_m rfl (u2 rfl hb_12)) ev_c) trivial rfl ?_
                           refine al_ro' (ro_move up_h) trivial rfl ?_
                           refine al_skip' ⟨_, rfl, .inl up_h⟩ rfl ?_
                           refine al_skip' ⟨_, rfl, .inl (up_m rfl up_h)⟩ rfl ?_
                           refine al_ro' (ro_pickF (u2 rfl up_h) ev_c) trivial rfl ?_
                           refine al_ro' (ro_move up_h) trivial rfl ?_
                           refine al_skip' ⟨_, rfl, .inl up_h⟩ rfl ?_
                           refine al_skip' ⟨_, rfl, .inl (up_m rfl up_h)⟩ rfl ?_
                           refine al_skip' ⟨_, rfl, .inl (u2 rfl up_h)⟩ rfl ?_
                           refine al_ro' (ro_pickF (up_m rfl (u2 rfl up_h)) ev_c) trivial rfl ?_
                           refine al_ro' (ro_assign up_h) trivial rfl ?_
                           refine al_end (fun e_18 he_18 => ?_)
                           have s0_18 := ef 0 he_18 up_h
                           clear he_18 hb_10 hb_11 hb_12 hb_8 hb_9 s1_7 s2_7 s3_7 s4_7 s5_7 s6_7 s7_7 s8_7
                           refine then_n ?_
                           refine aw_ret ?_
                           refine ret1 (.inr rfl) (by kernel_rfl) (resV_tmp s0_18) (.ro _ rfl) ?_
                           clear s0_18 mo0_5 ml_5
                           rfl))
                 · (first | replace hq_11 := bnt hq_11 | replace hq_11 := bnf hq_11 | replace hq_11 := bt hq_11 | replace hq_11 := bf hq_11 | replace hq_11 := bt' hq_11 | replace hq_11 := bf' hq_11 | skip)
                   first
                   | (cases hq_11; done) | (exfalso; omega)
                   | (
                      refine al_skip' ⟨_, rfl, .inl hb_11⟩ rfl ?_
                      refine al_skip' ⟨_, rfl, .inl (up_m rfl hb_11)⟩ rfl ?_
                      refine al_ro' (ro_pickF (u2 rfl hb_11) ev_c) trivial rfl ?_
                      refine al_ro' (ro_move up_h) trivial rfl ?_
                      refine al_skip' ⟨_, rfl, .inl up_h⟩ rfl ?_
                      refine al_skip' ⟨_, rfl, .inl (up_m rfl up_h)⟩ rfl ?_
                      refine al_skip' ⟨_, rfl, .inl (u2 rfl up_h)⟩ rfl ?_
                      refine al_ro' (ro_pickF (up_m rfl (u2 rfl up_h)) ev_c) trivial rfl ?_
                      refine al_ro' (ro_move up_h) trivial rfl ?_
                      refine al_skip' ⟨_, rfl, .inl up_h⟩ rfl ?_
                      refine al_skip' ⟨_, rfl, .inl (up_m rfl up_h)⟩ rfl ?_
                      refine al_ro' (ro_pickF (u2 rfl up_h) ev_c) trivial rfl ?_
                      refine al_ro' (ro_move up_h) trivial rfl ?_
                      refine al_skip' ⟨_, rfl, .inl up_h⟩ rfl ?_
                      refine al_skip' ⟨_, rfl, .inl (up_m rfl up_h)⟩ rfl ?_
                      refine al_skip' ⟨_, rfl, .inl (u2 rfl up_h)⟩ rfl ?_
                      refine al_ro' (ro_pickF (up_m rfl (u2 rfl up_h)) ev_c) trivial rfl ?_
                      refine al_ro' (ro_assign up_h) trivial rfl ?_
                      refine al_end (fun e_19 he_19 => ?_)
                      have s0_19 := ef 0 he_19 up_h
                      clear he_19 hb_10 hb_11 hb_8 hb_9 s1_7 s2_7 s3_7 s4_7 s5_7 s6_7 s7_7 s8_7
                      refine then_n ?_
                      refine aw_ret ?_
                      refine ret1 (.inr rfl) (by kernel_rfl) (resV_tmp s0_19) (.ro _ rfl) ?_
                      clear s0_19 mo0_5 ml_5
                      rfl))
            · (first | replace hq_10 := bnt hq_10 | replace hq_10 := bnf hq_10 | replace hq_10 := bt hq_10 | replace hq_10 := bf hq_10 | replace hq_10 := bt' hq_10 | replace hq_10 := bf' hq_10 | skip)
              first
              | (cases hq_10; done) | (exfalso; omega)
              | (
                 refine al_skip' ⟨_, rfl, .inl hb_10⟩ rfl ?_
                 refine al_skip' ⟨_, rfl, .inl (up_m rfl hb_10)⟩ rfl ?_
                 refine al_skip' ⟨_, rfl, .inl (u2 rfl hb_10)⟩ rfl ?_
                 refine al_ro' (ro_pickF (up_m rfl (u2 rfl hb_10)) ev_c) trivial rfl ?_
                 refine al_ro' (ro_move up_h) trivial rfl ?_
                 refine al_skip' ⟨_, rfl, .inl up_h⟩ rfl ?_
                 refine al_skip' ⟨_, rfl, .inl (up_m rfl up_h)⟩ rfl ?_
                 refine al_ro' (ro_pickF (u2 rfl up_h) ev_c) trivial rfl ?_
                 refine al_ro' (ro_move up_h) trivial rfl ?_
                 refine al_skip' ⟨_, rfl, .inl up_h⟩ rfl ?_
                 refine al_skip' ⟨_, rfl, .inl (up_m rfl up_h)⟩ rfl ?_
                 refine al_skip' ⟨_, rfl, .inl (u2 rfl up_h)⟩ rfl ?_
                 refine al_ro' (ro_pickF (up_m rfl (u2 rfl up_h)) ev_c) trivial rfl ?_
                 refine al_ro' (ro_move up_h) trivial rfl ?_
                 refine al_skip' ⟨_, rfl, .inl up_h⟩ rfl ?_
                 refine al_skip' ⟨_, rfl, .inl (up_m rfl up_h)⟩ rfl ?_
                 refine al_ro' (ro_pickF (u2 rfl up_h) ev_c) trivial rfl ?_
                 refine al_ro' (ro_move up_h) trivial rfl ?_
                 refine al_skip' ⟨_, rfl, .inl up_h⟩ rfl ?_
                 refine al_skip' ⟨_, rfl, .inl (up_m rfl up_h)⟩ rfl ?_
                 refine al_skip' ⟨_, rfl, .inl (u2 rfl up_h)⟩ rfl ?_
                 refine al_ro' (ro_pickF (up_m rfl (u2 rfl up_h)) ev_c) trivial rfl ?_
                 refine al_ro' (ro_assign up_h) trivial rfl ?_
                 refine al_end (fun e_20 he_20 => ?_)
                 have s0_20 := ef 0 he_20 up_h
                 clear he_20 hb_10 hb_8 hb_9 s1_7 s2_7 s3_7 s4_7 s5_7 s6_7 s7_7 s8_7
                 refine then_n ?_
                 refine aw_ret ?_
                 refine ret1 (.inr rfl) (by kernel_rfl) (resV_tmp s0_20) (.ro _ rfl) ?_
                 clear s0_20 mo0_5 ml_5
                 rfl))
       · (first | replace hq_9 := bnt hq_9 | replace hq_9 := bnf hq_9 | replace hq_9 := bt hq_9 | replace hq_9 := bf hq_9 | replace hq_9 := bt' hq_9 | replace hq_9 := bf' hq_9 | skip)
         first
         | (cases hq_9; done) | (exfalso; omega)
         | (
            refine al_skip' ⟨_, rfl, .inl hb_9⟩ rfl ?_
            refine al_skip' ⟨_, rfl, .inl (up_m rfl hb_9)⟩ rfl ?_
            refine al_ro' (ro_pickF (u2 rfl hb_9) ev_c) trivial rfl ?_
            refine al_ro' (ro_move up_h) trivial rfl ?_
            refine al_skip' ⟨_, rfl, .inl up_h⟩ rfl ?_
            refine al_skip' ⟨_, rfl, .inl (up_m rfl up_h)⟩ rfl ?_
            refine al_skip' ⟨_, rfl, .inl (u2 rfl up_h)⟩ rfl ?_
            refine al_ro' (ro_pickF (up_m rfl (u2 rfl up_h)) ev_c) trivial rfl ?_
            refine al_ro' (ro_move up_h) trivial rfl ?_
            refine al_skip' ⟨_, rfl, .inl up_h⟩ rfl ?_
            refine al_skip' ⟨_, rfl, .inl (up_m rfl up_h)⟩ rfl ?_
            refine al_ro' (ro_pickF (u2 rfl up_h) ev_c) trivial rfl ?_
            refine al_ro' (ro_move up_h) trivial rfl ?_
            refine al_skip' ⟨_, rfl, .inl up_h⟩ rfl ?_
            refine al_skip' ⟨_, rfl, .inl (up_m rfl up_h)⟩ rfl ?_
            refine al_skip' ⟨_, rfl, .inl (u2 rfl up_h)⟩ rfl ?_
            refine al_ro' (ro_pickF (up_m rfl (u2 rfl up_h)) ev_c) trivial rfl ?_
            refine al_ro' (ro_move up_h) trivial rfl ?_
            refine al_skip' ⟨_, rfl, .inl up_h⟩ rfl ?_
            refine al_skip' ⟨_, rfl, .inl (up_m rfl up_h)⟩ rfl ?_
            refine al_ro' (ro_pickF (u2 rfl up_h) ev_c) trivial rfl ?_
            refine al_ro' (ro_move up_h) trivial rfl ?_
            refine al_skip' ⟨_, rfl, .inl up_h⟩ rfl ?_
            refine al_skip' ⟨_, rfl, .inl (up_m rfl up_h)⟩ rfl ?_
            refine al_skip' ⟨_, rfl, .inl (u2 rfl up_h)⟩ rfl ?_
            refine al_ro' (ro_pickF (up_m rfl (u2 rfl up_h)) ev_c) trivial rfl ?_
            refine al_ro' (ro_assign up_h) trivial rfl ?_
            refine al_end (fun e_21 he_21 => ?_)
            have s0_21 := ef 0 he_21 up_h
            clear he_21 hb_8 hb_9 s1_7 s2_7 s3_7 s4_7 s5_7 s6_7 s7_7 s8_7
            refine then_n ?_
            refine aw_ret ?_
            refine ret1 (.inr rfl) (by kernel_rfl) (resV_tmp s0_21) (.ro _ rfl) ?_
            clear s0_21 mo0_5 ml_5
            rfl))
  · (first | replace hq_8 := bnt hq_8 | replace hq_8 := bnf hq_8 | replace hq_8 := bt hq_8 | replace hq_8 := bf hq_8 | replace hq_8 := bt' hq_8 | replace hq_8 := bf' hq_8 | skip)
    first
    | (cases hq_8; done) | (exfalso; omega)
    | (
       refine al_skip' ⟨_, rfl, .inl hb_8⟩ rfl ?_
       refine al_skip' ⟨_, rfl, .inl (up_m rfl hb_8)⟩ rfl ?_
       refine al_skip' ⟨_, rfl, .inl (u2 rfl hb_8)⟩ rfl ?_
       refine al_ro' (ro_pickF (up_m rfl (u2 rfl hb_8)) ev_c) trivial rfl ?_
       refine al_ro' (ro_move up_h) trivial rfl ?_
       refine al_skip' ⟨_, rfl, .inl up_h⟩ rfl ?_
       refine al_skip' ⟨_, rfl, .inl (up_m rfl up_h)⟩ rfl ?_
       refine al_ro' (ro_pickF (u2 rfl up_h) ev_c) trivial rfl ?_
       refine al_ro' (ro_move up_h) trivial rfl ?_
       refine al_skip' ⟨_, rfl, .inl up_h⟩ rfl ?_
       refine al_skip' ⟨_, rfl, .inl (up_m rfl up_h)⟩ rfl ?_
       refine al_skip' ⟨_, rfl, .inl (u2 rfl up_h)⟩ rfl ?_
       refine al_ro' (ro_pickF (up_m rfl (u2 rfl up_h)) ev_c) trivial rfl ?_
       refine al_ro' (ro_move up_h) trivial rfl ?_
       refine al_skip' ⟨_, rfl, .inl up_h⟩ rfl ?_
       refine al_skip' ⟨_, rfl, .inl (up_m rfl up_h)⟩ rfl ?_
       refine al_ro' (ro_pickF (u2 rfl up_h) ev_c) trivial rfl ?_
       refine al_ro' (ro_move up_h) trivial rfl ?_
       refine al_skip' ⟨_, rfl, .inl up_h⟩ rfl ?_
       refine al_skip' ⟨_, rfl, .inl (up_m rfl up_h)⟩ rfl ?_
       refine al_skip' ⟨_, rfl, .inl (u2 rfl up_h)⟩ rfl ?_
       refine al_ro' (ro_pickF (up_m rfl (u2 rfl up_h)) ev_c) trivial rfl ?_
       refine al_ro' (ro_move up_h) trivial rfl ?_
       refine al_skip' ⟨_, rfl, .inl up_h⟩ rfl ?_
       refine al_skip' ⟨_, rfl, .inl (up_m rfl up_h)⟩ rfl ?_
       refine al_ro' (ro_pickF (u2 rfl up_h) ev_c) trivial rfl ?_
       refine al_ro' (ro_move up_h) trivial rfl ?_
       refine al_skip' ⟨_, rfl, .inl up_h⟩ rfl ?_
       refine al_skip' ⟨_, rfl, .inl (up_m rfl up_h)⟩ rfl ?_
       refine al_skip' ⟨_, rfl, .inl (u2 rfl up_h)⟩ rfl ?_
       refine al_ro' (ro_pickF (up_m rfl (u2 rfl up_h)) ev_c) trivial rfl ?_
       refine al_ro' (ro_assign up_h) trivial rfl ?_
       refine al_end (fun e_22 he_22 => ?_)
       have s0_22 := ef 0 he_22 up_h
       clear he_22 hb_8 s1_7 s2_7 s3_7 s4_7 s5_7 s6_7 s7_7 s8_7
       refine then_n ?_
       refine aw_ret ?_
       refine ret1 (.inr rfl) (by kernel_rfl) (resV_tmp s0_22) (.ro _ rfl) ?_
       clear s0_22 mo0_5 ml_5
       rfl)
end Go.Proofs.Ytelgkjekpcfffaa
