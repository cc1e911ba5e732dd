/- Contracts of chapter 5: copies, the law's own plant, whether the program is awake. No conditions on a program. -/
import Derived.Test.YtgiiedpambimoaaK11
namespace Go.Proofs.Ytgiiedpambimoaa
open Go Go.RowKit Go.Proofs
set_option linter.unusedSimpArgs false
set_option linter.unusedVariables false
theorem k12_az51 : (Try.prog.info? 51).bind (·.zero) = some (.agg #[.string ByteArray.empty, .slice none 0 0]) := by kernel_rfl
theorem k12_bz51 : (Try.prog.info? 51).bind (·.zero) = some (.agg #[.string ByteArray.empty, .slice none 0 0]) := by kernel_rfl
theorem k12_bu51 : Try.prog.underlying 51 = some (.struct (fsOf Try.prog 51)) := by kernel_rfl
theorem k12_bp51 : ∀ w, ((fsOf Try.prog 51).mapM fun f => Prod.mk f.offset <$> sizeOf f.type : Sem (Array (Nat × Nat))).run Try.prog w = .ok (#[(0, 1), (1, 1)]) w := fun _ => by kernel_rfl
theorem k12_fl51_0 : FldIs Try.prog 51 0 0 false 1 := by unfold FldIs; kernel_rfl
theorem k12_fl51_1 : FldIs Try.prog 51 1 1 false 1 := by unfold FldIs; kernel_rfl
theorem k12_sl49 : SlIs Try.prog 49 118 4 32 (.agg #[.int .i64 0, .int .i64 0, .int .i64 0, .bool false]) := ⟨by kernel_rfl, by kernel_rfl, by kernel_rfl⟩
theorem k12_sz51 : (Try.prog.info? 51).map (·.size) = some 2 := by kernel_rfl
theorem k12_ty49 : TyIs Try.prog 49 false 1 := ⟨by kernel_rfl, by kernel_rfl⟩
theorem k12_ty51 : TyIs Try.prog 51 true 2 := ⟨by kernel_rfl, by kernel_rfl⟩
theorem k12_ty9 : TyIs Try.prog 9 false 1 := ⟨by kernel_rfl, by kernel_rfl⟩
set_option maxRecDepth 100000 in
set_option maxHeartbeats 1000000 in
theorem rCopy_ok (nm : ByteArray) (ps : List Piece) (hp : ps.length ≤ 1000000000) : FnOk Try.prog 21 [trA nm ps] (fun q => q = trA nm ps) := by
  refine fnOk_of (fn := Try.f21) 10 (by kernel_rfl) rfl (by kernel_rfl) (Nat.le_of_ble_eq_true rfl) ?_
  intro e_0 m_0 hA hm_0
  have s0_0 : evA e_0 (.tmp 0) = _ := hA 0 _ rfl
  have ml_0 : m_0.length = 0 := by rw [hm_0]; rfl
  clear hA hm_0
  refine aw_seq ?_
  refine aw_text (by kernel_rfl) ?_
  refine al_stm (st_box s0_0 rfl ml_0) trivial rfl (fun m_1 hm_1 => ?_)
  have mo0_1 := m_push hm_1 ml_0
  (try simp only [packA_t, packA_f, iE, bE, setAt, cellsA, Value.cells, map_vc, map_vn, Nat.reduceAdd, qS] at mo0_1)
  have ml_1 := m_push_l hm_1 ml_0
  have ml_1 : _ = 1 := ml_1
  clear hm_1
  refine al_stm (st_alloc k12_az51 rfl ml_1) trivial rfl (fun m_2 hm_2 => ?_)
  have mo1_2 := m_push hm_2 ml_1
  (try simp only [packA_t, packA_f, iE, bE, setAt, cellsA, Value.cells, map_vc, map_vn, Nat.reduceAdd, qS] at mo1_2)
  have mo0_2 := m_push_o hm_2 mo0_1
  have ml_2 := m_push_l hm_2 ml_1
  have ml_2 : _ = 2 := ml_2
  clear hm_2 mo0_1
  refine al_end (fun e_3 he_3 => ?_)
  have s1_3 := ef 1 he_3 (up_m rfl up_h)
  have s2_3 := ef 2 he_3 up_h
  clear he_3 s0_0
  refine then_n ?_
  refine aw_seq ?_
  refine aw_draw 7 (by kernel_rfl) (by kernel_rfl) (by kernel_rfl) (by kernel_rfl) ?_
  refine ds_ro' (ro_fld_ptr k12_fl51_0 rfl s1_3) trivial rfl ?_
  refine ds_ro' (ro_eq (ro_ld_ptr k12_ty9 rfl mo0_2 up_h (by first | exact Nat.le_of_ble_eq_true rfl | omega | (simp only [lnS] <;> omega) | (simp <;> omega))) (by first | (simp only [packA_t, packA_f, iE, bE, setAt, cellsA, Value.cells, map_vc, map_vn, Nat.reduceAdd, qS] <;> rfl) | rfl)) trivial rfl ?_
  refine ds_ro' (ro_lit0 k12_sl49) trivial rfl ?_
  refine ds_ro' (ro_fld_ptr k12_fl51_1 rfl (up_m rfl (u2 rfl s1_3))) trivial rfl ?_
  refine ds_ro' (ro_eq (ro_ld_ptr k12_ty49 rfl mo0_2 up_h (by first | exact Nat.le_of_ble_eq_true rfl | omega | (simp only [lnS] <;> omega) | (simp <;> omega))) (by first | (simp only [packA_t, packA_f, iE, bE, setAt, cellsA, Value.cells, map_vc, map_vn, Nat.reduceAdd, qS] <;> rfl) | rfl)) trivial rfl ?_
  refine ds_ro' (ro_ape k12_sl49 rfl (u2 rfl up_h) up_h (by first | omega | (simp only [lnS] <;> omega) | (simp <;> omega))) trivial rfl ?_
  refine ds_ro' (ro_build (evP_cons (u4 rfl up_h) (evP_cons up_h evP_nil)) k12_bz51 k12_bu51 k12_bp51 rfl) trivial rfl ?_
  refine ds_nil ?_
  refine al_stm (st_store (up_m rfl (u2 rfl (u4 rfl s2_3))) up_h rfl rfl mo1_2 k12_sz51 rfl (by first | exact Nat.le_of_ble_eq_true rfl | omega | (simp only [lnS] <;> omega) | (simp <;> omega))) trivial rfl (fun m_4 hm_4 => ?_)
  have mo1_4 := m_set hm_4 mo1_2
  (try simp only [packA_t, packA_f, iE, bE, setAt, cellsA, Value.cells, map_vc, map_vn, Nat.reduceAdd, qS] at mo1_4)
  have mo0_4 := m_set_o hm_4 mo0_2 (by decide)
  have ml_4 := m_set_l hm_4 ml_2
  clear hm_4 mo1_2 mo0_2
  refine al_end (fun e_5 he_5 => ?_)
  have s2_5 := ef 2 he_5 (up_n (up_m rfl (u2 rfl (u4 rfl s2_3))))
  clear he_5 s1_3 s2_3
  refine then_n ?_
  refine aw_ret ?_
  refine ret1 (.inr rfl) (by kernel_rfl) (resV_cell s2_5 mo1_4 k12_ty51 (by first | exact Nat.le_of_ble_eq_true rfl | omega | (simp only [lnS] <;> omega) | (simp <;> omega)) (by simp)) (vw_r (.ro _ rfl)) ?_
  clear s2_5 mo1_4 mo0_4 ml_4
  rfl
def nm0 : ByteArray := ⟨#[116]⟩
def tr0 : List Piece := [⟨100, 0, 10000, false⟩, ⟨100, 0, 8000, true⟩, ⟨50, -10, 10000, false⟩, ⟨200, 0, 10000, true⟩]
theorem curve0_ok : FnOk Try.prog 34 [trA nm0 tr0, syA 100 10 50, iA 1] (fun q => q = .tuple [.row 1 ([10000, 8000, 0].map iE), iA 0]) :=
  (curveOf_ok nm0 tr0 (by decide) (by decide) 100 10 50 1).mono fun q h => h.trans (by kernel_rfl)
theorem run0_ok : FnOk Try.prog 36 [trA nm0 tr0, syA 100 10 50, .agg [iA 0, iA 5000], iA 3] (fun q => q = .tuple [.row 1 ([5000, 3000, 1000, 10000].map iE), iA 0]) :=
  (runTo_ok nm0 tr0 (by decide) (by decide) 100 10 50 0 5000 3).mono fun q h => h.trans (by kernel_rfl)
theorem same_ok (l : List Int) (h : l.length ≤ 1000000000) : FnOk Try.prog 35 [.row 1 (l.map iE), .row 1 (l.map iE)] (fun q => q = bA true) :=
  (ints_ok l l h h).mono fun q h => h.trans (by simp)
end Go.Proofs.Ytgiiedpambimoaa
