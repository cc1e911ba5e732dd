/- Contracts of chapter 5: the document's places and limits, lists compared. No conditions on a program. -/
import Derived.Test.YtgiiedpambimoaaM2
namespace Go.Proofs.Ytgiiedpambimoaa
open Go Go.RowKit Go.Proofs
set_option linter.unusedSimpArgs false
set_option linter.unusedVariables false
theorem k11_sl22 : SlIs Try.prog 22 3 1 8 (.int .i64 0) := ⟨by kernel_rfl, by kernel_rfl, by kernel_rfl⟩
theorem k11_ty3 : TyIs Try.prog 3 false 1 := ⟨by kernel_rfl, by kernel_rfl⟩

theorem getD_ext {a b : List Int} (hl : a.length = b.length) (h : ∀ j : Nat, j < a.length → a.getD j default = b.getD j default) : a = b := by
  apply List.ext_getElem hl
  intro j h1 h2
  have := h j h1
  simpa [List.getD_eq_getElem?_getD, List.getElem?_eq_getElem h1, List.getElem?_eq_getElem h2] using this
theorem avi {x y : Int} (h : x = y) : AV.v (.int .i64 x) = AV.v (.int .i64 y) := by rw [h]
set_option maxRecDepth 100000 in
set_option maxHeartbeats 1000000 in
theorem ints_ok (a b : List Int) (ha : a.length ≤ 1000000000) (hb : b.length ≤ 1000000000) : FnOk Try.prog 35 [.row 1 (a.map iE), .row 1 (b.map iE)] (fun q => q = bA (decide (a = b))) := by
  refine fnOk_of (fn := Try.f35) 26 (by kernel_rfl) rfl (by kernel_rfl) (Nat.le_of_ble_eq_true rfl) ?_
  intro e_0 m_0 hA hm_0
  have s0_0 : evA e_0 (.tmp 0) = _ := hA 0 _ rfl
  have s1_0 : evA e_0 (.tmp 1) = _ := hA 1 _ rfl
  have ml_0 : m_0.length = 0 := by rw [hm_0]; rfl
  clear hA hm_0
  refine aw_seq ?_
  refine aw_text (by kernel_rfl) ?_
  refine al_ro' (ro_assign ev_c) trivial rfl ?_
  refine al_end (fun e_1 he_1 => ?_)
  have s0_1 := ef 0 he_1 (up_m rfl s0_0)
  have s1_1 := ef 1 he_1 (up_m rfl s1_0)
  clear he_1 s0_0 s1_0
  refine then_n ?_
  refine aw_seq ?_
  refine aw_seq ?_
  refine aw_text (by kernel_rfl) ?_
  refine al_ro' (ro_move s0_1) trivial rfl ?_
  refine al_ro' (ro_eq (ro_len_row up_h rfl k11_sl22.1) (by first | (simp only [lnS] <;> rfl) | rfl)) trivial rfl ?_
  refine al_ro' (ro_move (u2 rfl s1_1)) trivial rfl ?_
  refine al_ro' (ro_eq (ro_len_row up_h rfl k11_sl22.1) (by first | (simp only [lnS] <;> rfl) | rfl)) trivial rfl ?_
  refine al_ro' (ro_neq (u2 rfl up_h) up_h) trivial rfl ?_
  refine al_end (fun e_2 he_2 => ?_)
  have s0_2 := ef 0 he_2 (up_m rfl (u4 rfl s0_1))
  have s1_2 := ef 1 he_2 (up_m rfl (u4 rfl s1_1))
  have s10_2 := ef 10 he_2 up_h
  clear he_2 s0_1 s1_1
  refine then_n ?_
  refine aw_case s10_2 (fun hq_3 => ?_) (fun hq_3 => ?_)
  · (first | replace hq_3 := bnt hq_3 | replace hq_3 := bnf hq_3 | replace hq_3 := bt hq_3 | replace hq_3 := bf hq_3 | replace hq_3 := bt' hq_3 | replace hq_3 := bf' hq_3 | skip)
    first
    | (cases hq_3; done) | (exfalso; omega)
    | (
       refine aw_seq ?_
       refine aw_text (by kernel_rfl) ?_
       refine al_ro' (ro_assign ev_c) trivial rfl ?_
       refine al_end (fun e_4 he_4 => ?_)
       have s4_4 := ef 4 he_4 up_h
       clear he_4 s0_2 s10_2 s1_2
       refine then_n ?_
       refine aw_ret ?_
       refine then_r ?_
       refine ret1 (.inr rfl) (by kernel_rfl) (resV_tmp s4_4) (.ro _ rfl) ?_
       clear s4_4  ml_0
       (have hne : ¬ a = b := (fun hc => absurd (congrArg List.length hc) (by omega)); rw [decide_eq_false hne]))
  · (first | replace hq_3 := bnt hq_3 | replace hq_3 := bnf hq_3 | replace hq_3 := bt hq_3 | replace hq_3 := bf hq_3 | replace hq_3 := bt' hq_3 | replace hq_3 := bf' hq_3 | skip)
    first
    | (cases hq_3; done) | (exfalso; omega)
    | (
       (have hl : a.length = b.length := (by omega))
       refine aw_skip ?_
       refine then_n ?_
       refine aw_seq ?_
       refine aw_seq ?_
       refine aw_text (by kernel_rfl) ?_
       refine al_ro' (ro_assign ev_c) trivial rfl ?_
       refine al_end (fun e_5 he_5 => ?_)
       have s0_5 := ef 0 he_5 (up_m rfl s0_2)
       have s1_5 := ef 1 he_5 (up_m rfl s1_2)
       have s5_5 := ef 5 he_5 up_h
       clear he_5 s0_2 s10_2 s1_2
       refine then_n ?_
       refine aw_block ?_
       refine aw_loop (S := Int) (fun i e mem => (evA e (.tmp 5) = .v (.int .i64 i)) ∧ (evA e (.tmp 0) = evA e_5 (.tmp 0)) ∧ (evA e (.tmp 1) = evA e_5 (.tmp 1)) ∧ (mem.length = 0) ∧ ((0 ≤ i ∧ i ≤ a.length ∧ a.length = b.length ∧ ∀ j : Nat, j < i → a.getD j default = b.getD j default))) (fun i => (a.length - i).toNat) _ ⟨s5_5, rfl, rfl, ml_0, ?_⟩ ?_
       · (refine ⟨by omega, by omega, by omega, fun j hj => absurd hj (by omega)⟩)
       · rintro i e_6 m_6 ⟨s5_6, k0_6, k1_6, ml_6, hinv⟩
         have s0_6 := k0_6.trans s0_5
         have s1_6 := k1_6.trans s1_5
         (have hl := hinv.2.2.1)
         refine aw_seq ?_
         refine aw_seq ?_
         refine aw_text (by kernel_rfl) ?_
         refine al_ro' (ro_move s5_6) trivial rfl ?_
         refine al_ro' (ro_move (up_m rfl s0_6)) trivial rfl ?_
         refine al_ro' (ro_eq (ro_len_row up_h rfl k11_sl22.1) (by first | (simp only [lnS] <;> rfl) | rfl)) trivial rfl ?_
         refine al_ro' (ro_lss (u2 rfl up_h) up_h) trivial rfl ?_
         refine al_end (fun e_7 he_7 => ?_)
         have s0_7 := ef 0 he_7 (u4 rfl s0_6)
         have s1_7 := ef 1 he_7 (u4 rfl s1_6)
         have s5_7 := ef 5 he_7 (u4 rfl s5_6)
         have s14_7 := ef 14 he_7 up_h
         clear he_7 s0_6 s1_6 s5_6
         refine then_n ?_
         refine aw_case s14_7 (fun hq_8 => ?_) (fun hq_8 => ?_)
         · (first | replace hq_8 := bnt hq_8 | replace hq_8 := bnf hq_8 | replace hq_8 := bt hq_8 | replace hq_8 := bf hq_8 | replace hq_8 := bt' hq_8 | replace hq_8 := bf' hq_8 | skip)
           first
           | (cases hq_8; done) | (exfalso; omega)
           | (
              (have hx := hinv.2.1)
              refine aw_skip ?_
              refine then_n ?_
              refine aw_seq ?_
              refine aw_block ?_
              refine aw_seq ?_
              refine aw_draw 9 (by kernel_rfl) (by kernel_rfl) (by kernel_rfl) (by kernel_rfl) ?_
              refine ds_ro' (ro_move s0_7) trivial rfl ?_
              refine ds_ro' (ro_move (up_m rfl s5_7)) trivial rfl ?_
              refine ds_ro' (ro_eq (ro_ix k11_sl22 (up_m rfl up_h) up_h (by first | decide | omega | (simp <;> omega)) (by first | (refine idx_map ?_; first | omega | (simp only [lnS]; omega)) | (refine idx_mapI ?_; first | omega | (simp only [lnS]; omega)) | (refine idx_mapN ?_; first | omega | (simp only [lnS]; omega)) | rfl)) (by first | (simp only [packA_t, packA_f, iE, bE, setAt, cellsA, Value.cells, map_vc, map_vn, Nat.reduceAdd, qS] <;> rfl) | rfl)) trivial rfl ?_
              refine ds_ro' (ro_eq (ro_ld_ref k11_ty3 rfl up_h (by first | exact Nat.le_of_ble_eq_true rfl | omega | (simp only [lnS] <;> omega) | (simp <;> omega))) (by first | (simp only [packA_t, packA_f, iE, bE, setAt, cellsA, Value.cells, map_vc, map_vn, Nat.reduceAdd, qS] <;> rfl) | rfl)) trivial rfl ?_
              refine ds_ro' (ro_move (u4 rfl s1_7)) trivial rfl ?_
              refine ds_ro' (ro_move (up_m rfl (u4 rfl s5_7))) trivial rfl ?_
              refine ds_ro' (ro_eq (ro_ix k11_sl22 (up_m rfl up_h) up_h (by first | decide | omega | (simp <;> omega)) (by first | (refine idx_map ?_; first | omega | (simp only [lnS]; omega)) | (refine idx_mapI ?_; first | omega | (simp only [lnS]; omega)) | (refine idx_mapN ?_; first | omega | (simp only [lnS]; omega)) | rfl)) (by first | (simp only [packA_t, packA_f, iE, bE, setAt, cellsA, Value.cells, map_vc, map_vn, Nat.reduceAdd, qS] <;> rfl) | rfl)) trivial rfl ?_
              refine ds_ro' (ro_eq (ro_ld_ref k11_ty3 rfl up_h (by first | exact Nat.le_of_ble_eq_true rfl | omega | (simp only [lnS] <;> omega) | (simp <;> omega))) (by first | (simp only [packA_t, packA_f, iE, bE, setAt, cellsA, Value.cells, map_vc, map_vn, Nat.reduceAdd, qS] <;> rfl) | rfl)) trivial rfl ?_
              refine ds_ro' (ro_neq (u4 rfl up_h) up_h) trivial rfl ?_
              refine ds_nil ?_
              refine al_end (fun e_9 he_9 => ?_)
              have s0_9 := ef 0 he_9 (up_m rfl (u8 rfl s0_7))
              have s1_9 := ef 1 he_9 (up_m rfl (u8 rfl s1_7))
              have s5_9 := ef 5 he_9 (up_m rfl (u8 rfl s5_7))
              have s25_9 := ef 25 he_9 up_h
              clear he_9 s0_7 s14_7 s1_7 s5_7
              refine then_n ?_
              refine aw_case s25_9 (fun hq_10 => ?_) (fun hq_10 => ?_)
              · (first | replace hq_10 := bnt hq_10 | replace hq_10 := bnf hq_10 | replace hq_10 := bt hq_10 | replace hq_10 := bf hq_10 | replace hq_10 := bt' hq_10 | replace hq_10 := bf' hq_10 | skip)
                first
                | (cases hq_10; done) | (exfalso; omega)
                | (
                   refine aw_seq ?_
                   refine aw_text (by kernel_rfl) ?_
                   refine al_ro' (ro_assign ev_c) trivial rfl ?_
                   refine al_end (fun e_11 he_11 => ?_)
                   have s4_11 := ef 4 he_11 up_h
                   clear he_11 s0_9 s1_9 s25_9 s5_9
                   refine then_n ?_
                   refine aw_ret ?_
                   refine block_r ?_
                   refine then_r ?_
                   refine then_r ?_
                   refine block_r ?_
                   refine then_r ?_
                   refine ret1 (.inr rfl) (by kernel_rfl) (resV_tmp s4_11) (.ro _ rfl) ?_
                   clear s4_11  ml_6
                   (have hne : ¬ a = b := (fun hc => absurd (congrArg (fun l => l.getD i.toNat default) hc) (by assumption)); rw [decide_eq_false hne]))
              · (first | replace hq_10 := bnt hq_10 | replace hq_10 := bnf hq_10 | replace hq_10 := bt hq_10 | replace hq_10 := bf hq_10 | replace hq_10 := bt' hq_10 | replace hq_10 := bf' hq_10 | skip)
                first
                | (cases hq_10; done) | (exfalso; omega)
                | (
                   refine aw_skip ?_
                   refine block_n ?_
                   refine then_n ?_
                   refine aw_text (by kernel_rfl) ?_
                   refine al_ro' (ro_move s5_9) trivial rfl ?_
                   first | (refine al_ro' (ro_add' up_h ev_c ?_) trivial rfl ?_; · (unfold In64; omega)) | refine al_ro' (ro_add up_h ev_c) trivial rfl ?_
                   refine al_ro' (ro_assign up_h) trivial rfl ?_
                   refine al_end (fun e_12 he_12 => ?_)
                   have s0_12 := ef 0 he_12 (up_m rfl (u2 rfl s0_9))
                   have s1_12 := ef 1 he_12 (up_m rfl (u2 rfl s1_9))
                   have s5_12 := ef 5 he_12 up_h
                   clear he_12 s0_9 s1_9 s25_9 s5_9
                   refine then_n ?_
                   refine ⟨_, ⟨s5_12, (s0_12.trans s0_5.symm), (s1_12.trans s1_5.symm), ml_6, ?_⟩, ?_⟩
                   · (obtain ⟨p1, p2, p3, p4⟩ := hinv; refine ⟨by omega, by omega, p3, fun j hj => ?_⟩; by_cases hji : j = i.toNat; (rw [hji]; assumption); exact p4 j (by omega))
                   · ((try dsimp only); omega)))
         · (first | replace hq_8 := bnt hq_8 | replace hq_8 := bnf hq_8 | replace hq_8 := bt hq_8 | replace hq_8 := bf hq_8 | replace hq_8 := bt' hq_8 | replace hq_8 := bf' hq_8 | skip)
           first
           | (cases hq_8; done) | (exfalso; omega)
           | (
              refine aw_exit ?_
              refine then_x ?_
              refine then_x ?_
              refine block_hit ?_
              refine then_n ?_
              refine aw_seq ?_
              refine aw_text (by kernel_rfl) ?_
              refine al_ro' (ro_assign ev_c) trivial rfl ?_
              refine al_end (fun e_13 he_13 => ?_)
              have s4_13 := ef 4 he_13 up_h
              clear he_13 s0_7 s14_7 s1_7 s5_7
              refine then_n ?_
              refine aw_ret ?_
              refine ret1 (.inr rfl) (by kernel_rfl) (resV_tmp s4_13) (.ro _ rfl) ?_
              clear s4_13  ml_6
              (obtain ⟨p1, p2, p3, p4⟩ := hinv; refine congrArg bA ?_; simp; exact getD_ext p3 fun j hj => p4 j (by omega))))
end Go.Proofs.Ytgiiedpambimoaa
