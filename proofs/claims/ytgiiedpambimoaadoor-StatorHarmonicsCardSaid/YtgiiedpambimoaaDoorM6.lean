/- Texts of this claim, one behind the other: lemmas for the statement. -/
import Derived.Test.YtgiiedpambimoaaDoorM5
/- The law of chapter 3 on orders and samples. The variables of the package hold what the text lays. -/
namespace Go.Proofs.YtgiiedpambimoaaDoor
open Go Go.RowKit Go.Proofs
set_option linter.unusedSimpArgs false
set_option linter.unusedVariables false
theorem h10_az24 : (Tryd.prog.info? 24).bind (·.zero) = some (.agg #[.int .i64 0, .int .i64 0]) := by kernel_rfl
theorem h10_az48 : (Tryd.prog.info? 48).bind (·.zero) = some (.agg #[.slice none 0 0, .slice none 0 0]) := by kernel_rfl
theorem h10_bz24 : (Tryd.prog.info? 24).bind (·.zero) = some (.agg #[.int .i64 0, .int .i64 0]) := by kernel_rfl
theorem h10_bu24 : Tryd.prog.underlying 24 = some (.struct (fsOf Tryd.prog 24)) := by kernel_rfl
theorem h10_bp24 : ∀ w, ((fsOf Tryd.prog 24).mapM fun f => Prod.mk f.offset <$> sizeOf f.type : Sem (Array (Nat × Nat))).run Tryd.prog w = .ok (#[(0, 1), (1, 1)]) w := fun _ => by kernel_rfl
theorem h10_bz64 : (Tryd.prog.info? 64).bind (·.zero) = some (.agg #[.slice none 0 0]) := by kernel_rfl
theorem h10_bu64 : Tryd.prog.underlying 64 = some (.struct (fsOf Tryd.prog 64)) := by kernel_rfl
theorem h10_bp64 : ∀ w, ((fsOf Tryd.prog 64).mapM fun f => Prod.mk f.offset <$> sizeOf f.type : Sem (Array (Nat × Nat))).run Tryd.prog w = .ok (#[(0, 1)]) w := fun _ => by kernel_rfl
theorem h10_bz69 : (Tryd.prog.info? 69).bind (·.zero) = some (.agg #[.int .i64 0, .int .i64 0]) := by kernel_rfl
theorem h10_bu69 : Tryd.prog.underlying 69 = some (.struct (fsOf Tryd.prog 69)) := by kernel_rfl
theorem h10_bp69 : ∀ w, ((fsOf Tryd.prog 69).mapM fun f => Prod.mk f.offset <$> sizeOf f.type : Sem (Array (Nat × Nat))).run Tryd.prog w = .ok (#[(0, 1), (1, 1)]) w := fun _ => by kernel_rfl
theorem h10_bz71 : (Tryd.prog.info? 71).bind (·.zero) = some (.agg #[.slice none 0 0, .int .i64 0, .int .i64 0, .int .i64 0]) := by kernel_rfl
theorem h10_bu71 : Tryd.prog.underlying 71 = some (.struct (fsOf Tryd.prog 71)) := by kernel_rfl
theorem h10_bp71 : ∀ w, ((fsOf Tryd.prog 71).mapM fun f => Prod.mk f.offset <$> sizeOf f.type : Sem (Array (Nat × Nat))).run Tryd.prog w = .ok (#[(0, 1), (1, 2), (3, 1)]) w := fun _ => by kernel_rfl
theorem h10_fl48_0 : FldIs Tryd.prog 48 0 0 false 1 := by unfold FldIs; kernel_rfl
theorem h10_fl48_1 : FldIs Tryd.prog 48 1 1 false 1 := by unfold FldIs; kernel_rfl
theorem h10_hcf23 : ∀ args w, (callFunc 23 args).run Tryd.prog w = .ok (.enter 23 args) w := fun _ _ => by kernel_rfl
theorem h10_hcf30 : ∀ args w, (callFunc 30 args).run Tryd.prog w = .ok (.enter 30 args) w := fun _ _ => by kernel_rfl
theorem h10_hcf32 : ∀ args w, (callFunc 32 args).run Tryd.prog w = .ok (.enter 32 args) w := fun _ _ => by kernel_rfl
theorem h10_hcf46 : ∀ args w, (callFunc 46 args).run Tryd.prog w = .ok (.enter 46 args) w := fun _ _ => by kernel_rfl
theorem h10_hcf47 : ∀ args w, (callFunc 47 args).run Tryd.prog w = .ok (.enter 47 args) w := fun _ _ => by kernel_rfl
theorem h10_sl43 : SlIs Tryd.prog 43 24 2 16 (.agg #[.int .i64 0, .int .i64 0]) := ⟨by kernel_rfl, by kernel_rfl, by kernel_rfl⟩
theorem h10_sl46 : SlIs Tryd.prog 46 3 1 8 (.int .i64 0) := ⟨by kernel_rfl, by kernel_rfl, by kernel_rfl⟩
theorem h10_sz24 : (Tryd.prog.info? 24).map (·.size) = some 2 := by kernel_rfl
theorem h10_sz48 : (Tryd.prog.info? 48).map (·.size) = some 2 := by kernel_rfl
theorem h10_ty24 : TyIs Tryd.prog 24 true 2 := ⟨by kernel_rfl, by kernel_rfl⟩
theorem h10_ty3 : TyIs Tryd.prog 3 false 1 := ⟨by kernel_rfl, by kernel_rfl⟩
theorem h10_ty43 : TyIs Tryd.prog 43 false 1 := ⟨by kernel_rfl, by kernel_rfl⟩
theorem h10_ty46 : TyIs Tryd.prog 46 false 1 := ⟨by kernel_rfl, by kernel_rfl⟩

set_option maxRecDepth 100000 in
set_option maxHeartbeats 1000000 in
theorem bInts_ok (a b : List Int) (ha : a.length ≤ 1000000000) (hb : b.length ≤ 1000000000) : FnOk Tryd.prog 46 [.row 1 (a.map iE), .row 1 (b.map iE)] (fun q => q = oA (decide (a = b))) := by
  refine fnOk_of (fn := Tryd.f46) 26 (by kernel_rfl) rfl (by kernel_rfl) (Nat.le_of_ble_eq_true rfl) ?_
  intro e_0 m_0 hA hm_0
  have s0_0 : evA e_0 (.tmp 0) = _ := hA 0 _ rfl
  have s1_0 : evA e_0 (.tmp 1) = _ := hA 1 _ rfl
  have ml_0 : m_0.length = 0 := by rw [hm_0]; rfl
  clear hA hm_0
  refine aw_seq ?_
  refine aw_text (by kernel_rfl) ?_
  refine al_ro' (ro_assign ev_c) trivial rfl ?_
  refine al_end (fun e_1 he_1 => ?_)
  have s0_1 := ef 0 he_1 (up_m rfl s0_0)
  have s1_1 := ef 1 he_1 (up_m rfl s1_0)
  clear he_1 s0_0 s1_0
  refine then_n ?_
  refine aw_seq ?_
  refine aw_seq ?_
  refine aw_text (by kernel_rfl) ?_
  refine al_ro' (ro_move s0_1) trivial rfl ?_
  refine al_ro' (ro_eq (ro_len_row up_h rfl h10_sl46.1) (by first | (simp only [lnS] <;> rfl) | rfl)) trivial rfl ?_
  refine al_ro' (ro_move (u2 rfl s1_1)) trivial rfl ?_
  refine al_ro' (ro_eq (ro_len_row up_h rfl h10_sl46.1) (by first | (simp only [lnS] <;> rfl) | rfl)) trivial rfl ?_
  refine al_ro' (ro_neq (u2 rfl up_h) up_h) trivial rfl ?_
  refine al_end (fun e_2 he_2 => ?_)
  have s0_2 := ef 0 he_2 (up_m rfl (u4 rfl s0_1))
  have s1_2 := ef 1 he_2 (up_m rfl (u4 rfl s1_1))
  have s10_2 := ef 10 he_2 up_h
  clear he_2 s0_1 s1_1
  refine then_n ?_
  refine aw_case s10_2 (fun hq_3 => ?_) (fun hq_3 => ?_)
  · (first | replace hq_3 := bnt hq_3 | replace hq_3 := bnf hq_3 | replace hq_3 := bt hq_3 | replace hq_3 := bf hq_3 | replace hq_3 := bt' hq_3 | replace hq_3 := bf' hq_3 | skip)
    first
    | (cases hq_3; done) | (exfalso; omega)
    | (
       refine aw_seq ?_
       refine aw_text (by kernel_rfl) ?_
       refine al_ro' (ro_assign ev_c) trivial rfl ?_
       refine al_end (fun e_4 he_4 => ?_)
       have s4_4 := ef 4 he_4 up_h
       clear he_4 s0_2 s10_2 s1_2
       refine then_n ?_
       refine aw_ret ?_
       refine then_r ?_
       refine ret1 (.inr rfl) (by kernel_rfl) (resV_tmp s4_4) (.ro _ rfl) ?_
       clear s4_4  ml_0
       (have hne : ¬ a = b := (fun hc => absurd (congrArg List.length hc) (by omega)); rw [decide_eq_false hne]))
  · (first | replace hq_3 := bnt hq_3 | replace hq_3 := bnf hq_3 | replace hq_3 := bt hq_3 | replace hq_3 := bf hq_3 | replace hq_3 := bt' hq_3 | replace hq_3 := bf' hq_3 | skip)
    first
    | (cases hq_3; done) | (exfalso; omega)
    | (
       (have hl : a.length = b.length := (by omega))
       refine aw_skip ?_
       refine then_n ?_
       refine aw_seq ?_
       refine aw_seq ?_
       refine aw_text (by kernel_rfl) ?_
       refine al_ro' (ro_assign ev_c) trivial rfl ?_
       refine al_end (fun e_5 he_5 => ?_)
       have s0_5 := ef 0 he_5 (up_m rfl s0_2)
       have s1_5 := ef 1 he_5 (up_m rfl s1_2)
       have s5_5 := ef 5 he_5 up_h
       clear he_5 s0_2 s10_2 s1_2
       refine then_n ?_
       refine aw_block ?_
       refine aw_loop (S := Int) (fun i e mem => (evA e (.tmp 5) = .v (.int .i64 i)) ∧ (evA e (.tmp 0) = evA e_5 (.tmp 0)) ∧ (evA e (.tmp 1) = evA e_5 (.tmp 1)) ∧ (mem.length = 0) ∧ ((0 ≤ i ∧ i ≤ a.length ∧ a.length = b.length ∧ ∀ j : Nat, j < i → a.getD j default = b.getD j default))) (fun i => (a.length - i).toNat) _ ⟨s5_5, rfl, rfl, ml_0, ?_⟩ ?_
       · (refine ⟨by omega, by omega, by omega, fun j hj => absurd hj (by omega)⟩)
       · rintro i e_6 m_6 ⟨s5_6, k0_6, k1_6, ml_6, hinv⟩
         have s0_6 := k0_6.trans s0_5
         have s1_6 := k1_6.trans s1_5
         (have hl := hinv.2.2.1)
         refine aw_seq ?_
         refine aw_seq ?_
         refine aw_text (by kernel_rfl) ?_
         refine al_ro' (ro_move s5_6) trivial rfl ?_
         refine al_ro' (ro_move (up_m rfl s0_6)) trivial rfl ?_
         refine al_ro' (ro_eq (ro_len_row up_h rfl h10_sl46.1) (by first | (simp only [lnS] <;> rfl) | rfl)) trivial rfl ?_
         refine al_ro' (ro_lss (u2 rfl up_h) up_h) trivial rfl ?_
         refine al_end (fun e_7 he_7 => ?_)
         have s0_7 := ef 0 he_7 (u4 rfl s0_6)
         have s1_7 := ef 1 he_7 (u4 rfl s1_6)
         have s5_7 := ef 5 he_7 (u4 rfl s5_6)
         have s14_7 := ef 14 he_7 up_h
         clear he_7 s0_6 s1_6 s5_6
         refine then_n ?_
         refine aw_case s14_7 (fun hq_8 => ?_) (fun hq_8 => ?_)
         · (first | replace hq_8 := bnt hq_8 | replace hq_8 := bnf hq_8 | replace hq_8 := bt hq_8 | replace hq_8 := bf hq_8 | replace hq_8 := bt' hq_8 | replace hq_8 := bf' hq_8 | skip)
           first
           | (cases hq_8; done) | (exfalso; omega)
           | (
              (have hx := hinv.2.1)
              refine aw_skip ?_
              refine then_n ?_
              refine aw_seq ?_
              refine aw_block ?_
              refine aw_seq ?_
              refine aw_draw 9 (by kernel_rfl) (by kernel_rfl) (by kernel_rfl) (by kernel_rfl) ?_
              refine ds_ro' (ro_move s0_7) trivial rfl ?_
              refine ds_ro' (ro_move (up_m rfl s5_7)) trivial rfl ?_
              refine ds_ro' (ro_eq (ro_ix h10_sl46 (up_m rfl up_h) up_h (by first | decide | omega | (simp <;> omega)) (by first | (refine idx_map ?_; first | omega | (simp only [lnS]; omega)) | (refine idx_mapI ?_; first | omega | (simp only [lnS]; omega)) | (refine idx_mapN ?_; first | omega | (simp only [lnS]; omega)) | rfl)) (by first | (simp only [packA_t, packA_f, iE, bE, setAt, cellsA, Value.cells, map_vc, map_vn, Nat.reduceAdd, qS] <;> rfl) | rfl)) trivial rfl ?_
              refine ds_ro' (ro_eq (ro_ld_ref h10_ty3 rfl up_h (by first | exact Nat.le_of_ble_eq_true rfl | omega | (simp only [lnS] <;> omega) | (simp <;> omega))) (by first | (simp only [packA_t, packA_f, iE, bE, setAt, cellsA, Value.cells, map_vc, map_vn, Nat.reduceAdd, qS] <;> rfl) | rfl)) trivial rfl ?_
              refine ds_ro' (ro_move (u4 rfl s1_7)) trivial rfl ?_
              refine ds_ro' (ro_move (up_m rfl (u4 rfl s5_7))) trivial rfl ?_
              refine ds_ro' (ro_eq (ro_ix h10_sl46 (up_m rfl up_h) up_h (by first | decide | omega | (simp <;> omega)) (by first | (refine idx_map ?_; first | omega | (simp only [lnS]; omega)) | (refine idx_mapI ?_; first | omega | (simp only [lnS]; omega)) | (refine idx_mapN ?_; first | omega | (simp only [lnS]; omega)) | rfl)) (by first | (simp only [packA_t, packA_f, iE, bE, setAt, cellsA, Value.cells, map_vc, map_vn, Nat.reduceAdd, qS] <;> rfl) | rfl)) trivial rfl ?_
              refine ds_ro' (ro_eq (ro_ld_ref h10_ty3 rfl up_h (by first | exact Nat.le_of_ble_eq_true rfl | omega | (simp only [lnS] <;> omega) | (simp <;> omega))) (by first | (simp only [packA_t, packA_f, iE, bE, setAt, cellsA, Value.cells, map_vc, map_vn, Nat.reduceAdd, qS] <;> rfl) | rfl)) trivial rfl ?_
              refine ds_ro' (ro_neq (u4 rfl up_h) up_h) trivial rfl ?_
              refine ds_nil ?_
              refine al_end (fun e_9 he_9 => ?_)
              have s0_9 := ef 0 he_9 (up_m rfl (u8 rfl s0_7))
              have s1_9 := ef 1 he_9 (up_m rfl (u8 rfl s1_7))
              have s5_9 := ef 5 he_9 (up_m rfl (u8 rfl s5_7))
              have s25_9 := ef 25 he_9 up_h
              clear he_9 s0_7 s14_7 s1_7 s5_7
              refine then_n ?_
              refine aw_case s25_9 (fun hq_10 => ?_) (fun hq_10 => ?_)
              · (first | replace hq_10 := bnt hq_10 | replace hq_10 := bnf hq_10 | replace hq_10 := bt hq_10 | replace hq_10 := bf hq_10 | replace hq_10 := bt' hq_10 | replace hq_10 := bf' hq_10 | skip)
                first
                | (cases hq_10; done) | (exfalso; omega)
                | (
                   refine aw_seq ?_
                   refine aw_text (by kernel_rfl) ?_
                   refine al_ro' (ro_assign ev_c) trivial rfl ?_
                   refine al_end (fun e_11 he_11 => ?_)
                   have s4_11 := ef 4 he_11 up_h
                   clear he_11 s0_9 s1_9 s25_9 s5_9
                   refine then_n ?_
                   refine aw_ret ?_
                   refine block_r ?_
                   refine then_r ?_
                   refine then_r ?_
                   refine block_r ?_
                   refine then_r ?_
                   refine ret1 (.inr rfl) (by kernel_rfl) (resV_tmp s4_11) (.ro _ rfl) ?_
                   clear s4_11  ml_6
                   (have hne : ¬ a = b := (fun hc => absurd (congrArg (fun l => l.getD i.toNat default) hc) (by assumption)); rw [decide_eq_false hne]))
              · (first | replace hq_10 := bnt hq_10 | replace hq_10 := bnf hq_10 | replace hq_10 := bt hq_10 | replace hq_10 := bf hq_10 | replace hq_10 := bt' hq_10 | replace hq_10 := bf' hq_10 | skip)
                first
                | (cases hq_10; done) | (exfalso; omega)
                | (
                   refine aw_skip ?_
                   refine block_n ?_
                   refine then_n ?_
                   refine aw_text (by kernel_rfl) ?_
                   refine al_ro' (ro_move s5_9) trivial rfl ?_
                   first | (refine al_ro' (ro_add' up_h ev_c ?_) trivial rfl ?_; · (unfold In64; omega)) | refine al_ro' (ro_add up_h ev_c) trivial rfl ?_
                   refine al_ro' (ro_assign up_h) trivial rfl ?_
                   refine al_end (fun e_12 he_12 => ?_)
                   have s0_12 := ef 0 he_12 (up_m rfl (u2 rfl s0_9))
                   have s1_12 := ef 1 he_12 (up_m rfl (u2 rfl s1_9))
                   have s5_12 := ef 5 he_12 up_h
                   clear he_12 s0_9 s1_9 s25_9 s5_9
                   refine then_n ?_
                   refine ⟨_, ⟨s5_12, (s0_12.trans s0_5.symm), (s1_12.trans s1_5.symm), ml_6, ?_⟩, ?_⟩
                   · (obtain ⟨p1, p2, p3, p4⟩ := hinv; refine ⟨by omega, by omega, p3, fun j hj => ?_⟩; by_cases hji : j = i.toNat; (rw [hji]; assumption); exact p4 j (by omega))
                   · ((try dsimp only); omega)))
         · (first | replace hq_8 := bnt hq_8 | replace hq_8 := bnf hq_8 | replace hq_8 := bt hq_8 | replace hq_8 := bf hq_8 | replace hq_8 := bt' hq_8 | replace hq_8 := bf' hq_8 | skip)
           first
           | (cases hq_8; done) | (exfalso; omega)
           | (
              refine aw_exit ?_
              refine then_x ?_
              refine then_x ?_
              refine block_hit ?_
              refine then_n ?_
              refine aw_seq ?_
              refine aw_text (by kernel_rfl) ?_
              refine al_ro' (ro_assign ev_c) trivial rfl ?_
              refine al_end (fun e_13 he_13 => ?_)
              have s4_13 := ef 4 he_13 up_h
              clear he_13 s0_7 s14_7 s1_7 s5_7
              refine then_n ?_
              refine aw_ret ?_
              refine ret1 (.inr rfl) (by kernel_rfl) (resV_tmp s4_13) (.ro _ rfl) ?_
              clear s4_13  ml_6
              (obtain ⟨p1, p2, p3, p4⟩ := hinv; refine congrArg oA ?_; simp; exact list_ext' (by omega) fun j hj => p4 j (by omega))))
theorem sameI_ok (l : List Int) (h : l.length ≤ 1000000000) : FnOk Tryd.prog 46 [.row 1 (l.map iE), .row 1 (l.map iE)] (fun q => q = oA true) :=
  (bInts_ok l l h h).mono fun q h => h.trans (by simp)
theorem sameV_ok (l : List V2) (h : l.length ≤ 1000000) : FnOk Tryd.prog 47 [.row 2 (l.map tE), .row 2 (l.map tE)] (fun q => q = oA true) :=
  (same_ok' l l h h).mono fun q h => h.trans (by simp [samV])
set_option maxRecDepth 100000 in
set_option maxHeartbeats 1000000 in
theorem sAwake_ok : FnOkG Tryd.prog gT 9 [] (fun q => q = oA true) := by
  refine fnOkG_of (fn := Tryd.f9) gT 66 (by kernel_rfl) rfl (by kernel_rfl) (Nat.le_of_ble_eq_true rfl) ?_
  intro e_0 m_0 hA hm_0
  have ml_0 : m_0.length = 1 := by rw [hm_0]; rfl
  have mo0_0 : m_0[0]? = some (.glob gT) := by rw [hm_0]; rfl
  clear hA hm_0
  refine aw_seq ?_
  refine aw_text (by kernel_rfl) ?_
  refine al_ro' (ro_assign ev_c) trivial rfl ?_
  refine al_end (fun e_1 he_1 => ?_)
  clear he_1
  refine then_n ?_
  refine aw_seq ?_
  refine aw_text (by kernel_rfl) ?_
  refine al_ro' (ro_build (evP_cons ev_c evP_nil) h10_bz24 h10_bu24 h10_bp24 rfl) trivial rfl ?_
  refine al_ro' (ro_call (evL_cons up_h (evL_cons ev_c evL_nil)) rfl (turned0_ok) h10_hcf32) trivial rfl ?_
  refine al_ro' (ro_move up_h) trivial rfl ?_
  refine al_ro' (ro_extract up_h rfl) trivial rfl ?_
  refine al_ro' (ro_extract (up_m rfl up_h) rfl) trivial rfl ?_
  refine al_stm (st_alloc h10_az24 rfl ml_0) trivial rfl (fun m_2 hm_2 => ?_)
  have mo1_2 := m_push hm_2 ml_0
  (try simp only [packA_t, packA_f, iE, bE, setAt, cellsA, Value.cells, map_vc, map_vn, Nat.reduceAdd, qS] at mo1_2)
  have mo0_2 := m_push_o hm_2 mo0_0
  have ml_2 := m_push_l hm_2 ml_0
  have ml_2 : _ = 2 := ml_2
  clear hm_2 mo0_0
  refine al_stm (st_store up_h (u2 rfl up_h) rfl rfl mo1_2 h10_sz24 rfl (by first | exact Nat.le_of_ble_eq_true rfl | omega | (simp only [lnS] <;> omega) | (simp <;> omega))) trivial rfl (fun m_3 hm_3 => ?_)
  have mo1_3 := m_set hm_3 mo1_2
  (try simp only [packA_t, packA_f, iE, bE, setAt, cellsA, Value.cells, map_vc, map_vn, Nat.reduceAdd, qS] at mo1_3)
  have mo0_3 := m_set_o hm_3 mo0_2 (by decide)
  have ml_3 := m_set_l hm_3 ml_2
  clear hm_3 mo1_2 mo0_2
  refine al_ro' (ro_assign (up_n (up_m rfl up_h))) trivial rfl ?_
  refine al_end (fun e_4 he_4 => ?_)
  have s1_4 := ef 1 he_4 (up_m rfl (up_n up_h))
  have s2_4 := ef 2 he_4 up_h
  clear he_4
  refine then_n ?_
  refine aw_seq ?_
  refine aw_text (by kernel_rfl) ?_
  refine al_ro' (ro_lit h10_sl46 (evP_cons ev_c (evP_cons ev_c evP_nil)) rfl rfl rfl rfl) trivial rfl ?_
  refine al_ro' (ro_build (evP_cons up_h evP_nil) h10_bz64 h10_bu64 h10_bp64 rfl) trivial rfl ?_
  refine al_ro' (ro_build (evP_cons ev_c (evP_cons ev_c evP_nil)) h10_bz69 h10_bu69 h10_bp69 rfl) trivial rfl ?_
  refine al_ro' (ro_build (evP_cons ev_c evP_nil) h10_bz24 h10_bu24 h10_bp24 rfl) trivial rfl ?_
  refine al_ro' (ro_build (evP_cons ev_c evP_nil) h10_bz24 h10_bu24 h10_bp24 rfl) trivial rfl ?_
  refine al_ro' (ro_lit h10_sl43 (evP_cons (up_m rfl up_h) (evP_cons up_h evP_nil)) rfl rfl rfl rfl) trivial rfl ?_
  refine al_ro' (ro_build (evP_cons ev_c evP_nil) h10_bz24 h10_bu24 h10_bp24 rfl) trivial rfl ?_
  refine al_ro' (ro_build (evP_cons (up_m rfl up_h) (evP_cons up_h evP_nil)) h10_bz71 h10_bu71 h10_bp71 rfl) trivial rfl ?_
  refine al_ro' (ro_call (evL_cons (u2 rfl (u4 rfl up_h)) (evL_cons (up_m rfl (u4 rfl up_h)) (evL_cons up_h evL_nil))) rfl (forceAt0_ok) h10_hcf30) trivial rfl ?_
  refine al_ro' (ro_move up_h) trivial rfl ?_
  refine al_ro' (ro_extract up_h rfl) trivial rfl ?_
  refine al_ro' (ro_extract (up_m rfl up_h) rfl) trivial rfl ?_
  refine al_ro' (ro_assign (up_m rfl up_h)) trivial rfl ?_
  refine al_ro' (ro_assign (up_m rfl up_h)) trivial rfl ?_
  refine al_end (fun e_5 he_5 => ?_)
  have s1_5 := ef 1 he_5 (u2 rfl (u4 rfl (u8 rfl s1_4)))
  have s2_5 := ef 2 he_5 (u2 rfl (u4 rfl (u8 rfl s2_4)))
  have s3_5 := ef 3 he_5 (up_m rfl up_h)
  have s4_5 := ef 4 he_5 up_h
  clear he_5 s1_4 s2_4
  refine then_n ?_
  refine aw_seq ?_
  refine aw_text (by kernel_rfl) ?_
  refine al_ro' (ro_build (evP_cons ev_c evP_nil) h10_bz24 h10_bu24 h10_bp24 rfl) trivial rfl ?_
  refine al_ro' (ro_build (evP_cons ev_c evP_nil) h10_bz24 h10_bu24 h10_bp24 rfl) trivial rfl ?_
  refine al_ro' (ro_build (evP_cons ev_c evP_nil) h10_bz24 h10_bu24 h10_bp24 rfl) trivial rfl ?_
  refine al_ro' (ro_lit h10_sl43 (evP_cons (u2 rfl up_h) (evP_cons (up_m rfl up_h) (evP_cons up_h evP_nil))) rfl rfl rfl rfl) trivial rfl ?_
  refine al_ro' (ro_callG (evL_cons ev_c (evL_cons up_h evL_nil)) rfl mo0_3 (modulated0_ok) h10_hcf23) trivial rfl ?_
  refine al_ro' (ro_move up_h) trivial rfl ?_
  refine al_ro' (ro_extract up_h rfl) trivial rfl ?_
  refine al_ro' (ro_extract (up_m rfl up_h) rfl) trivial rfl ?_
  refine al_stm (st_alloc h10_az48 rfl ml_3) trivial rfl (fun m_6 hm_6 => ?_)
  have mo2_6 := m_push hm_6 ml_3
  (try simp only [packA_t, packA_f, iE, bE, setAt, cellsA, Value.cells, map_vc, map_vn, Nat.reduceAdd, qS] at mo2_6)
  have mo1_6 := m_push_o hm_6 mo1_3
  have mo0_6 := m_push_o hm_6 mo0_3
  have ml_6 := m_push_l hm_6 ml_3
  have ml_6 : _ = 3 := ml_6
  clear hm_6 mo1_3 mo0_3
  refine al_stm (st_store up_h (u2 rfl up_h) rfl rfl mo2_6 h10_sz48 rfl (by first | exact Nat.le_of_ble_eq_true rfl | omega | (simp only [lnS] <;> omega) | (simp <;> omega))) trivial rfl (fun m_7 hm_7 => ?_)
  have mo2_7 := m_set hm_7 mo2_6
  (try simp only [packA_t, packA_f, iE, bE, setAt, cellsA, Value.cells, map_vc, map_vn, Nat.reduceAdd, qS] at mo2_7)
  have mo1_7 := m_set_o hm_7 mo1_6 (by decide)
  have mo0_7 := m_set_o hm_7 mo0_6 (by decide)
  have ml_7 := m_set_l hm_7 ml_6
  clear hm_7 mo2_6 mo1_6 mo0_6
  refine al_ro' (ro_assign (up_n (up_m rfl up_h))) trivial rfl ?_
  refine al_end (fun e_8 he_8 => ?_)
  have s1_8 := ef 1 he_8 (up_m rfl (up_n (up_m rfl (u8 rfl s1_5))))
  have s2_8 := ef 2 he_8 (up_m rfl (up_n (up_m rfl (u8 rfl s2_5))))
  have s3_8 := ef 3 he_8 (up_m rfl (up_n (up_m rfl (u8 rfl s3_5))))
  have s4_8 := ef 4 he_8 (up_m rfl (up_n (up_m rfl (u8 rfl s4_5))))
  have s5_8 := ef 5 he_8 (up_m rfl (up_n up_h))
  have s6_8 := ef 6 he_8 up_h
  clear he_8 s1_5 s2_5 s3_5 s4_5
  refine then_n ?_
  refine aw_seq ?_
  refine aw_text (by kernel_rfl) ?_
  refine al_ro' (ro_move s2_8) trivial rfl ?_
  refine al_ro' (ro_eql up_h ev_c) trivial rfl ?_
  refine al_ro' (ro_move up_h) trivial rfl ?_
  refine al_case up_h (fun hb_9 hq_9 => ?_) (fun hb_9 hq_9 => ?_)
  · (first | replace hq_9 := bnt hq_9 | replace hq_9 := bnf hq_9 | replace hq_9 := bt hq_9 | replace hq_9 := bf hq_9 | replace hq_9 := bt' hq_9 | replace hq_9 := bf' hq_9 | skip)
    first
    | (cases hq_9; done) | (exfalso; omega)
    | (
       refine al_ro' (ro_eq (ro_ld_ptr h10_ty24 rfl mo1_7 (up_m rfl (u2 rfl s1_8)) (by first | exact Nat.le_of_ble_eq_true rfl | omega | (simp only [lnS] <;> omega) | (simp <;> omega))) (by first | (simp only [packA_t, packA_f, iE, bE, setAt, cellsA, Value.cells, map_vc, map_vn, Nat.reduceAdd, qS] <;> rfl) | rfl)) ⟨_, rfl, hb_9⟩ rfl ?_
       refine al_ro' (ro_build (evP_cons ev_c evP_nil) h10_bz24 h10_bu24 h10_bp24 rfl) ⟨_, rfl, (up_m rfl hb_9)⟩ rfl ?_
       refine al_ro' (ro_aeql (up_m rfl up_h) up_h (xs := [.int .i64 (-1), .int .i64 0]) (ys := [.int .i64 (-1), .int .i64 0]) (b := true) ⟨rfl, by kernel_rfl, fun _ => by kernel_rfl⟩) ⟨_, rfl, (u2 rfl hb_9)⟩ rfl ?_
       refine al_ro' (ro_pickT (up_m rfl (u2 rfl hb_9)) up_h) trivial rfl ?_
       refine al_ro' (ro_move up_h) trivial rfl ?_
       refine al_case up_h (fun hb_10 hq_10 => ?_) (fun hb_10 hq_10 => ?_)
       · (first | replace hq_10 := bnt hq_10 | replace hq_10 := bnf hq_10 | replace hq_10 := bt hq_10 | replace hq_10 := bf hq_10 | replace hq_10 := bt' hq_10 | replace hq_10 := bf' hq_10 | skip)
         first
         | (cases hq_10; done) | (exfalso; omega)
         | (
            refine al_ro' (ro_move (u8 rfl s4_8)) ⟨_, rfl, hb_10⟩ rfl ?_
            refine al_ro' (ro_eql up_h ev_c) ⟨_, rfl, (up_m rfl hb_10)⟩ rfl ?_
            refine al_ro' (ro_pickT (u2 rfl hb_10) up_h) trivial rfl ?_
            refine al_ro' (ro_move up_h) trivial rfl ?_
            refine al_case up_h (fun hb_11 hq_11 => ?_) (fun hb_11 hq_11 => ?_)
            · (first | replace hq_11 := bnt hq_11 | replace hq_11 := bnf hq_11 | replace hq_11 := bt hq_11 | replace hq_11 := bf hq_11 | replace hq_11 := bt' hq_11 | replace hq_11 := bf' hq_11 | skip)
              first
              | (cases hq_11; done) | (exfalso; omega)
              | (
                 refine al_ro' (ro_move (u4 rfl (u8 rfl s3_8))) ⟨_, rfl, hb_11⟩ rfl ?_
                 refine al_ro' (ro_eql up_h ev_c) ⟨_, rfl, (up_m rfl hb_11)⟩ rfl ?_
                 refine al_ro' (ro_pickT (u2 rfl hb_11) up_h) trivial rfl ?_
                 refine al_ro' (ro_move up_h) trivial rfl ?_
                 refine al_case up_h (fun hb_12 hq_12 => ?_) (fun hb_12 hq_12 => ?_)
                 · (first | replace hq_12 := bnt hq_12 | replace hq_12 := bnf hq_12 | replace hq_12 := bt hq_12 | replace hq_12 := bf hq_12 | replace hq_12 := bt' hq_12 | replace hq_12 := bf' hq_12 | skip)
                   first
                   | (cases hq_12; done) | (exfalso; omega)
                   | (
                      refine al_ro' (ro_move (u16 rfl s6_8)) ⟨_, rfl, hb_12⟩ rfl ?_
                      refine al_ro' (ro_eql up_h ev_c) ⟨_, rfl, (up_m rfl hb_12)⟩ rfl ?_
                      refine al_ro' (ro_pickT (u2 rfl hb_12) up_h) trivial rfl ?_
                      refine al_ro' (ro_move up_h) trivial rfl ?_
                      refine al_case up_h (fun hb_13 hq_13 => ?_) (fun hb_13 hq_13 => ?_)
                      · (first | replace hq_13 := bnt hq_13 | replace hq_13 := bnf hq_13 | replace hq_13 := bt hq_13 | replace hq_13 := bf hq_13 | replace hq_13 := bt' hq_13 | replace hq_13 := bf' hq_13 | skip)
                        first
                        | (cases hq_13; done) | (exfalso; omega)
                        | (
                           refine al_ro' (ro_fld_ptr h10_fl48_0 rfl (u4 rfl (u16 rfl s5_8))) ⟨_, rfl, hb_13⟩ rfl ?_
                           refine al_ro' (ro_eq (ro_ld_ptr h10_ty46 rfl mo2_7 up_h (by first | exact Nat.le_of_ble_eq_true rfl | omega | (simp only [lnS] <;> omega) | (simp <;> omega))) (by first | (simp only [packA_t, packA_f, iE, bE, setAt, cellsA, Value.cells, map_vc, map_vn, Nat.reduceAdd, qS] <;> rfl) | rfl)) ⟨_, rfl, (up_m rfl hb_13)⟩ rfl ?_
                           refine al_ro' (ro_lit h10_sl46 (evP_cons ev_c (evP_cons ev_c (evP_cons ev_c evP_nil))) rfl rfl rfl rfl) ⟨_, rfl, (u2 rfl hb_13)⟩ rfl ?_
                           refine al_ro' (ro_call (evL_cons (up_m rfl up_h) (evL_cons up_h evL_nil)) rfl (sameI_ok [0, 4, 0] (by decide)) h10_hcf46) ⟨_, rfl, (up_m rfl (u2 rfl hb_13))⟩ rfl ?_
                           refine al_ro' (ro_pickT (u4 rfl hb_13) up_h) trivial rfl ?_
                           refine al_ro' (ro_move up_h) trivial rfl ?_
                           refine al_case up_h (fun hb_14 hq_14 => ?_) (fun hb_14 hq_14 => ?_)
                           · (first | replace hq_14 := bnt hq_14 | replace hq_14 := bnf hq_14 | replace hq_14 := bt hq_14 | replace hq_14 := bf hq_14 | replace hq_14 := bt' hq_14 | replace hq_14 := bf' hq_14 | skip)
                             first
                             | (cases hq_14; done) | (exfalso; omega)
                             | (
                                refine al_ro' (ro_fld_ptr h10_fl48_1 rfl (u2 rfl (u8 rfl (u16 rfl s5_8)))) ⟨_, rfl, hb_14⟩ rfl ?_
                                refine al_ro' (ro_eq (ro_ld_ptr h10_ty43 rfl mo2_7 up_h (by first | exact Nat.le_of_ble_eq_true rfl | omega | (simp only [lnS] <;> omega) | (simp <;> omega))) (by first | (simp only [packA_t, packA_f, iE, bE, setAt, cellsA, Value.cells, map_vc, map_vn, Nat.reduceAdd, qS] <;> rfl) | rfl)) ⟨_, rfl, (up_m rfl hb_14)⟩ rfl ?_
                                refine al_ro' (ro_build (evP_cons ev_c evP_nil) h10_bz24 h10_bu24 h10_bp24 rfl) ⟨_, rfl, (u2 rfl hb_14)⟩ rfl ?_
                                refine al_ro' (ro_build (evP_cons ev_c evP_nil) h10_bz24 h10_bu24 h10_bp24 rfl) ⟨_, rfl, (up_m rfl (u2 rfl hb_14))⟩ rfl ?_
                                refine al_ro' (ro_build (evP_cons ev_c evP_nil) h10_bz24 h10_bu24 h10_bp24 rfl) ⟨_, rfl, (u4 rfl hb_14)⟩ rfl ?_
                                refine al_ro' (ro_lit h10_sl43 (evP_cons (u2 rfl up_h) (evP_cons (up_m rfl up_h) (evP_cons up_h evP_nil))) rfl rfl rfl rfl) ⟨_, rfl, (up_m rfl (u4 rfl hb_14))⟩ rfl ?_
                                refine al_ro' (ro_call (evL_cons (u4 rfl up_h) (evL_cons up_h evL_nil)) rfl (sameV_ok [(4, 0), (-2, 0), (2, 0)] (by decide)) h10_hcf47) ⟨_, rfl, (u2 rfl (u4 rfl hb_14))⟩ rfl ?_
                                refine al_ro' (ro_pickT (up_m rfl (u2 rfl (u4 rfl hb_14))) up_h) trivial rfl ?_
                                refine al_ro' (ro_assign up_h) trivial rfl ?_
                                refine al_end (fun e_15 he_15 => ?_)
                                have s0_15 := ef 0 he_15 up_h
                                clear he_15 hb_10 hb_11 hb_12 hb_13 hb_14 hb_9 s1_8 s2_8 s3_8 s4_8 s5_8 s6_8
                                refine then_n ?_
                                refine aw_ret ?_
                                refine ret1 (.inr rfl) (by kernel_rfl) (resV_tmp s0_15) (.ro _ rfl) ?_
                                clear s0_15 mo2_7 mo1_7 mo0_7 ml_7
                                rfl)
                           · (first | replace hq_14 := bnt hq_14 | replace hq_14 := bnf hq_14 | replace hq_14 := bt hq_14 | replace hq_14 := bf hq_14 | replace hq_14 := bt' hq_14 | replace hq_14 := bf' hq_14 | skip)
                             first
                             | (cases hq_14; done) | (exfalso; omega)
                             | (
                                refine al_skip' ⟨_, rfl, .inl hb_14⟩ rfl ?_
                                refine al_skip' ⟨_, rfl, .inl (up_m rfl hb_14)⟩ rfl ?_
                                refine al_skip' ⟨_, rfl, .inl (u2 rfl hb_14)⟩ rfl ?_
                                refine al_skip' ⟨_, rfl, .inl (up_m rfl (u2 rfl hb_14))⟩ rfl ?_
                                refine al_skip' ⟨_, rfl, .inl (u4 rfl hb_14)⟩ rfl ?_
                                refine al_skip' ⟨_, rfl, .inl (up_m rfl (u4 rfl hb_14))⟩ rfl ?_
                                refine al_skip' ⟨_, rfl, .inl (u2 rfl (u4 rfl hb_14))⟩ rfl ?_
                                refine al_ro' (ro_pickF (up_m rfl (u2 rfl (u4 rfl hb_14))) ev_c) trivial rfl ?_
                                refine al_ro' (ro_assign up_h) trivial rfl ?_
                                refine al_end (fun e_16 he_16 => ?_)
                                have s0_16 := ef 0 he_16 up_h
                                clear he_16 hb_10 hb_11 hb_12 hb_13 hb_14 hb_9 s1_8 s2_8 s3_8 s4_8 s5_8 s6_8
                                refine then_n ?_
                                refine aw_ret ?_
                                refine ret1 (.inr rfl) (by kernel_rfl) (resV_tmp s0_16) (.ro _ rfl) ?_
                                clear s0_16 mo2_7 mo1_7 mo0_7 ml_7
                                rfl))
                      · (first | replace hq_13 := bnt hq_13 | replace hq_13 := bnf hq_13 | replace hq_13 := bt hq_13 | replace hq_13 := bf hq_13 | replace hq_13 := bt' hq_13 | replace hq_13 := bf' hq_13 | skip)
                        first
                        | (cases hq_13; done) | (exfalso; omega)
                        | (
                           refine al_skip' ⟨_, rfl, .inl hb_13⟩ rfl ?_
                           refine al_skip' ⟨_, rfl, .inl (up_m rfl hb_13)⟩ rfl ?_
                           refine al_skip' ⟨_, rfl, .inl (u2 rfl hb_13)⟩ rfl ?_
                           refine al_skip' ⟨_, rfl, .inl (up_m rfl (u2 rfl hb_13))⟩ rfl ?_
                           refine al_ro' (ro_pickF (u4 rfl hb_13) ev_c) trivial rfl ?_
                           refine al_ro' (ro_move up_h) trivial rfl ?_
                           refine al_skip' ⟨_, rfl, .inl up_h⟩ rfl ?_
                           refine al_skip' ⟨_, rfl, .inl (up_m rfl up_h)⟩ rfl ?_
                           refine al_skip' ⟨_, rfl, .inl (u2 rfl up_h)⟩ rfl ?_
                           refine al_skip' ⟨_, rfl, .inl (up_m rfl (u2 rfl up_h))⟩ rfl ?_
                           refine al_skip' ⟨_, rfl, .inl (u4 rfl up_h)⟩ rfl ?_
                           refine al_skip' ⟨_, rfl, .inl (up_m rfl (u4 rfl up_h))⟩ rfl ?_
                           refine al_skip' ⟨_, rfl, .inl (u2 rfl (u4 rfl up_h))⟩ rfl ?_
                           refine al_ro' (ro_pickF (up_m rfl (u2 rfl (u4 rfl up_h))) ev_c) trivial rfl ?_
                           refine al_ro' (ro_assign up_h) trivial rfl ?_
                           refine al_end (fun e_17 he_17 => ?_)
                           have s0_17 := ef 0 he_17 up_h
                           clear he_17 hb_10 hb_11 hb_12 hb_13 hb_9 s1_8 s2_8 s3_8 s4_8 s5_8 s6_8
                           refine then_n ?_
                           refine aw_ret ?_
                           refine ret1 (.inr rfl) (by kernel_rfl) (resV_tmp s0_17) (.ro _ rfl) ?_
                           clear s0_17 mo2_7 mo1_7 mo0_7 ml_7
                           rfl))
                 · (first | replace hq_12 := bnt hq_12 | replace hq_12 := bnf hq_12 | replace hq_12 := bt hq_12 | replace hq_12 := bf hq_12 | replace hq_12 := bt' hq_12 | replace hq_12 := bf' hq_12 | skip)
                   first
                   | (cases hq_12; done) | (exfalso; omega)
                   | (
                      refine al_skip' ⟨_, rfl, .inl hb_12⟩ rfl ?_
                      refine al_skip' ⟨_, rfl, .inl (up_m rfl hb_12)⟩ rfl ?_
                      refine al_ro' (ro_pickF (u2 rfl hb_12) ev_c) trivial rfl ?_
                      refine al_ro' (ro_move up_h) trivial rfl ?_
                      refine al_skip' ⟨_, rfl, .inl up_h⟩ rfl ?_
                      refine al_skip' ⟨_, rfl, .inl (up_m rfl up_h)⟩ rfl ?_
                      refine al_skip' ⟨_, rfl, .inl (u2 rfl up_h)⟩ rfl ?_
                      refine al_skip' ⟨_, rfl, .inl (up_m rfl (u2 rfl up_h))⟩ rfl ?_
                      refine al_ro' (ro_pickF (u4 rfl up_h) ev_c) trivial rfl ?_
                      refine al_ro' (ro_move up_h) trivial rfl ?_
                      refine al_skip' ⟨_, rfl, .inl up_h⟩ rfl ?_
                      refine al_skip' ⟨_, rfl, .inl (up_m rfl up_h)⟩ rfl ?_
                      refine al_skip' ⟨_, rfl, .inl (u2 rfl up_h)⟩ rfl ?_
                      refine al_skip' ⟨_, rfl, .inl (up_m rfl (u2 rfl up_h))⟩ rfl ?_
                      refine al_skip' ⟨_, rfl, .inl (u4 rfl up_h)⟩ rfl ?_
                      refine al_skip' ⟨_, rfl, .inl (up_m rfl (u4 rfl up_h))⟩ rfl ?_
                      refine al_skip' ⟨_, rfl, .inl (u2 rfl (u4 rfl up_h))⟩ rfl ?_
                      refine al_ro' (ro_pickF (up_m rfl (u2 rfl (u4 rfl up_h))) ev_c) trivial rfl ?_
                      refine al_ro' (ro_assign up_h) trivial rfl ?_
                      refine al_end (fun e_18 he_18 => ?_)
                      have s0_18 := ef 0 he_18 up_h
                      clear he_18 hb_10 hb_11 hb_12 hb_9 s1_8 s2_8 s3_8 s4_8 s5_8 s6_8
                      refine then_n ?_
                      refine aw_ret ?_
                      refine ret1 (.inr rfl) (by kernel_rfl) (resV_tmp s0_18) (.ro _ rfl) ?_
                      clear s0_18 mo2_7 mo1_7 mo0_7 ml_7
                      rfl))
            · (first | replace hq_11 := bnt hq_11 | replace hq_11 := bnf hq_11 | replace hq_11 := bt hq_11 | replace hq_11 := bf hq_11 | replace hq_11 := bt' hq_11 | replace hq_11 := bf' hq_11 | skip)
              first
              | (cases hq_11; done) | (exfalso; omega)
              | (
                 refine al_skip' ⟨_, rfl, .inl hb_11⟩ rfl ?_
                 refine al_skip' ⟨_, rfl, .inl (up_m rfl hb_11)⟩ rfl ?_
                 refine al_ro' (ro_pickF (u2 rfl hb_11) ev_c) trivial rfl ?_
                 refine al_ro' (ro_move up_h) trivial rfl ?_
                 refine al_skip' ⟨_, rfl, .inl up_h⟩ rfl ?_
                 refine al_skip' ⟨_, rfl, .inl (up_m rfl up_h)⟩ rfl ?_
                 refine al_ro' (ro_pickF (u2 rfl up_h) ev_c) trivial rfl ?_
                 refine al_ro' (ro_move up_h) trivial rfl ?_
                 refine al_skip' ⟨_, rfl, .inl up_h⟩ rfl ?_
                 refine al_skip' ⟨_, rfl, .inl (up_m rfl up_h)⟩ rfl ?_
                 refine al_skip' ⟨_, rfl, .inl (u2 rfl up_h)⟩ rfl ?_
                 refine al_skip' ⟨_, rfl, .inl (up_m rfl (u2 rfl up_h))⟩ rfl ?_
                 refine al_ro' (ro_pickF (u4 rfl up_h) ev_c) trivial rfl ?_
                 refine al_ro' (ro_move up_h) trivial rfl ?_
                 refine al_skip' ⟨_, rfl, .inl up_h⟩ rfl ?_
                 refine al_skip' ⟨_, rfl, .inl (up_m rfl up_h)⟩ rfl ?_
                 refine al_skip' ⟨_, rfl, .inl (u2 rfl up_h)⟩ rfl ?_
                 refine al_skip' ⟨_, rfl, .inl (up_m rfl (u2 rfl up_h))⟩ rfl ?_
                 refine al_skip' ⟨_, rfl, .inl (u4 rfl up_h)⟩ rfl ?_
                 refine al_skip' ⟨_, rfl, .inl (up_m rfl (u4 rfl up_h))⟩ rfl ?_
                 refine al_skip' ⟨_, rfl, .inl (u2 rfl (u4 rfl up_h))⟩ rfl ?_
                 refine al_ro' (ro_pickF (up_m rfl (u2 rfl (u4 rfl up_h))) ev_c) trivial rfl ?_
                 refine al_ro' (ro_assign up_h) trivial rfl ?_
                 refine al_end (fun e_19 he_19 => ?_)
                 have s0_19 := ef 0 he_19 up_h
                 clear he_19 hb_10 hb_11 hb_9 s1_8 s2_8 s3_8 s4_8 s5_8 s6_8
                 refine then_n ?_
                 refine aw_ret ?_
                 refine ret1 (.inr rfl) (by kernel_rfl) (resV_tmp s0_19) (.ro _ rfl) ?_
                 clear s0_19 mo2_7 mo1_7 mo0_7 ml_7
                 rfl))
       · (first | replace hq_10 := bnt hq_10 | replace hq_10 := bnf hq_10 | replace hq_10 := bt hq_10 | replace hq_10 := bf hq_10 | replace hq_10 := bt' hq_10 | replace hq_10 := bf' hq_10 | skip)
         first
         | (cases hq_10; done) | (exfalso; omega)
         | (
            refine al_skip' ⟨_, rfl, .inl hb_10⟩ rfl ?_
            refine al_skip' ⟨_, rfl, .inl (up_m rfl hb_10)⟩ rfl ?_
            refine al_ro' (ro_pickF (u2 rfl hb_10) ev_c) trivial rfl ?_
            refine al_ro' (ro_move up_h) trivial rfl ?_
            refine al_skip' ⟨_, rfl, .inl up_h⟩ rfl ?_
            refine al_skip' ⟨_, rfl, .inl (up_m rfl up_h)⟩ rfl ?_
            refine al_ro' (ro_pickF (u2 rfl up_h) ev_c) trivial rfl ?_
            refine al_ro' (ro_move up_h) trivial rfl ?_
            refine al_skip' ⟨_, rfl, .inl up_h⟩ rfl ?_
            refine al_skip' ⟨_, rfl, .inl (up_m rfl up_h)⟩ rfl ?_
            refine al_ro' (ro_pickF (u2 rfl up_h) ev_c) trivial rfl ?_
            refine al_ro' (ro_move up_h) trivial rfl ?_
            refine al_skip' ⟨_, rfl, .inl up_h⟩ rfl ?_
            refine al_skip' ⟨_, rfl, .inl (up_m rfl up_h)⟩ rfl ?_
            refine al_skip' ⟨_, rfl, .inl (u2 rfl up_h)⟩ rfl ?_
            refine al_skip' ⟨_, rfl, .inl (up_m rfl (u2 rfl up_h))⟩ rfl ?_
            refine al_ro' (ro_pickF (u4 rfl up_h) ev_c) trivial rfl ?_
            refine al_ro' (ro_move up_h) trivial rfl ?_
            refine al_skip' ⟨_, rfl, .inl up_h⟩ rfl ?_
            refine al_skip' ⟨_, rfl, .inl (up_m rfl up_h)⟩ rfl ?_
            refine al_skip' ⟨_, rfl, .inl (u2 rfl up_h)⟩ rfl ?_
            refine al_skip' ⟨_, rfl, .inl (up_m rfl (u2 rfl up_h))⟩ rfl ?_
            refine al_skip' ⟨_, rfl, .inl (u4 rfl up_h)⟩ rfl ?_
            refine al_skip' ⟨_, rfl, .inl (up_m rfl (u4 rfl up_h))⟩ rfl ?_
            refine al_skip' ⟨_, rfl, .inl (u2 rfl (u4 rfl up_h))⟩ rfl ?_
            refine al_ro' (ro_pickF (up_m rfl (u2 rfl (u4 rfl up_h))) ev_c) trivial rfl ?_
            refine al_ro' (ro_assign up_h) trivial rfl ?_
            refine al_end (fun e_20 he_20 => ?_)
            have s0_20 := ef 0 he_20 up_h
            clear he_20 hb_10 hb_9 s1_8 s2_8 s3_8 s4_8 s5_8 s6_8
            refine then_n ?_
            refine aw_ret ?_
            refine ret1 (.inr rfl) (by kernel_rfl) (resV_tmp s0_20) (.ro _ rfl) ?_
            clear s0_20 mo2_7 mo1_7 mo0_7 ml_7
            rfl))
  · (first | replace hq_9 := bnt hq_9 | replace hq_9 := bnf hq_9 | replace hq_9 := bt hq_9 | replace hq_9 := bf hq_9 | replace hq_9 := bt' hq_9 | replace hq_9 := bf' hq_9 | skip)
    first
    | (cases hq_9; done) | (exfalso; omega)
    | (
       refine al_skip' ⟨_, rfl, .inl hb_9⟩ rfl ?_
       refine al_skip' ⟨_, rfl, .inl (up_m rfl hb_9)⟩ rfl ?_
       refine al_skip' ⟨_, rfl, .inl (u2 rfl hb_9)⟩ rfl ?_
       refine al_ro' (ro_pickF (up_m rfl (u2 rfl hb_9)) ev_c) trivial rfl ?_
       refine al_ro' (ro_move up_h) trivial rfl ?_
       refine al_skip' ⟨_, rfl, .inl up_h⟩ rfl ?_
       refine al_skip' ⟨_, rfl, .inl (up_m rfl up_h)⟩ rfl ?_
       refine al_ro' (ro_pickF (u2 rfl up_h) ev_c) trivial rfl ?_
       refine al_ro' (ro_move up_h) trivial rfl ?_
       refine al_skip' ⟨_, rfl, .inl up_h⟩ rfl ?_
       refine al_skip' ⟨_, rfl, .inl (up_m rfl up_h)⟩ rfl ?_
       refine al_ro' (ro_pickF (u2 rfl up_h) ev_c) trivial rfl ?_
       refine al_ro' (ro_move up_h) trivial rfl ?_
       refine al_skip' ⟨_, rfl, .inl up_h⟩ rfl ?_
       refine al_skip' ⟨_, rfl, .inl (up_m rfl up_h)⟩ rfl ?_
       refine al_ro' (ro_pickF (u2 rfl up_h) ev_c) trivial rfl ?_
       refine al_ro' (ro_move up_h) trivial rfl ?_
       refine al_skip' ⟨_, rfl, .inl up_h⟩ rfl ?_
       refine al_skip' ⟨_, rfl, .inl (up_m rfl up_h)⟩ rfl ?_
       refine al_skip' ⟨_, rfl, .inl (u2 rfl up_h)⟩ rfl ?_
       refine al_skip' ⟨_, rfl, .inl (up_m rfl (u2 rfl up_h))⟩ rfl ?_
       refine al_ro' (ro_pickF (u4 rfl up_h) ev_c) trivial rfl ?_
       refine al_ro' (ro_move up_h) trivial rfl ?_
       refine al_skip' ⟨_, rfl, .inl up_h⟩ rfl ?_
       refine al_skip' ⟨_, rfl, .inl (up_m rfl up_h)⟩ rfl ?_
       refine al_skip' ⟨_, rfl, .inl (u2 rfl up_h)⟩ rfl ?_
       refine al_skip' ⟨_, rfl, .inl (up_m rfl (u2 rfl up_h))⟩ rfl ?_
       refine al_skip' ⟨_, rfl, .inl (u4 rfl up_h)⟩ rfl ?_
       refine al_skip' ⟨_, rfl, .inl (up_m rfl (u4 rfl up_h))⟩ rfl ?_
       refine al_skip' ⟨_, rfl, .inl (u2 rfl (u4 rfl up_h))⟩ rfl ?_
       refine al_ro' (ro_pickF (up_m rfl (u2 rfl (u4 rfl up_h))) ev_c) trivial rfl ?_
       refine al_ro' (ro_assign up_h) trivial rfl ?_
       refine al_end (fun e_21 he_21 => ?_)
       have s0_21 := ef 0 he_21 up_h
       clear he_21 hb_9 s1_8 s2_8 s3_8 s4_8 s5_8 s6_8
       refine then_n ?_
       refine aw_ret ?_
       refine ret1 (.inr rfl) (by kernel_rfl) (resV_tmp s0_21) (.ro _ rfl) ?_
       clear s0_21 mo2_7 mo1_7 mo0_7 ml_7
       rfl)
theorem gT_gS : ∀ x ∈ gT, x ∈ gS := fun x h => List.mem_cons_of_mem _ h
theorem heI : ∀ a b : Int, EqV Tryd.prog 1 3 (pkV false (iV a)) (pkV false (iV b)) (decide (a = b)) := fun a b => eqv_int (k := .i64) (k' := .i64) (by kernel_rfl) a b
theorem smp_eq {hs : List V2} (h : ordE hs = 0) : smpF hs = smpE hs ∧ smpV hs = rSmpV hs := by
  have e : smpF hs = smpE hs := by unfold smpF; rw [if_pos h]
  refine ⟨e, ?_⟩
  unfold smpV rSmpV; rw [e]
end Go.Proofs.YtgiiedpambimoaaDoor

/- The law of chapter 3 on harmonics. The variables of the package hold what the text lays. -/
namespace Go.Proofs.YtgiiedpambimoaaDoor
open Go Go.RowKit Go.Proofs
set_option linter.unusedSimpArgs false
set_option linter.unusedVariables false
theorem h11_az22 : (Tryd.prog.info? 22).bind (·.zero) = some (.agg #[.int .i64 0, .int .i64 0, .int .i64 0, .int .i64 0, .int .i64 0, .int .i64 0]) := by kernel_rfl
theorem h11_az25 : (Tryd.prog.info? 25).bind (·.zero) = some (.agg #[.int .i64 0, .int .i64 0, .int .i64 0, .int .i64 0, .int .i64 0, .int .i64 0, .int .i64 0, .int .i64 0, .int .i64 0, .int .i64 0, .int .i64 0, .int .i64 0]) := by kernel_rfl
theorem h11_ar22 : ArIs Tryd.prog 22 6 1 := ⟨by kernel_rfl, by kernel_rfl⟩
theorem h11_ar25 : ArIs Tryd.prog 25 6 2 := ⟨by kernel_rfl, by kernel_rfl⟩
theorem h11_at22 : ArTy Tryd.prog 22 6 3 false 1 := ⟨by kernel_rfl, by kernel_rfl, by kernel_rfl⟩
theorem h11_bz24 : (Tryd.prog.info? 24).bind (·.zero) = some (.agg #[.int .i64 0, .int .i64 0]) := by kernel_rfl
theorem h11_bu24 : Tryd.prog.underlying 24 = some (.struct (fsOf Tryd.prog 24)) := by kernel_rfl
theorem h11_bp24 : ∀ w, ((fsOf Tryd.prog 24).mapM fun f => Prod.mk f.offset <$> sizeOf f.type : Sem (Array (Nat × Nat))).run Tryd.prog w = .ok (#[(0, 1), (1, 1)]) w := fun _ => by kernel_rfl
theorem h11_fl24_0 : FldIs Tryd.prog 24 0 0 false 1 := by unfold FldIs; kernel_rfl
theorem h11_fl24_1 : FldIs Tryd.prog 24 1 1 false 1 := by unfold FldIs; kernel_rfl
theorem h11_hcf10 : ∀ args w, (callFunc 10 args).run Tryd.prog w = .ok (.enter 10 args) w := fun _ _ => by kernel_rfl
theorem h11_hcf11 : ∀ args w, (callFunc 11 args).run Tryd.prog w = .ok (.enter 11 args) w := fun _ _ => by kernel_rfl
theorem h11_hcf12 : ∀ args w, (callFunc 12 args).run Tryd.prog w = .ok (.enter 12 args) w := fun _ _ => by kernel_rfl
theorem h11_hcf13 : ∀ args w, (callFunc 13 args).run Tryd.prog w = .ok (.enter 13 args) w := fun _ _ => by kernel_rfl
theorem h11_hcf18 : ∀ args w, (callFunc 18 args).run Tryd.prog w = .ok (.enter 18 args) w := fun _ _ => by kernel_rfl
theorem h11_hcf19 : ∀ args w, (callFunc 19 args).run Tryd.prog w = .ok (.enter 19 args) w := fun _ _ => by kernel_rfl
theorem h11_hcf9 : ∀ args w, (callFunc 9 args).run Tryd.prog w = .ok (.enter 9 args) w := fun _ _ => by kernel_rfl
theorem h11_gq24 : Tryd.prog.eqGuardType Tryd.prog.depth 24 = false := by kernel_rfl
theorem h11_sq24 {a0 b0 : Int} {a1 b1 : Int} : EqV Tryd.prog 2 24 (.agg #[.int .i64 a0, .int .i64 a1]) (.agg #[.int .i64 b0, .int .i64 b1]) (decide (a0 = b0) && (decide (a1 = b1) && true)) := (eqs_struct [(3, 0), (3, 1)] (by kernel_rfl) (by kernel_rfl) (by kernel_rfl) (by kernel_rfl) (.cons (fun _ => by kernel_rfl) (fun _ => by kernel_rfl) (eqv_int (k := .i64) (k' := .i64) (by kernel_rfl) a0 b0) (.cons (fun _ => by kernel_rfl) (fun _ => by kernel_rfl) (eqv_int (k := .i64) (k' := .i64) (by kernel_rfl) a1 b1) .nil)))
theorem h11_sz22 : (Tryd.prog.info? 22).map (·.size) = some 6 := by kernel_rfl
theorem h11_sz25 : (Tryd.prog.info? 25).map (·.size) = some 12 := by kernel_rfl
theorem h11_ty22 : TyIs Tryd.prog 22 true 6 := ⟨by kernel_rfl, by kernel_rfl⟩
theorem h11_ty24 : TyIs Tryd.prog 24 true 2 := ⟨by kernel_rfl, by kernel_rfl⟩
theorem h11_ty25 : TyIs Tryd.prog 25 true 12 := ⟨by kernel_rfl, by kernel_rfl⟩
theorem h11_ty3 : TyIs Tryd.prog 3 false 1 := ⟨by kernel_rfl, by kernel_rfl⟩

section
variable (a b c d e f : Int)
/-- The orders of six samples, told. -/
def hX : List V2 := [(a + b + c + d + e + f, 0), (a + (-c) + (-d) + f, (-b) + (-c) + e + f), (a + (-b) + d + (-e), (-b) + c + (-e) + f), (a + (-b) + c + (-d) + e + (-f), 0), (a + (-c) + d + (-f), b + (-c) + e + (-f)), (a + b + (-d) + (-e), b + c + (-e) + (-f))]
theorem tr_ord (k : Nat) (hk : k < 6) : trS ([a, b, c, d, e, f].map oneV) (-1) k 6 = (hX a b c d e f).getD k default := by
  match k, hk with
  | 0, _ => simp [trS, hX, turnV, turnN, rotV, addV, oneV, List.getD_eq_getElem?_getD]; try omega
  | 1, _ => simp [trS, hX, turnV, turnN, rotV, addV, oneV, List.getD_eq_getElem?_getD]; try omega
  | 2, _ => simp [trS, hX, turnV, turnN, rotV, addV, oneV, List.getD_eq_getElem?_getD]; try omega
  | 3, _ => simp [trS, hX, turnV, turnN, rotV, addV, oneV, List.getD_eq_getElem?_getD]; try omega
  | 4, _ => simp [trS, hX, turnV, turnN, rotV, addV, oneV, List.getD_eq_getElem?_getD]; try omega
  | 5, _ => simp [trS, hX, turnV, turnN, rotV, addV, oneV, List.getD_eq_getElem?_getD]; try omega
theorem ord_hX : ordW [a, b, c, d, e, f] = hX a b c d e f := by
  refine list_ext' (by rw [ordW_len]; rfl) fun j hj => ?_
  rw [ordW_len] at hj
  rw [ordW, trW_at _ _ hj, tr_ord a b c d e f j hj]
theorem tr_back (n : Nat) (hn : n < 6) : trS (hX a b c d e f) 1 n 6 = (6 * [a, b, c, d, e, f].getD n default, 0) := by
  match n, hn with
  | 0, _ => simp [trS, hX, turnV, turnN, rotV, addV, List.getD_eq_getElem?_getD]; try omega
  | 1, _ => simp [trS, hX, turnV, turnN, rotV, addV, List.getD_eq_getElem?_getD]; try omega
  | 2, _ => simp [trS, hX, turnV, turnN, rotV, addV, List.getD_eq_getElem?_getD]; try omega
  | 3, _ => simp [trS, hX, turnV, turnN, rotV, addV, List.getD_eq_getElem?_getD]; try omega
  | 4, _ => simp [trS, hX, turnV, turnN, rotV, addV, List.getD_eq_getElem?_getD]; try omega
  | 5, _ => simp [trS, hX, turnV, turnN, rotV, addV, List.getD_eq_getElem?_getD]; try omega
theorem hX_norm : sqV ((hX a b c d e f).getD 0 default) + sqV ((hX a b c d e f).getD 1 default) + sqV ((hX a b c d e f).getD 2 default) + sqV ((hX a b c d e f).getD 3 default) + sqV ((hX a b c d e f).getD 4 default) + sqV ((hX a b c d e f).getD 5 default) = 6 * (a * a + b * b + c * c + d * d + e * e + f * f) := by
  simp only [hX, sqV, List.getD_eq_getElem?_getD, List.getElem?_cons_zero, List.getElem?_cons_succ, Option.getD_some]
  grind
theorem hX_even (h1 : d = -a) (h2 : e = -b) (h3 : f = -c) : (hX a b c d e f).getD 0 default = (0, 0) ∧ (hX a b c d e f).getD 2 default = (0, 0) ∧ (hX a b c d e f).getD 4 default = (0, 0) := by
  subst h1 h2 h3
  simp only [hX, List.getD_eq_getElem?_getD, List.getElem?_cons_zero, List.getElem?_cons_succ, Option.getD_some, Prod.mk.injEq]
  refine ⟨⟨?_, ?_⟩, ⟨?_, ?_⟩, ?_, ?_⟩ <;> first | trivial | omega
theorem hX_bd (h : ∀ n ∈ [a, b, c, d, e, f], -100000 ≤ n ∧ n ≤ 100000) : ∀ v ∈ hX a b c d e f, Bd 600000 v := by
  simp only [List.mem_cons, List.not_mem_nil, or_false, forall_eq_or_imp, forall_eq] at h
  simp only [hX, List.mem_cons, List.not_mem_nil, or_false, forall_eq_or_imp, forall_eq, Bd]
  omega
theorem bd_badO {v : V2} (h : Bd 600000 v) : badO v = false := by
  simp only [badO, smallB, withinB, Bool.or_eq_false_iff, Bool.not_eq_false', Bool.and_eq_true, decide_eq_true_eq]
  exact h
theorem bd_ord {hs : List V2} (h : ∀ v ∈ hs, Bd 600000 v) : ordE hs = 0 := by
  unfold ordE
  rw [unlessE_z (by decide), Bool.not_eq_true', List.any_eq_false]
  intro v hv
  simp [bd_badO (h v hv)]
theorem hX_back (h : phasesE [a, b, c, d, e, f] = 0) : smpF (hX a b c d e f) = 0 ∧ smpV (hX a b c d e f) = [a, b, c, d, e, f] := by
  have hb := hX_bd a b c d e f (phases_bd h)
  have ho := bd_ord hb
  have hn : (trW (hX a b c d e f) 1).any badS = false := any_false (fun j hj => by
    rw [trW_len] at hj
    rw [trW_at _ _ hj, tr_back a b c d e f j hj]
    simp [badS, Int.mul_tmod_right])
  have hout : outW (hX a b c d e f) = [a, b, c, d, e, f] := list_ext' (by rw [outW_len]; rfl) (fun j hj => by
    rw [outW_len] at hj
    rw [outW_at _ hj, trW_at _ _ hj, tr_back a b c d e f j hj]
    simp [sixth, Int.mul_tdiv_cancel_left])
  have hs : smpE (hX a b c d e f) = 0 := by unfold smpE; rw [hn, hout, h]; rfl
  have e1 := (smp_eq ho).1
  rw [hs] at e1
  refine ⟨e1, ?_⟩
  unfold smpV; rw [if_pos e1, hout]
end
/-- The sum of the first squares. -/
def sqS (hs : List V2) : Nat → Int
  | 0 => 0
  | n + 1 => sqS hs n + sqV (hs.getD n default)
theorem sqV_bd {v : V2} (h : Bd 600000 v) : 0 ≤ sqV v ∧ sqV v ≤ 1080000000000 := by
  have m1 := mulBd h.1 h.1
  have m2 := mulBd h.1 h.2
  have m3 := mulBd h.2 h.2
  have m4 : 4 * sqV v = (2 * v.1 - v.2) * (2 * v.1 - v.2) + 3 * (v.2 * v.2) := by unfold sqV; grind
  have m5 : 0 ≤ (2 * v.1 - v.2) * (2 * v.1 - v.2) := by
    rcases Int.le_total 0 (2 * v.1 - v.2) with hq | hq
    · exact Int.mul_nonneg hq hq
    · exact Int.mul_nonneg_of_nonpos_of_nonpos hq hq
  have m6 : 0 ≤ v.2 * v.2 := by
    rcases Int.le_total 0 v.2 with hq | hq
    · exact Int.mul_nonneg hq hq
    · exact Int.mul_nonneg_of_nonpos_of_nonpos hq hq
  refine ⟨by omega, ?_⟩
  unfold sqV; omega
theorem sqS_bd {hs : List V2} (h : ∀ v ∈ hs, Bd 600000 v) : ∀ n : Nat, 0 ≤ sqS hs n ∧ sqS hs n ≤ 1080000000000 * n
  | 0 => by simp [sqS]
  | n + 1 => by
    have h1 := sqS_bd h n
    have h2 := sqV_bd (Bd.getD h (by decide) n)
    simp only [sqS]; omega
set_option maxRecDepth 100000 in
set_option maxHeartbeats 4000000 in
theorem harmonics_core (xs : List Int) (hx : xs.length = 6) (hs : List V2) (hl : hs.length = 6) (hz : phasesE xs = 0) (hO : FnOkG Tryd.prog gS 10 [.agg (xs.map iE).flatten] (fun q => q = .tuple [.agg (hs.map tE).flatten, nA 0]))
    (hS : FnOk Tryd.prog 12 [.agg (hs.map tE).flatten] (fun q => q = .tuple [.agg (xs.map iE).flatten, nA 0])) (hb : ∀ v ∈ hs, Bd 600000 v) (hN : sqS hs 6 = 6 * enS xs 6)
    (hE : xs.getD 3 default = -(xs.getD 0 default) → xs.getD 4 default = -(xs.getD 1 default) → xs.getD 5 default = -(xs.getD 2 default) → hs.getD 0 default = (0, 0) ∧ hs.getD 2 default = (0, 0) ∧ hs.getD 4 default = (0, 0)) :
    FnOkG Tryd.prog gS 4 [.agg (xs.map iE).flatten] (fun q => q = oA true) := by
  have hbx := phases_bd hz
  have he := enS_bd hbx 6
  have b0 := getD_bd hbx 0
  have b1 := getD_bd hbx 1
  have b2 := getD_bd hbx 2
  refine fnOkG_of (fn := Tryd.f4) gS 112 (by kernel_rfl) rfl (by kernel_rfl) (Nat.le_of_ble_eq_true rfl) ?_
  intro e_0 m_0 hA hm_0
  have s0_0 : evA e_0 (.tmp 0) = _ := hA 0 _ rfl
  have ml_0 : m_0.length = 1 := by rw [hm_0]; rfl
  have mo0_0 : m_0[0]? = some (.glob gS) := by rw [hm_0]; rfl
  clear hA hm_0
  refine aw_seq ?_
  refine aw_text (by kernel_rfl) ?_
  refine al_stm (st_box s0_0 rfl ml_0) trivial rfl (fun m_1 hm_1 => ?_)
  have mo1_1 := m_push hm_1 ml_0
  (try simp only [packA_t, packA_f, iE, bE, setAt, cellsA, Value.cells, map_vc, map_vn, Nat.reduceAdd, qS, tE] at mo1_1)
  have mo0_1 := m_push_o hm_1 mo0_0
  have ml_1 := m_push_l hm_1 ml_0
  have ml_1 : _ = 2 := ml_1
  clear hm_1 mo0_0
  refine al_ro' (ro_assign ev_c) trivial rfl ?_
  refine al_end (fun e_2 he_2 => ?_)
  have s1_2 := ef 1 he_2 (up_m rfl up_h)
  clear he_2 s0_0
  refine then_n ?_
  refine aw_seq ?_
  refine aw_seq ?_
  refine aw_text (by kernel_rfl) ?_
  refine al_ro' (ro_callG evL_nil (by first | rfl | (simp only [roO.roL, roO, Bool.and_true, Bool.true_and]; (apply roL_flat; intro _; rfl))) mo0_1 (sAwake_ok.wide gT_gS) h11_hcf9) trivial rfl ?_
  refine al_ro' (ro_not up_h) trivial rfl ?_
  refine al_end (fun e_3 he_3 => ?_)
  have s1_3 := ef 1 he_3 (u2 rfl s1_2)
  have s12_3 := ef 12 he_3 up_h
  clear he_3 s1_2
  refine then_n ?_
  refine aw_case s12_3 (fun hq_4 => ?_) (fun hq_4 => ?_)
  · (first | replace hq_4 := bnt hq_4 | replace hq_4 := bnf hq_4 | replace hq_4 := bt hq_4 | replace hq_4 := bf hq_4 | replace hq_4 := bt' hq_4 | replace hq_4 := bf' hq_4 | skip)
    first
    | (cases hq_4; done) | (exfalso; omega)
    | (
       refine aw_seq ?_
       refine aw_text (by kernel_rfl) ?_
       refine al_ro' (ro_assign ev_c) trivial rfl ?_
       refine al_end (fun e_5 he_5 => ?_)
       have s2_5 := ef 2 he_5 up_h
       clear he_5 s12_3 s1_3
       refine then_n ?_
       refine aw_ret ?_
       refine then_r ?_
       refine ret1 (.inr rfl) (by kernel_rfl) (resV_tmp s2_5) (.ro _ rfl) ?_
       clear s2_5 mo1_1 mo0_1 ml_1
       (first | rfl | (obtain ⟨g1, g2, g3⟩ := hE (by assumption) (by assumption) (by assumption); simp_all; done)))
  · (first | replace hq_4 := bnt hq_4 | replace hq_4 := bnf hq_4 | replace hq_4 := bt hq_4 | replace hq_4 := bf hq_4 | replace hq_4 := bt' hq_4 | replace hq_4 := bf' hq_4 | skip)
    first
    | (cases hq_4; done) | (exfalso; omega)
    | (
       refine aw_skip ?_
       refine then_n ?_
       refine aw_seq ?_
       refine aw_seq ?_
       refine aw_text (by kernel_rfl) ?_
       refine al_ro' (ro_ld_all h11_ty22 mo1_1 s1_3 (by first | rfl | (rw [flat_map_len (k := 1)] <;> first | omega | (intro _; rfl)))) trivial rfl ?_
       refine al_ro' (ro_call (evL_cons up_h evL_nil) (by first | rfl | (simp only [roO.roL, roO, Bool.and_true, Bool.true_and]; (apply roL_flat; intro _; rfl))) ((samplesErr_ok xs hx).mono (fun q h => h.trans (by rw [hz]))) h11_hcf13) trivial rfl ?_
       refine al_ro' (ro_neq up_h ev_c) trivial rfl ?_
       refine al_end (fun e_6 he_6 => ?_)
       have s1_6 := ef 1 he_6 (up_m rfl (u2 rfl s1_3))
       have s15_6 := ef 15 he_6 up_h
       clear he_6 s12_3 s1_3
       refine then_n ?_
       refine aw_case s15_6 (fun hq_7 => ?_) (fun hq_7 => ?_)
       · (first | replace hq_7 := bnt hq_7 | replace hq_7 := bnf hq_7 | replace hq_7 := bt hq_7 | replace hq_7 := bf hq_7 | replace hq_7 := bt' hq_7 | replace hq_7 := bf' hq_7 | skip)
         first
         | (cases hq_7; done) | (exfalso; omega)
         | (
            refine aw_seq ?_
            refine aw_text (by kernel_rfl) ?_
            refine al_ro' (ro_assign ev_c) trivial rfl ?_
            refine al_end (fun e_8 he_8 => ?_)
            have s2_8 := ef 2 he_8 up_h
            clear he_8 s15_6 s1_6
            refine then_n ?_
            refine aw_ret ?_
            refine then_r ?_
            refine ret1 (.inr rfl) (by kernel_rfl) (resV_tmp s2_8) (.ro _ rfl) ?_
            clear s2_8 mo1_1 mo0_1 ml_1
            (first | rfl | (obtain ⟨g1, g2, g3⟩ := hE (by assumption) (by assumption) (by assumption); simp_all; done)))
       · (first | replace hq_7 := bnt hq_7 | replace hq_7 := bnf hq_7 | replace hq_7 := bt hq_7 | replace hq_7 := bf hq_7 | replace hq_7 := bt' hq_7 | replace hq_7 := bf' hq_7 | skip)
         first
         | (cases hq_7; done) | (exfalso; omega)
         | (
            refine aw_skip ?_
            refine then_n ?_
            refine aw_seq ?_
            refine aw_text (by kernel_rfl) ?_
            refine al_ro' (ro_ld_all h11_ty22 mo1_1 s1_6 (by first | rfl | (rw [flat_map_len (k := 1)] <;> first | omega | (intro _; rfl)))) trivial rfl ?_
            refine al_ro' (ro_callG (evL_cons up_h evL_nil) (by first | rfl | (simp only [roO.roL, roO, Bool.and_true, Bool.true_and]; (apply roL_flat; intro _; rfl))) mo0_1 (hO) h11_hcf10) trivial rfl ?_
            refine al_ro' (ro_move up_h) trivial rfl ?_
            refine al_ro' (ro_extract up_h rfl) trivial rfl ?_
            refine al_ro' (ro_extract (up_m rfl up_h) rfl) trivial rfl ?_
            refine al_stm (st_alloc h11_az25 rfl ml_1) trivial rfl (fun m_9 hm_9 => ?_)
            have mo2_9 : m_9[2]? = some (Ob.box 25 ((z6.map tE).flatten)) := m_push hm_9 ml_1
            have mo1_9 := m_push_o hm_9 mo1_1
            have mo0_9 := m_push_o hm_9 mo0_1
            have ml_9 := m_push_l hm_9 ml_1
            have ml_9 : _ = 3 := ml_9
            clear hm_9 mo1_1 mo0_1
            refine al_stm (st_store_all up_h (u2 rfl up_h) rfl (by first | rfl | (apply oneL_flat; intro _; rfl)) mo2_9 h11_sz25 (by first | rfl | (rw [flat_map_len (k := 2)] <;> first | omega | (intro _; rfl))) (by first | rfl | (rw [flat_map_len (k := 2)] <;> first | omega | (intro _; rfl)))) trivial rfl (fun m_10 hm_10 => ?_)
            have mo2_10 := m_set hm_10 mo2_9
            (try simp only [packA_t, packA_f, iE, bE, setAt, cellsA, Value.cells, map_vc, map_vn, Nat.reduceAdd, qS, tE] at mo2_10)
            have mo1_10 := m_set_o hm_10 mo1_9 (by decide)
            have mo0_10 := m_set_o hm_10 mo0_9 (by decide)
            have ml_10 := m_set_l hm_10 ml_9
            clear hm_10 mo2_9 mo1_9 mo0_9
            refine al_ro' (ro_assign (up_n (up_m rfl up_h))) trivial rfl ?_
            refine al_end (fun e_11 he_11 => ?_)
            have s1_11 := ef 1 he_11 (up_m rfl (up_n (u2 rfl (u4 rfl s1_6))))
            have s3_11 := ef 3 he_11 (up_m rfl (up_n up_h))
            have s4_11 := ef 4 he_11 up_h
            clear he_11 s15_6 s1_6
            refine then_n ?_
            refine aw_seq ?_
            refine aw_text (by kernel_rfl) ?_
            refine al_ro' (ro_ld_all h11_ty22 mo1_10 s1_11 (by first | rfl | (rw [flat_map_len (k := 1)] <;> first | omega | (intro _; rfl)))) trivial rfl ?_
            refine al_ro' (ro_call (evL_cons up_h evL_nil) (by first | rfl | (simp only [roO.roL, roO, Bool.and_true, Bool.true_and]; (apply roL_flat; intro _; rfl))) ((energyOf_ok xs hx).mono (fun q h => h.trans (by rw [enR, hz, if_pos rfl]))) h11_hcf11) trivial rfl ?_
            refine al_ro' (ro_move up_h) trivial rfl ?_
            refine al_ro' (ro_extract up_h rfl) trivial rfl ?_
            refine al_ro' (ro_extract (up_m rfl up_h) rfl) trivial rfl ?_
            refine al_ro' (ro_assign (up_m rfl up_h)) trivial rfl ?_
            refine al_ro' (ro_assign (up_m rfl up_h)) trivial rfl ?_
            refine al_end (fun e_12 he_12 => ?_)
            have s1_12 := ef 1 he_12 (up_m rfl (u2 rfl (u4 rfl s1_11)))
            have s3_12 := ef 3 he_12 (up_m rfl (u2 rfl (u4 rfl s3_11)))
            have s4_12 := ef 4 he_12 (up_m rfl (u2 rfl (u4 rfl s4_11)))
            have s5_12 := ef 5 he_12 (up_m rfl up_h)
            have s6_12 := ef 6 he_12 up_h
            clear he_12 s1_11 s3_11 s4_11
            refine then_n ?_
            refine aw_seq ?_
            refine aw_text (by kernel_rfl) ?_
            refine al_ro' (ro_ld_all h11_ty25 mo2_10 s3_12 (by first | rfl | (rw [flat_map_len (k := 2)] <;> first | omega | (intro _; rfl)))) trivial rfl ?_
            refine al_ro' (ro_call (evL_cons up_h evL_nil) (by first | rfl | (simp only [roO.roL, roO, Bool.and_true, Bool.true_and]; (apply roL_flat; intro _; rfl))) (hS) h11_hcf12) trivial rfl ?_
            refine al_ro' (ro_move up_h) trivial rfl ?_
            refine al_ro' (ro_extract up_h rfl) trivial rfl ?_
            refine al_ro' (ro_extract (up_m rfl up_h) rfl) trivial rfl ?_
            refine al_stm (st_alloc h11_az22 rfl ml_10) trivial rfl (fun m_13 hm_13 => ?_)
            have mo3_13 : m_13[3]? = some (Ob.box 22 ((i6.map iE).flatten)) := m_push hm_13 ml_10
            have mo2_13 := m_push_o hm_13 mo2_10
            have mo1_13 := m_push_o hm_13 mo1_10
            have mo0_13 := m_push_o hm_13 mo0_10
            have ml_13 := m_push_l hm_13 ml_10
            have ml_13 : _ = 4 := ml_13
            clear hm_13 mo2_10 mo1_10 mo0_10
            refine al_stm (st_store_all up_h (u2 rfl up_h) rfl (by first | rfl | (apply oneL_flat; intro _; rfl)) mo3_13 h11_sz22 (by first | rfl | (rw [flat_map_len (k := 1)] <;> first | omega | (intro _; rfl))) (by first | rfl | (rw [flat_map_len (k := 1)] <;> first | omega | (intro _; rfl)))) trivial rfl (fun m_14 hm_14 => ?_)
            have mo3_14 := m_set hm_14 mo3_13
            (try simp only [packA_t, packA_f, iE, bE, setAt, cellsA, Value.cells, map_vc, map_vn, Nat.reduceAdd, qS, tE] at mo3_14)
            have mo2_14 := m_set_o hm_14 mo2_13 (by decide)
            have mo1_14 := m_set_o hm_14 mo1_13 (by decide)
            have mo0_14 := m_set_o hm_14 mo0_13 (by decide)
            have ml_14 := m_set_l hm_14 ml_13
            clear hm_14 mo3_13 mo2_13 mo1_13 mo0_13
            refine al_ro' (ro_assign (up_n (up_m rfl up_h))) trivial rfl ?_
            refine al_end (fun e_15 he_15 => ?_)
            have s1_15 := ef 1 he_15 (up_m rfl (up_n (u2 rfl (u4 rfl s1_12))))
            have s3_15 := ef 3 he_15 (up_m rfl (up_n (u2 rfl (u4 rfl s3_12))))
            have s4_15 := ef 4 he_15 (up_m rfl (up_n (u2 rfl (u4 rfl s4_12))))
            have s5_15 := ef 5 he_15 (up_m rfl (up_n (u2 rfl (u4 rfl s5_12))))
            have s6_15 := ef 6 he_15 (up_m rfl (up_n (u2 rfl (u4 rfl s6_12))))
            have s7_15 := ef 7 he_15 (up_m rfl (up_n up_h))
            have s8_15 := ef 8 he_15 up_h
            clear he_15 s1_12 s3_12 s4_12 s5_12 s6_12
            refine then_n ?_
            refine aw_seq ?_
            refine aw_seq ?_
            refine aw_cut (fun e mem => (evA e (.tmp 45) = .v (.bool false)) ∧ (evA e (.tmp 1) = evA e_15 (.tmp 1)) ∧ (evA e (.tmp 3) = evA e_15 (.tmp 3)) ∧ (evA e (.tmp 5) = evA e_15 (.tmp 5)) ∧ m_14 = mem) ?_ ?_
            ·
              refine aw_text (by kernel_rfl) ?_
              refine al_ro' (ro_move s4_15) trivial rfl ?_
              refine al_ro' (ro_neq up_h ev_c) trivial rfl ?_
              refine al_ro' (ro_move up_h) trivial rfl ?_
              refine al_case up_h (fun hb_17 hq_17 => ?_) (fun hb_17 hq_17 => ?_)
              · (first | replace hq_17 := bnt hq_17 | replace hq_17 := bnf hq_17 | replace hq_17 := bt hq_17 | replace hq_17 := bf hq_17 | replace hq_17 := bt' hq_17 | replace hq_17 := bf' hq_17 | skip)
                first
                | (cases hq_17; done) | (exfalso; omega)
                | (
                   refine al_skip' ⟨_, rfl, .inl hb_17⟩ rfl ?_
                   refine al_skip' ⟨_, rfl, .inl (up_m rfl hb_17)⟩ rfl ?_
                   refine al_ro' (ro_pickT (u2 rfl hb_17) ev_c) trivial rfl ?_
                   refine al_ro' (ro_move up_h) trivial rfl ?_
                   refine al_skip' ⟨_, rfl, .inl up_h⟩ rfl ?_
                   refine al_skip' ⟨_, rfl, .inl (up_m rfl up_h)⟩ rfl ?_
                   refine al_ro' (ro_pickT (u2 rfl up_h) ev_c) trivial rfl ?_
                   refine al_ro' (ro_move up_h) trivial rfl ?_
                   refine al_skip' ⟨_, rfl, .inl up_h⟩ rfl ?_
                   refine al_skip' ⟨_, rfl, .inl (up_m rfl up_h)⟩ rfl ?_
                   refine al_skip' ⟨_, rfl, .inl (u2 rfl up_h)⟩ rfl ?_
                   refine al_ro' (ro_pickT (up_m rfl (u2 rfl up_h)) ev_c) trivial rfl ?_
                   refine al_end (fun e_18 he_18 => ?_)
                   have s1_18 := ef 1 he_18 (up_m rfl (u2 rfl (u4 rfl (u8 rfl s1_15))))
                   have s3_18 := ef 3 he_18 (up_m rfl (u2 rfl (u4 rfl (u8 rfl s3_15))))
                   have s5_18 := ef 5 he_18 (up_m rfl (u2 rfl (u4 rfl (u8 rfl s5_15))))
                   have s45_18 := ef 45 he_18 up_h
                   clear he_18
                   refine then_n ⟨(s45_18).trans (by (first | rfl | (refine avb ?_; simp; done))), (s1_18).trans (s1_15).symm, (s3_18).trans (s3_15).symm, (s5_18).trans (s5_15).symm, rfl⟩)
              · (first | replace hq_17 := bnt hq_17 | replace hq_17 := bnf hq_17 | replace hq_17 := bt hq_17 | replace hq_17 := bf hq_17 | replace hq_17 := bt' hq_17 | replace hq_17 := bf' hq_17 | skip)
                first
                | (cases hq_17; done) | (exfalso; omega)
                | (
                   refine al_ro' (ro_move (up_m rfl (u2 rfl s6_15))) ⟨_, rfl, hb_17⟩ rfl ?_
                   refine al_ro' (ro_neq up_h ev_c) ⟨_, rfl, (up_m rfl hb_17)⟩ rfl ?_
                   refine al_ro' (ro_pickF (u2 rfl hb_17) up_h) trivial rfl ?_
                   refine al_ro' (ro_move up_h) trivial rfl ?_
                   refine al_case up_h (fun hb_19 hq_19 => ?_) (fun hb_19 hq_19 => ?_)
                   · (first | replace hq_19 := bnt hq_19 | replace hq_19 := bnf hq_19 | replace hq_19 := bt hq_19 | replace hq_19 := bf hq_19 | replace hq_19 := bt' hq_19 | replace hq_19 := bf' hq_19 | skip)
                     first
                     | (cases hq_19; done) | (exfalso; omega)
                     | (
                        refine al_skip' ⟨_, rfl, .inl hb_19⟩ rfl ?_
                        refine al_skip' ⟨_, rfl, .inl (up_m rfl hb_19)⟩ rfl ?_
                        refine al_ro' (ro_pickT (u2 rfl hb_19) ev_c) trivial rfl ?_
                        refine al_ro' (ro_move up_h) trivial rfl ?_
                        refine al_skip' ⟨_, rfl, .inl up_h⟩ rfl ?_
                        refine al_skip' ⟨_, rfl, .inl (up_m rfl up_h)⟩ rfl ?_
                        refine al_skip' ⟨_, rfl, .inl (u2 rfl up_h)⟩ rfl ?_
                        refine al_ro' (ro_pickT (up_m rfl (u2 rfl up_h)) ev_c) trivial rfl ?_
                        refine al_end (fun e_20 he_20 => ?_)
                        have s1_20 := ef 1 he_20 (up_m rfl (u2 rfl (u4 rfl (u8 rfl s1_15))))
                        have s3_20 := ef 3 he_20 (up_m rfl (u2 rfl (u4 rfl (u8 rfl s3_15))))
                        have s5_20 := ef 5 he_20 (up_m rfl (u2 rfl (u4 rfl (u8 rfl s5_15))))
                        have s45_20 := ef 45 he_20 up_h
                        clear he_20
                        refine then_n ⟨(s45_20).trans (by (first | rfl | (refine avb ?_; simp; done))), (s1_20).trans (s1_15).symm, (s3_20).trans (s3_15).symm, (s5_20).trans (s5_15).symm, rfl⟩)
                   · (first | replace hq_19 := bnt hq_19 | replace hq_19 := bnf hq_19 | replace hq_19 := bt hq_19 | replace hq_19 := bf hq_19 | replace hq_19 := bt' hq_19 | replace hq_19 := bf' hq_19 | skip)
                     first
                     | (cases hq_19; done) | (exfalso; omega)
                     | (
                        refine al_ro' (ro_move (up_m rfl (u2 rfl (u4 rfl s8_15)))) ⟨_, rfl, hb_19⟩ rfl ?_
                        refine al_ro' (ro_neq up_h ev_c) ⟨_, rfl, (up_m rfl hb_19)⟩ rfl ?_
                        refine al_ro' (ro_pickF (u2 rfl hb_19) up_h) trivial rfl ?_
                        refine al_ro' (ro_move up_h) trivial rfl ?_
                        refine al_case up_h (fun hb_21 hq_21 => ?_) (fun hb_21 hq_21 => ?_)
                        · (first | replace hq_21 := bnt hq_21 | replace hq_21 := bnf hq_21 | replace hq_21 := bt hq_21 | replace hq_21 := bf hq_21 | replace hq_21 := bt' hq_21 | replace hq_21 := bf' hq_21 | skip)
                          first
                          | (cases hq_21; done) | (exfalso; omega)
                          | (
                             refine al_skip' ⟨_, rfl, .inl hb_21⟩ rfl ?_
                             refine al_skip' ⟨_, rfl, .inl (up_m rfl hb_21)⟩ rfl ?_
                             refine al_skip' ⟨_, rfl, .inl (u2 rfl hb_21)⟩ rfl ?_
                             refine al_ro' (ro_pickT (up_m rfl (u2 rfl hb_21)) ev_c) trivial rfl ?_
                             refine al_end (fun e_22 he_22 => ?_)
                             have s1_22 := ef 1 he_22 (up_m rfl (u2 rfl (u4 rfl (u8 rfl s1_15))))
                             have s3_22 := ef 3 he_22 (up_m rfl (u2 rfl (u4 rfl (u8 rfl s3_15))))
                             have s5_22 := ef 5 he_22 (up_m rfl (u2 rfl (u4 rfl (u8 rfl s5_15))))
                             have s45_22 := ef 45 he_22 up_h
                             clear he_22
                             refine then_n ⟨(s45_22).trans (by (first | rfl | (refine avb ?_; simp; done))), (s1_22).trans (s1_15).symm, (s3_22).trans (s3_15).symm, (s5_22).trans (s5_15).symm, rfl⟩)
                        · (first | replace hq_21 := bnt hq_21 | replace hq_21 := bnf hq_21 | replace hq_21 := bt hq_21 | replace hq_21 := bf hq_21 | replace hq_21 := bt' hq_21 | replace hq_21 := bf' hq_21 | skip)
                          first
                          | (cases hq_21; done) | (exfalso; omega)
                          | (
                             refine al_ro' (ro_ld_all h11_ty22 mo3_14 (up_m rfl (u2 rfl (u8 rfl s7_15))) (by first | rfl | (rw [flat_map_len (k := 1)] <;> first | omega | (intro _; rfl)))) ⟨_, rfl, hb_21⟩ rfl ?_
                             refine al_ro' (ro_ld_all h11_ty22 mo1_14 (u4 rfl (u8 rfl s1_15)) (by first | rfl | (rw [flat_map_len (k := 1)] <;> first | omega | (intro _; rfl)))) ⟨_, rfl, (up_m rfl hb_21)⟩ rfl ?_
                             refine al_ro' (ro_arrne (by intro _; rfl) h11_at22 rfl (by intro _; rfl) heI (by kernel_rfl) (by decide) (up_m rfl up_h) up_h (by first | rfl | assumption | (simp [*]; done)) (by first | rfl | assumption | (simp [*]; done))) ⟨_, rfl, (u2 rfl hb_21)⟩ rfl ?_
                             refine al_ro' (ro_pickF (up_m rfl (u2 rfl hb_21)) up_h) trivial rfl ?_
                             refine al_end (fun e_23 he_23 => ?_)
                             have s1_23 := ef 1 he_23 (up_m rfl (u2 rfl (u4 rfl (u8 rfl s1_15))))
                             have s3_23 := ef 3 he_23 (up_m rfl (u2 rfl (u4 rfl (u8 rfl s3_15))))
                             have s5_23 := ef 5 he_23 (up_m rfl (u2 rfl (u4 rfl (u8 rfl s5_15))))
                             have s45_23 := ef 45 he_23 up_h
                             clear he_23
                             refine then_n ⟨(s45_23).trans (by (first | rfl | (refine avb ?_; simp; done))), (s1_23).trans (s1_15).symm, (s3_23).trans (s3_15).symm, (s5_23).trans (s5_15).symm, rfl⟩)))
            · rintro e_16 _ ⟨s45_16, k1_16, k3_16, k5_16, rfl⟩
              have s1_16 := k1_16.trans s1_15
              have s3_16 := k3_16.trans s3_15
              have s5_16 := k5_16.trans s5_15
              refine aw_case s45_16 (fun hq_24 => ?_) (fun hq_24 => ?_)
              · (first | replace hq_24 := bnt hq_24 | replace hq_24 := bnf hq_24 | replace hq_24 := bt hq_24 | replace hq_24 := bf hq_24 | replace hq_24 := bt' hq_24 | replace hq_24 := bf' hq_24 | skip)
                first
                | (cases hq_24; done) | (exfalso; omega)
                | (
                   refine aw_seq ?_
                   refine aw_text (by kernel_rfl) ?_
                   refine al_ro' (ro_assign ev_c) trivial rfl ?_
                   refine al_end (fun e_25 he_25 => ?_)
                   have s2_25 := ef 2 he_25 up_h
                   clear he_25 s1_16 s3_16 s45_16 s5_16
                   refine then_n ?_
                   refine aw_ret ?_
                   refine then_r ?_
                   refine ret1 (.inr rfl) (by kernel_rfl) (resV_tmp s2_25) (.ro _ rfl) ?_
                   clear s2_25 mo3_14 mo2_14 mo1_14 mo0_14 ml_14
                   (first | rfl | (obtain ⟨g1, g2, g3⟩ := hE (by assumption) (by assumption) (by assumption); simp_all; done)))
              · (first | replace hq_24 := bnt hq_24 | replace hq_24 := bnf hq_24 | replace hq_24 := bt hq_24 | replace hq_24 := bf hq_24 | replace hq_24 := bt' hq_24 | replace hq_24 := bf' hq_24 | skip)
                first
                | (cases hq_24; done) | (exfalso; omega)
                | (
                   refine aw_skip ?_
                   refine then_n ?_
                   refine aw_seq ?_
                   refine aw_text (by kernel_rfl) ?_
                   refine al_ro' (ro_assign ev_c) trivial rfl ?_
                   refine al_end (fun e_26 he_26 => ?_)
                   have s1_26 := ef 1 he_26 (up_m rfl s1_16)
                   have s3_26 := ef 3 he_26 (up_m rfl s3_16)
                   have s5_26 := ef 5 he_26 (up_m rfl s5_16)
                   have s9_26 := ef 9 he_26 up_h
                   clear he_26 s1_16 s3_16 s45_16 s5_16
                   refine then_n ?_
                   refine aw_seq ?_
                   refine aw_seq ?_
                   refine aw_text (by kernel_rfl) ?_
                   refine al_ro' (ro_assign ev_c) trivial rfl ?_
                   refine al_end (fun e_27 he_27 => ?_)
                   have s1_27 := ef 1 he_27 (up_m rfl s1_26)
                   have s3_27 := ef 3 he_27 (up_m rfl s3_26)
                   have s5_27 := ef 5 he_27 (up_m rfl s5_26)
                   have s9_27 := ef 9 he_27 (up_m rfl s9_26)
                   have s10_27 := ef 10 he_27 up_h
                   clear he_27 s1_26 s3_26 s5_26 s9_26
                   refine then_n ?_
                   refine aw_block ?_
                   refine aw_loop (S := (Int × Int)) (fun s e mem => match s with | ⟨k, sm⟩ => (evA e (.tmp 10) = .v (.int .i64 k)) ∧ (evA e (.tmp 9) = .v (.int .i64 sm)) ∧ (evA e (.tmp 1) = evA e_27 (.tmp 1)) ∧ (evA e (.tmp 3) = evA e_27 (.tmp 3)) ∧ (evA e (.tmp 5) = evA e_27 (.tmp 5)) ∧ (mem[3]? = m_14[3]?) ∧ (mem[2]? = m_14[2]?) ∧ (mem[1]? = m_14[1]?) ∧ (mem[0]? = m_14[0]?) ∧ (mem.length = 4) ∧ ((0 ≤ k ∧ k ≤ 6 ∧ sm = sqS hs k.toNat))) (fun s => match s with | ⟨k, sm⟩ => (6 - k).toNat) ⟨_, _⟩ ⟨s10_27, s9_27, rfl, rfl, rfl, rfl, rfl, rfl, rfl, ml_14, ?_⟩ ?_
                   · (exact ⟨by omega, by omega, rfl⟩)
                   · rintro ⟨k, sm⟩ e_28 m_28 ⟨s10_28, s9_28, k1_28, k3_28, k5_28, mk3_28, mk2_28, mk1_28, mk0_28, ml_28, hinv⟩
                     have s1_28 := k1_28.trans s1_27
                     have s3_28 := k3_28.trans s3_27
                     have s5_28 := k5_28.trans s5_27
                     have mo3_28 := mk3_28.trans mo3_14
                     have mo2_28 := mk2_28.trans mo2_14
                     have mo1_28 := mk1_28.trans mo1_14
                     have mo0_28 := mk0_28.trans mo0_14
                     (obtain ⟨p1, p2, p3⟩ := hinv; have e1 := sqS_bd hb k.toNat; have e2 := Bd.getD hb (by decide) k.toNat; have e3 := sqV_bd e2; unfold Bd at e2)
                     refine aw_seq ?_
                     refine aw_seq ?_
                     refine aw_text (by kernel_rfl) ?_
                     refine al_ro' (ro_move s10_28) trivial rfl ?_
                     refine al_ro' (ro_lss up_h ev_c) trivial rfl ?_
                     refine al_end (fun e_29 he_29 => ?_)
                     have s1_29 := ef 1 he_29 (u2 rfl s1_28)
                     have s3_29 := ef 3 he_29 (u2 rfl s3_28)
                     have s5_29 := ef 5 he_29 (u2 rfl s5_28)
                     have s9_29 := ef 9 he_29 (u2 rfl s9_28)
                     have s10_29 := ef 10 he_29 (u2 rfl s10_28)
                     have s47_29 := ef 47 he_29 up_h
                     clear he_29 s10_28 s1_28 s3_28 s5_28 s9_28
                     refine then_n ?_
                     refine aw_case s47_29 (fun hq_30 => ?_) (fun hq_30 => ?_)
                     · (first | replace hq_30 := bnt hq_30 | replace hq_30 := bnf hq_30 | replace hq_30 := bt hq_30 | replace hq_30 := bf hq_30 | replace hq_30 := bt' hq_30 | replace hq_30 := bf' hq_30 | skip)
                       first
                       | (cases hq_30; done) | (exfalso; omega)
                       | (
                          refine aw_skip ?_
                          refine then_n ?_
                          refine aw_seq ?_
                          refine aw_block ?_
                          refine aw_seq ?_
                          refine aw_seq ?_
                          refine aw_cut (fun e mem => (evA e (.tmp 63) = .v (.bool false)) ∧ (evA e (.tmp 1) = evA e_29 (.tmp 1)) ∧ (evA e (.tmp 3) = evA e_29 (.tmp 3)) ∧ (evA e (.tmp 5) = evA e_29 (.tmp 5)) ∧ (evA e (.tmp 9) = evA e_29 (.tmp 9)) ∧ (evA e (.tmp 10) = evA e_29 (.tmp 10)) ∧ m_28 = mem) ?_ ?_
                          ·
                            refine aw_text (by kernel_rfl) ?_
                            refine al_ro' (ro_move s10_29) trivial rfl ?_
                            refine al_ro' (ro_ixaD h11_ar25 (up_m rfl s3_29) up_h (by first | decide | omega | (simp <;> omega)) (by first | omega | (simp only [lnS] <;> omega) | (simp <;> omega))) trivial rfl ?_
                            refine al_ro' (ro_fld_ptr h11_fl24_0 rfl up_h) trivial rfl ?_
                            refine al_ro' (ro_eq (ro_ld_aelf h11_ty3 rfl mo2_28 up_h rfl (by rintro l hl; obtain ⟨_, _, rfl⟩ := List.mem_map.1 hl; rfl) (by first | exact Nat.le_of_ble_eq_true rfl | omega | (simp only [lnS] <;> omega) | (simp <;> omega)) (by first | (refine idx_map ?_; first | omega | (simp only [lnS]; omega)) | (refine idx_mapI ?_; first | omega | (simp only [lnS]; omega)) | (refine idx_mapN ?_; first | omega | (simp only [lnS]; omega)) | rfl)) (by first | (simp only [packA_t, packA_f, iE, bE, setAt, cellsA, Value.cells, map_vc, map_vn, Nat.reduceAdd, qS, tE] <;> rfl) | rfl)) trivial rfl ?_
                            refine al_ro' (ro_call (evL_cons up_h (evL_cons ev_c (evL_cons ev_c evL_nil))) (by first | rfl | (simp only [roO.roL, roO, Bool.and_true, Bool.true_and]; (apply roL_flat; intro _; rfl))) (bWithin_ok _ _ _) h11_hcf18) trivial rfl ?_
                            refine al_ro' (ro_not up_h) trivial rfl ?_
                            refine al_ro' (ro_move up_h) trivial rfl ?_
                            refine al_case up_h (fun hb_32 hq_32 => ?_) (fun hb_32 hq_32 => ?_)
                            · (first | replace hq_32 := bnt hq_32 | replace hq_32 := bnf hq_32 | replace hq_32 := bt hq_32 | replace hq_32 := bf hq_32 | replace hq_32 := bt' hq_32 | replace hq_32 := bf' hq_32 | skip)
                              first
                              | (cases hq_32; done) | (exfalso; omega)
                              | (
                                 refine al_skip' ⟨_, rfl, .inl hb_32⟩ rfl ?_
                                 refine al_skip' ⟨_, rfl, .inl (up_m rfl hb_32)⟩ rfl ?_
                                 refine al_skip' ⟨_, rfl, .inl (u2 rfl hb_32)⟩ rfl ?_
                                 refine al_skip' ⟨_, rfl, .inl (up_m rfl (u2 rfl hb_32))⟩ rfl ?_
                                 refine al_skip' ⟨_, rfl, .inl (u4 rfl hb_32)⟩ rfl ?_
                                 refine al_skip' ⟨_, rfl, .inl (up_m rfl (u4 rfl hb_32))⟩ rfl ?_
                                 refine al_ro' (ro_pickT (u2 rfl (u4 rfl hb_32)) ev_c) trivial rfl ?_
                                 refine al_end (fun e_33 he_33 => ?_)
                                 have s1_33 := ef 1 he_33 (u2 rfl (u4 rfl (u8 rfl s1_29)))
                                 have s3_33 := ef 3 he_33 (u2 rfl (u4 rfl (u8 rfl s3_29)))
                                 have s5_33 := ef 5 he_33 (u2 rfl (u4 rfl (u8 rfl s5_29)))
                                 have s9_33 := ef 9 he_33 (u2 rfl (u4 rfl (u8 rfl s9_29)))
                                 have s10_33 := ef 10 he_33 (u2 rfl (u4 rfl (u8 rfl s10_29)))
                                 have s63_33 := ef 63 he_33 up_h
                                 clear he_33
                                 refine then_n ⟨(s63_33).trans (by (refine avb ?_; simp [withinB] at *; omega)), (s1_33).trans (s1_29).symm, (s3_33).trans (s3_29).symm, (s5_33).trans (s5_29).symm, (s9_33).trans (s9_29).symm, (s10_33).trans (s10_29).symm, rfl⟩)
                            · (first | replace hq_32 := bnt hq_32 | replace hq_32 := bnf hq_32 | replace hq_32 := bt hq_32 | replace hq_32 := bf hq_32 | replace hq_32 := bt' hq_32 | replace hq_32 := bf' hq_32 | skip)
                              first
                              | (cases hq_32; done) | (exfalso; omega)
                              | (
                                 refine al_ro' (ro_move (up_m rfl (u2 rfl (u4 rfl s10_29)))) ⟨_, rfl, hb_32⟩ rfl ?_
                                 refine al_ro' (ro_ixaD h11_ar25 (u8 rfl s3_29) up_h (by first | decide | omega | (simp <;> omega)) (by first | omega | (simp only [lnS] <;> omega) | (simp <;> omega))) ⟨_, rfl, (up_m rfl hb_32)⟩ rfl ?_
                                 refine al_ro' (ro_fld_ptr h11_fl24_1 rfl up_h) ⟨_, rfl, (u2 rfl hb_32)⟩ rfl ?_
                                 refine al_ro' (ro_eq (ro_ld_aelf h11_ty3 rfl mo2_28 up_h rfl (by rintro l hl; obtain ⟨_, _, rfl⟩ := List.mem_map.1 hl; rfl) (by first | exact Nat.le_of_ble_eq_true rfl | omega | (simp only [lnS] <;> omega) | (simp <;> omega)) (by first | (refine idx_map ?_; first | omega | (simp only [lnS]; omega)) | (refine idx_mapI ?_; first | omega | (simp only [lnS]; omega)) | (refine idx_mapN ?_; first | omega | (simp only [lnS]; omega)) | rfl)) (by first | (simp only [packA_t, packA_f, iE, bE, setAt, cellsA, Value.cells, map_vc, map_vn, Nat.reduceAdd, qS, tE] <;> rfl) | rfl)) ⟨_, rfl, (up_m rfl (u2 rfl hb_32))⟩ rfl ?_
                                 refine al_ro' (ro_call (evL_cons up_h (evL_cons ev_c (evL_cons ev_c evL_nil))) (by first | rfl | (simp only [roO.roL, roO, Bool.and_true, Bool.true_and]; (apply roL_flat; intro _; rfl))) (bWithin_ok _ _ _) h11_hcf18) ⟨_, rfl, (u4 rfl hb_32)⟩ rfl ?_
                                 refine al_ro' (ro_not up_h) ⟨_, rfl, (up_m rfl (u4 rfl hb_32))⟩ rfl ?_
                                 refine al_ro' (ro_pickF (u2 rfl (u4 rfl hb_32)) up_h) trivial rfl ?_
                                 refine al_end (fun e_34 he_34 => ?_)
                                 have s1_34 := ef 1 he_34 (u2 rfl (u4 rfl (u8 rfl s1_29)))
                                 have s3_34 := ef 3 he_34 (u2 rfl (u4 rfl (u8 rfl s3_29)))
                                 have s5_34 := ef 5 he_34 (u2 rfl (u4 rfl (u8 rfl s5_29)))
                                 have s9_34 := ef 9 he_34 (u2 rfl (u4 rfl (u8 rfl s9_29)))
                                 have s10_34 := ef 10 he_34 (u2 rfl (u4 rfl (u8 rfl s10_29)))
                                 have s63_34 := ef 63 he_34 up_h
                                 clear he_34
                                 refine then_n ⟨(s63_34).trans (by (refine avb ?_; simp [withinB] at *; omega)), (s1_34).trans (s1_29).symm, (s3_34).trans (s3_29).symm, (s5_34).trans (s5_29).symm, (s9_34).trans (s9_29).symm, (s10_34).trans (s10_29).symm, rfl⟩)
                          · rintro e_31 _ ⟨s63_31, k1_31, k3_31, k5_31, k9_31, k10_31, rfl⟩
                            have s1_31 := k1_31.trans s1_29
                            have s3_31 := k3_31.trans s3_29
                            have s5_31 := k5_31.trans s5_29
                            have s9_31 := k9_31.trans s9_29
                            have s10_31 := k10_31.trans s10_29
                            refine aw_case s63_31 (fun hq_35 => ?_) (fun hq_35 => ?_)
                            · (first | replace hq_35 := bnt hq_35 | replace hq_35 := bnf hq_35 | replace hq_35 := bt hq_35 | replace hq_35 := bf hq_35 | replace hq_35 := bt' hq_35 | replace hq_35 := bf' hq_35 | skip)
                              first
                              | (cases hq_35; done) | (exfalso; omega)
                              | (
                                 refine aw_seq ?_
                                 refine aw_text (by kernel_rfl) ?_
                                 refine al_ro' (ro_assign ev_c) trivial rfl ?_
                                 refine al_end (fun e_36 he_36 => ?_)
                                 have s2_36 := ef 2 he_36 up_h
                                 clear he_36 s10_31 s1_31 s3_31 s5_31 s63_31 s9_31
                                 refine then_n ?_
                                 refine aw_ret ?_
                                 refine then_r ?_
                                 refine block_r ?_
                                 refine then_r ?_
                                 refine then_r ?_
                                 refine block_r ?_
                                 refine then_r ?_
                                 refine ret1 (.inr rfl) (by kernel_rfl) (resV_tmp s2_36) (.ro _ rfl) ?_
                                 clear s2_36 mo3_28 mo2_28 mo1_28 mo0_28 ml_28
                                 (first | rfl | (obtain ⟨g1, g2, g3⟩ := hE (by assumption) (by assumption) (by assumption); simp_all; done)))
                            · (first | replace hq_35 := bnt hq_35 | replace hq_35 := bnf hq_35 | replace hq_35 := bt hq_35 | replace hq_35 := bf hq_35 | replace hq_35 := bt' hq_35 | replace hq_35 := bf' hq_35 | skip)
                              first
                              | (cases hq_35; done) | (exfalso; omega)
                              | (
                                 refine aw_skip ?_
                                 refine then_n ?_
                                 refine aw_text (by kernel_rfl) ?_
                                 refine al_ro' (ro_move s9_31) trivial rfl ?_
                                 refine al_ro' (ro_move (up_m rfl s10_31)) trivial rfl ?_
                                 refine al_ro' (ro_ixaD h11_ar25 (u2 rfl s3_31) up_h (by first | decide | omega | (simp <;> omega)) (by first | omega | (simp only [lnS] <;> omega) | (simp <;> omega))) trivial rfl ?_
                                 refine al_ro' (ro_eq (ro_ld_ael h11_ty24 rfl mo2_28 up_h rfl (by rintro l hl; obtain ⟨_, _, rfl⟩ := List.mem_map.1 hl; rfl) rfl (by first | (refine idx_map ?_; first | omega | (simp only [lnS]; omega)) | (refine idx_mapI ?_; first | omega | (simp only [lnS]; omega)) | (refine idx_mapN ?_; first | omega | (simp only [lnS]; omega)) | rfl)) (by first | (simp only [packA_t, packA_f, iE, bE, setAt, cellsA, Value.cells, map_vc, map_vn, Nat.reduceAdd, qS, tE] <;> rfl) | rfl)) trivial rfl ?_
                                 refine al_ro' (ro_call (evL_cons up_h evL_nil) (by first | rfl | (simp only [roO.roL, roO, Bool.and_true, Bool.true_and]; (apply roL_flat; intro _; rfl))) (tNorm_ok _ ((Bd.getD hb (by decide) _).mono (by decide))) h11_hcf19) trivial rfl ?_
                                 first | (refine al_ro' (ro_add' (u4 rfl up_h) up_h ?_) trivial rfl ?_; · (unfold In64; omega)) | refine al_ro' (ro_add (u4 rfl up_h) up_h) trivial rfl ?_
                                 refine al_ro' (ro_assign up_h) trivial rfl ?_
                                 refine al_end (fun e_37 he_37 => ?_)
                                 have s1_37 := ef 1 he_37 (up_m rfl (u2 rfl (u4 rfl s1_31)))
                                 have s3_37 := ef 3 he_37 (up_m rfl (u2 rfl (u4 rfl s3_31)))
                                 have s5_37 := ef 5 he_37 (up_m rfl (u2 rfl (u4 rfl s5_31)))
                                 have s9_37 := ef 9 he_37 up_h
                                 have s10_37 := ef 10 he_37 (up_m rfl (u2 rfl (u4 rfl s10_31)))
                                 clear he_37 s10_31 s1_31 s3_31 s5_31 s63_31 s9_31
                                 refine block_n ?_
                                 refine then_n ?_
                                 refine aw_text (by kernel_rfl) ?_
                                 refine al_ro' (ro_move s10_37) trivial rfl ?_
                                 first | (refine al_ro' (ro_add' up_h ev_c ?_) trivial rfl ?_; · (unfold In64; omega)) | refine al_ro' (ro_add up_h ev_c) trivial rfl ?_
                                 refine al_ro' (ro_assign up_h) trivial rfl ?_
                                 refine al_end (fun e_38 he_38 => ?_)
                                 have s1_38 := ef 1 he_38 (up_m rfl (u2 rfl s1_37))
                                 have s3_38 := ef 3 he_38 (up_m rfl (u2 rfl s3_37))
                                 have s5_38 := ef 5 he_38 (up_m rfl (u2 rfl s5_37))
                                 have s9_38 := ef 9 he_38 (up_m rfl (u2 rfl s9_37))
                                 have s10_38 := ef 10 he_38 up_h
                                 clear he_38 s10_37 s1_37 s3_37 s5_37 s9_37
                                 refine then_n ?_
                                 refine ⟨⟨_, _⟩, ⟨s10_38, s9_38, (s1_38.trans s1_27.symm), (s3_38.trans s3_27.symm), (s5_38.trans s5_27.symm), (mo3_28.trans mo3_14.symm), (mo2_28.trans mo2_14.symm), (mo1_28.trans mo1_14.symm), (mo0_28.trans mo0_14.symm), ml_28, ?_⟩, ?_⟩
                                 · (refine ⟨by omega, by omega, ?_⟩; rw [show (k + 1).toNat = k.toNat + 1 by omega, sqS, p3])
                                 · ((try dsimp only); omega)))
                     · (first | replace hq_30 := bnt hq_30 | replace hq_30 := bnf hq_30 | replace hq_30 := bt hq_30 | replace hq_30 := bf hq_30 | replace hq_30 := bt' hq_30 | replace hq_30 := bf' hq_30 | skip)
                       first
                       | (cases hq_30; done) | (exfalso; omega)
                       | (
                          refine aw_exit ?_
                          refine then_x ?_
                          refine then_x ?_
                          refine block_hit ?_
                          refine then_n ?_
                          refine aw_seq ?_
                          refine aw_seq ?_
                          refine aw_cut (fun e mem => (evA e (.tmp 73) = .v (.bool false)) ∧ (evA e (.tmp 1) = evA e_29 (.tmp 1)) ∧ (evA e (.tmp 3) = evA e_29 (.tmp 3)) ∧ m_28 = mem) ?_ ?_
                          ·
                            refine aw_text (by kernel_rfl) ?_
                            refine al_ro' (ro_move s9_29) trivial rfl ?_
                            refine al_ro' (ro_move (up_m rfl s5_29)) trivial rfl ?_
                            first | (refine al_ro' (ro_mul' ev_c up_h ?_) trivial rfl ?_; · (unfold In64; omega)) | refine al_ro' (ro_mul ev_c up_h) trivial rfl ?_
                            refine al_ro' (ro_neq (u2 rfl up_h) up_h) trivial rfl ?_
                            refine al_end (fun e_40 he_40 => ?_)
                            have s1_40 := ef 1 he_40 (u4 rfl s1_29)
                            have s3_40 := ef 3 he_40 (u4 rfl s3_29)
                            have s73_40 := ef 73 he_40 up_h
                            clear he_40
                            refine then_n ⟨(s73_40).trans (by (rw [show k.toNat = 6 by omega] at p3; refine avb ?_; simp; omega)), (s1_40).trans (s1_29).symm, (s3_40).trans (s3_29).symm, rfl⟩
                          · rintro e_39 _ ⟨s73_39, k1_39, k3_39, rfl⟩
                            have s1_39 := k1_39.trans s1_29
                            have s3_39 := k3_39.trans s3_29
                            refine aw_case s73_39 (fun hq_41 => ?_) (fun hq_41 => ?_)
                            · (first | replace hq_41 := bnt hq_41 | replace hq_41 := bnf hq_41 | replace hq_41 := bt hq_41 | replace hq_41 := bf hq_41 | replace hq_41 := bt' hq_41 | replace hq_41 := bf' hq_41 | skip)
                              first
                              | (cases hq_41; done) | (exfalso; omega)
                              | (
                                 refine aw_seq ?_
                                 refine aw_text (by kernel_rfl) ?_
                                 refine al_ro' (ro_assign ev_c) trivial rfl ?_
                                 refine al_end (fun e_42 he_42 => ?_)
                                 have s2_42 := ef 2 he_42 up_h
                                 clear he_42 s1_39 s3_39 s73_39
                                 refine then_n ?_
                                 refine aw_ret ?_
                                 refine then_r ?_
                                 refine ret1 (.inr rfl) (by kernel_rfl) (resV_tmp s2_42) (.ro _ rfl) ?_
                                 clear s2_42 mo3_28 mo2_28 mo1_28 mo0_28 ml_28
                                 (first | rfl | (obtain ⟨g1, g2, g3⟩ := hE (by assumption) (by assumption) (by assumption); simp_all; done)))
                            · (first | replace hq_41 := bnt hq_41 | replace hq_41 := bnf hq_41 | replace hq_41 := bt hq_41 | replace hq_41 := bf hq_41 | replace hq_41 := bt' hq_41 | replace hq_41 := bf' hq_41 | skip)
                              first
                              | (cases hq_41; done) | (exfalso; omega)
                              | (
                                 refine aw_skip ?_
                                 refine then_n ?_
                                 refine aw_seq ?_
                                 refine aw_seq ?_
                                 refine aw_text (by kernel_rfl) ?_
                                 refine al_ro' (ro_ixaD h11_ar22 s1_39 ev_c (by first | decide | omega | (simp <;> omega)) (by first | omega | (simp only [lnS] <;> omega) | (simp <;> omega))) trivial rfl ?_
                                 refine al_ro' (ro_eq (ro_ld_ael h11_ty3 rfl mo1_28 up_h rfl (by rintro l hl; obtain ⟨_, _, rfl⟩ := List.mem_map.1 hl; rfl) rfl (by first | (refine idx_map ?_; first | omega | (simp only [lnS]; omega)) | (refine idx_mapI ?_; first | omega | (simp only [lnS]; omega)) | (refine idx_mapN ?_; first | omega | (simp only [lnS]; omega)) | rfl)) (by first | (simp only [packA_t, packA_f, iE, bE, setAt, cellsA, Value.cells, map_vc, map_vn, Nat.reduceAdd, qS, tE] <;> rfl) | rfl)) trivial rfl ?_
                                 refine al_ro' (ro_ixaD h11_ar22 (u2 rfl s1_39) ev_c (by first | decide | omega | (simp <;> omega)) (by first | omega | (simp only [lnS] <;> omega) | (simp <;> omega))) trivial rfl ?_
                                 refine al_ro' (ro_eq (ro_ld_ael h11_ty3 rfl mo1_28 up_h rfl (by rintro l hl; obtain ⟨_, _, rfl⟩ := List.mem_map.1 hl; rfl) rfl (by first | (refine idx_map ?_; first | omega | (simp only [lnS]; omega)) | (refine idx_mapI ?_; first | omega | (simp only [lnS]; omega)) | (refine idx_mapN ?_; first | omega | (simp only [lnS]; omega)) | rfl)) (by first | (simp only [packA_t, packA_f, iE, bE, setAt, cellsA, Value.cells, map_vc, map_vn, Nat.reduceAdd, qS, tE] <;> rfl) | rfl)) trivial rfl ?_
                                 first | (refine al_ro' (ro_neg' up_h ?_) trivial rfl ?_; · (unfold In64; omega)) | refine al_ro' (ro_neg up_h) trivial rfl ?_
                                 refine al_ro' (ro_eql (up_m rfl (u2 rfl up_h)) up_h) trivial rfl ?_
                                 refine al_ro' (ro_move up_h) trivial rfl ?_
                                 refine al_case up_h (fun hb_43 hq_43 => ?_) (fun hb_43 hq_43 => ?_)
                                 · (first | replace hq_43 := bnt hq_43 | replace hq_43 := bnf hq_43 | replace hq_43 := bt hq_43 | replace hq_43 := bf hq_43 | replace hq_43 := bt' hq_43 | replace hq_43 := bf' hq_43 | skip)
                                   first
                                   | (cases hq_43; done) | (exfalso; omega)
                                   | (
                                      refine al_ro' (ro_ixaD h11_ar22 (up_m rfl (u2 rfl (u4 rfl s1_39))) ev_c (by first | decide | omega | (simp <;> omega)) (by first | omega | (simp only [lnS] <;> omega) | (simp <;> omega))) ⟨_, rfl, hb_43⟩ rfl ?_
                                      refine al_ro' (ro_eq (ro_ld_ael h11_ty3 rfl mo1_28 up_h rfl (by rintro l hl; obtain ⟨_, _, rfl⟩ := List.mem_map.1 hl; rfl) rfl (by first | (refine idx_map ?_; first | omega | (simp only [lnS]; omega)) | (refine idx_mapI ?_; first | omega | (simp only [lnS]; omega)) | (refine idx_mapN ?_; first | omega | (simp only [lnS]; omega)) | rfl)) (by first | (simp only [packA_t, packA_f, iE, bE, setAt, cellsA, Value.cells, map_vc, map_vn, Nat.reduceAdd, qS, tE] <;> rfl) | rfl)) ⟨_, rfl, (up_m rfl hb_43)⟩ rfl ?_
                                      refine al_ro' (ro_ixaD h11_ar22 (up_m rfl (u8 rfl s1_39)) ev_c (by first | decide | omega | (simp <;> omega)) (by first | omega | (simp only [lnS] <;> omega) | (simp <;> omega))) ⟨_, rfl, (u2 rfl hb_43)⟩ rfl ?_
                                      refine al_ro' (ro_eq (ro_ld_ael h11_ty3 rfl mo1_28 up_h rfl (by rintro l hl; obtain ⟨_, _, rfl⟩ := List.mem_map.1 hl; rfl) rfl (by first | (refine idx_map ?_; first | omega | (simp only [lnS]; omega)) | (refine idx_mapI ?_; first | omega | (simp only [lnS]; omega)) | (refine idx_mapN ?_; first | omega | (simp only [lnS]; omega)) | rfl)) (by first | (simp only [packA_t, packA_f, iE, bE, setAt, cellsA, Value.cells, map_vc, map_vn, Nat.reduceAdd, qS, tE] <;> rfl) | rfl)) ⟨_, rfl, (up_m rfl (u2 rfl hb_43))⟩ rfl ?_
                                      first | (refine al_ro' (ro_neg' up_h ?_) ⟨_, rfl, (u4 rfl hb_43)⟩ rfl ?_; · (unfold In64; omega)) | refine al_ro' (ro_neg up_h) ⟨_, rfl, (u4 rfl hb_43)⟩ rfl ?_
                                      refine al_ro' (ro_eql (up_m rfl (u2 rfl up_h)) up_h) ⟨_, rfl, (up_m rfl (u4 rfl hb_43))⟩ rfl ?_
                                      refine al_ro' (ro_pickT (u2 rfl (u4 rfl hb_43)) up_h) trivial rfl ?_
                                      refine al_ro' (ro_move up_h) trivial rfl ?_
                                      refine al_case up_h (fun hb_44 hq_44 => ?_) (fun hb_44 hq_44 => ?_)
                                      · (first | replace hq_44 := bnt hq_44 | replace hq_44 := bnf hq_44 | replace hq_44 := bt hq_44 | replace hq_44 := bf hq_44 | replace hq_44 := bt' hq_44 | replace hq_44 := bf' hq_44 | skip)
                                        first
                                        | (cases hq_44; done) | (exfalso; omega)
                                        | (
                                           refine al_ro' (ro_ixaD h11_ar22 (up_m rfl (u2 rfl (u4 rfl (u8 rfl s1_39)))) ev_c (by first | decide | omega | (simp <;> omega)) (by first | omega | (simp only [lnS] <;> omega) | (simp <;> omega))) ⟨_, rfl, hb_44⟩ rfl ?_
                                           refine al_ro' (ro_eq (ro_ld_ael h11_ty3 rfl mo1_28 up_h rfl (by rintro l hl; obtain ⟨_, _, rfl⟩ := List.mem_map.1 hl; rfl) rfl (by first | (refine idx_map ?_; first | omega | (simp only [lnS]; omega)) | (refine idx_mapI ?_; first | omega | (simp only [lnS]; omega)) | (refine idx_mapN ?_; first | omega | (simp only [lnS]; omega)) | rfl)) (by first | (simp only [packA_t, packA_f, iE, bE, setAt, cellsA, Value.cells, map_vc, map_vn, Nat.reduceAdd, qS, tE] <;> rfl) | rfl)) ⟨_, rfl, (up_m rfl hb_44)⟩ rfl ?_
                                           refine al_ro' (ro_ixaD h11_ar22 (up_m rfl (u16 rfl s1_39)) ev_c (by first | decide | omega | (simp <;> omega)) (by first | omega | (simp only [lnS] <;> omega) | (simp <;> omega))) ⟨_, rfl, (u2 rfl hb_44)⟩ rfl ?_
                                           refine al_ro' (ro_eq (ro_ld_ael h11_ty3 rfl mo1_28 up_h rfl (by rintro l hl; obtain ⟨_, _, rfl⟩ := List.mem_map.1 hl; rfl) rfl (by first | (refine idx_map ?_; first | omega | (simp only [lnS]; omega)) | (refine idx_mapI ?_; first | omega | (simp only [lnS]; omega)) | (refine idx_mapN ?_; first | omega | (simp only [lnS]; omega)) | rfl)) (by first | (simp only [packA_t, packA_f, iE, bE, setAt, cellsA, Value.cells, map_vc, map_vn, Nat.reduceAdd, qS, tE] <;> rfl) | rfl)) ⟨_, rfl, (up_m rfl (u2 rfl hb_44))⟩ rfl ?_
                                           first | (refine al_ro' (ro_neg' up_h ?_) ⟨_, rfl, (u4 rfl hb_44)⟩ rfl ?_; · (unfold In64; omega)) | refine al_ro' (ro_neg up_h) ⟨_, rfl, (u4 rfl hb_44)⟩ rfl ?_
                                           refine al_ro' (ro_eql (up_m rfl (u2 rfl up_h)) up_h) ⟨_, rfl, (up_m rfl (u4 rfl hb_44))⟩ rfl ?_
                                           refine al_ro' (ro_pickT (u2 rfl (u4 rfl hb_44)) up_h) trivial rfl ?_
                                           refine al_end (fun e_45 he_45 => ?_)
                                           have s3_45 := ef 3 he_45 (u2 rfl (u4 rfl (u16 rfl s3_39)))
                                           have s95_45 := ef 95 he_45 up_h
                                           clear he_45 hb_43 hb_44 s1_39 s3_39 s73_39
                                           refine then_n ?_
                                           refine aw_case s95_45 (fun hq_46 => ?_) (fun hq_46 => ?_)
                                           · (first | replace hq_46 := bnt hq_46 | replace hq_46 := bnf hq_46 | replace hq_46 := bt hq_46 | replace hq_46 := bf hq_46 | replace hq_46 := bt' hq_46 | replace hq_46 := bf' hq_46 | skip)
                                             first
                                             | (cases hq_46; done) | (exfalso; omega)
                                             | (
                                                refine aw_seq ?_
                                                refine aw_text (by kernel_rfl) ?_
                                                refine al_ro' (ro_ixaD h11_ar25 s3_45 ev_c (by first | decide | omega | (simp <;> omega)) (by first | omega | (simp only [lnS] <;> omega) | (simp <;> omega))) trivial rfl ?_
                                                refine al_ro' (ro_eq (ro_ld_ael h11_ty24 rfl mo2_28 up_h rfl (by rintro l hl; obtain ⟨_, _, rfl⟩ := List.mem_map.1 hl; rfl) rfl (by first | (refine idx_map ?_; first | omega | (simp only [lnS]; omega)) | (refine idx_mapI ?_; first | omega | (simp only [lnS]; omega)) | (refine idx_mapN ?_; first | omega | (simp only [lnS]; omega)) | rfl)) (by first | (simp only [packA_t, packA_f, iE, bE, setAt, cellsA, Value.cells, map_vc, map_vn, Nat.reduceAdd, qS, tE] <;> rfl) | rfl)) trivial rfl ?_
                                                refine al_ro' (ro_build evP_nil h11_bz24 h11_bu24 h11_bp24 rfl) trivial rfl ?_
                                                refine al_ro' (ro_sqeql (up_m rfl up_h) up_h rfl rfl h11_gq24 h11_sq24 (by decide)) trivial rfl ?_
                                                refine al_ro' (ro_move up_h) trivial rfl ?_
                                                refine al_case up_h (fun hb_47 hq_47 => ?_) (fun hb_47 hq_47 => ?_)
                                                · (first | replace hq_47 := bnt hq_47 | replace hq_47 := bnf hq_47 | replace hq_47 := bt hq_47 | replace hq_47 := bf hq_47 | replace hq_47 := bt' hq_47 | replace hq_47 := bf' hq_47 | skip)
                                                  first
                                                  | (cases hq_47; done) | (exfalso; omega)
                                                  | (
                                                     refine al_ro' (ro_ixaD h11_ar25 (up_m rfl (u4 rfl s3_45)) ev_c (by first | decide | omega | (simp <;> omega)) (by first | omega | (simp only [lnS] <;> omega) | (simp <;> omega))) ⟨_, rfl, hb_47⟩ rfl ?_
                                                     refine al_ro' (ro_eq (ro_ld_ael h11_ty24 rfl mo2_28 up_h rfl (by rintro l hl; obtain ⟨_, _, rfl⟩ := List.mem_map.1 hl; rfl) rfl (by first | (refine idx_map ?_; first | omega | (simp only [lnS]; omega)) | (refine idx_mapI ?_; first | omega | (simp only [lnS]; omega)) | (refine idx_mapN ?_; first | omega | (simp only [lnS]; omega)) | rfl)) (by first | (simp only [packA_t, packA_f, iE, bE, setAt, cellsA, Value.cells, map_vc, map_vn, Nat.reduceAdd, qS, tE] <;> rfl) | rfl)) ⟨_, rfl, (up_m rfl hb_47)⟩ rfl ?_
                                                     refine al_ro' (ro_build evP_nil h11_bz24 h11_bu24 h11_bp24 rfl) ⟨_, rfl, (u2 rfl hb_47)⟩ rfl ?_
                                                     refine al_ro' (ro_sqeql (up_m rfl up_h) up_h rfl rfl h11_gq24 h11_sq24 (by decide)) ⟨_, rfl, (up_m rfl (u2 rfl hb_47))⟩ rfl ?_
                                                     refine al_ro' (ro_pickT (u4 rfl hb_47) up_h) trivial rfl ?_
                                                     refine al_ro' (ro_move up_h) trivial rfl ?_
                                                     refine al_case up_h (fun hb_48 hq_48 => ?_) (fun hb_48 hq_48 => ?_)
                                                     · (first | replace hq_48 := bnt hq_48 | replace hq_48 := bnf hq_48 | replace hq_48 := bt hq_48 | replace hq_48 := bf hq_48 | replace hq_48 := bt' hq_48 | replace hq_48 := bf' hq_48 | skip)
                                                       first
                                                       | (cases hq_48; done) | (exfalso; omega)
                                                       | (
                                                          refine al_ro' (ro_ixaD h11_ar25 (up_m rfl (u2 rfl (u8 rfl s3_45))) ev_c (by first | decide | omega | (simp <;> omega)) (by first | omega | (simp only [lnS] <;> omega) | (simp <;> omega))) ⟨_, rfl, hb_48⟩ rfl ?_
                                                          refine al_ro' (ro_eq (ro_ld_ael h11_ty24 rfl mo2_28 up_h rfl (by rintro l hl; obtain ⟨_, _, rfl⟩ := List.mem_map.1 hl; rfl) rfl (by first | (refine idx_map ?_; first | omega | (simp only [lnS]; omega)) | (refine idx_mapI ?_; first | omega | (simp only [lnS]; omega)) | (refine idx_mapN ?_; first | omega | (simp only [lnS]; omega)) | rfl)) (by first | (simp only [packA_t, packA_f, iE, bE, setAt, cellsA, Value.cells, map_vc, map_vn, Nat.reduceAdd, qS, tE] <;> rfl) | rfl)) ⟨_, rfl, (up_m rfl hb_48)⟩ rfl ?_
                                                          refine al_ro' (ro_build evP_nil h11_bz24 h11_bu24 h11_bp24 rfl) ⟨_, rfl, (u2 rfl hb_48)⟩ rfl ?_
                                                          refine al_ro' (ro_sqeql (up_m rfl up_h) up_h rfl rfl h11_gq24 h11_sq24 (by decide)) ⟨_, rfl, (up_m rfl (u2 rfl hb_48))⟩ rfl ?_
                                                          refine al_ro' (ro_pickT (u4 rfl hb_48) up_h) trivial rfl ?_
                                                          refine al_ro' (ro_assign up_h) trivial rfl ?_
                                                          refine al_end (fun e_49 he_49 => ?_)
                                                          have s2_49 := ef 2 he_49 up_h
                                                          clear he_49 hb_47 hb_48 s3_45 s95_45
                                                          refine then_n ?_
                                                          refine aw_ret ?_
                                                          refine then_r ?_
                                                          refine ret1 (.inr rfl) (by kernel_rfl) (resV_tmp s2_49) (.ro _ rfl) ?_
                                                          clear s2_49 mo3_28 mo2_28 mo1_28 mo0_28 ml_28
                                                          (first | rfl | (obtain ⟨g1, g2, g3⟩ := hE (by assumption) (by assumption) (by assumption); simp_all; done)))
                                                     · (first | replace hq_48 := bnt hq_48 | replace hq_48 := bnf hq_48 | replace hq_48 := bt hq_48 | replace hq_48 := bf hq_48 | replace hq_48 := bt' hq_48 | replace hq_48 := bf' hq_48 | skip)
                                                       first
                                                       | (cases hq_48; done) | (exfalso; omega)
                                                       | (
                                                          refine al_skip' ⟨_, rfl, .inl hb_48⟩ rfl ?_
                                                          refine al_skip' ⟨_, rfl, .inl (up_m rfl hb_48)⟩ rfl ?_
                                                          refine al_skip' ⟨_, rfl, .inl (u2 rfl hb_48)⟩ rfl ?_
                                                          refine al_skip' ⟨_, rfl, .inl (up_m rfl (u2 rfl hb_48))⟩ rfl ?_
                                                          refine al_ro' (ro_pickF (u4 rfl hb_48) ev_c) trivial rfl ?_
                                                          refine al_ro' (ro_assign up_h) trivial rfl ?_
                                                          refine al_end (fun e_50 he_50 => ?_)
                                                          have s2_50 := ef 2 he_50 up_h
                                                          clear he_50 hb_47 hb_48 s3_45 s95_45
                                                          refine then_n ?_
                                                          refine aw_ret ?_
                                                          refine then_r ?_
                                                          refine ret1 (.inr rfl) (by kernel_rfl) (resV_tmp s2_50) (.ro _ rfl) ?_
                                                          clear s2_50 mo3_28 mo2_28 mo1_28 mo0_28 ml_28
                                                          (first | rfl | (obtain ⟨g1, g2, g3⟩ := hE (by assumption) (by assumption) (by assumption); simp_all; done))))
                                                · (first | replace hq_47 := bnt hq_47 | replace hq_47 := bnf hq_47 | replace hq_47 := bt hq_47 | replace hq_47 := bf hq_47 | replace hq_47 := bt' hq_47 | replace hq_47 := bf' hq_47 | skip)
                                                  first
                                                  | (cases hq_47; done) | (exfalso; omega)
                                                  | (
                                                     refine al_skip' ⟨_, rfl, .inl hb_47⟩ rfl ?_
                                                     refine al_skip' ⟨_, rfl, .inl (up_m rfl hb_47)⟩ rfl ?_
                                                     refine al_skip' ⟨_, rfl, .inl (u2 rfl hb_47)⟩ rfl ?_
                                                     refine al_skip' ⟨_, rfl, .inl (up_m rfl (u2 rfl hb_47))⟩ rfl ?_
                                                     refine al_ro' (ro_pickF (u4 rfl hb_47) ev_c) trivial rfl ?_
                                                     refine al_ro' (ro_move up_h) trivial rfl ?_
                                                     refine al_skip' ⟨_, rfl, .inl up_h⟩ rfl ?_
                                                     refine al_skip' ⟨_, rfl, .inl (up_m rfl up_h)⟩ rfl ?_
                                                     refine al_skip' ⟨_, rfl, .inl (u2 rfl up_h)⟩ rfl ?_
                                                     refine al_skip' ⟨_, rfl, .inl (up_m rfl (u2 rfl up_h))⟩ rfl ?_
                                                     refine al_ro' (ro_pickF (u4 rfl up_h) ev_c) trivial rfl ?_
                                                     refine al_ro' (ro_assign up_h) trivial rfl ?_
                                                     refine al_end (fun e_51 he_51 => ?_)
                                                     have s2_51 := ef 2 he_51 up_h
                                                     clear he_51 hb_47 s3_45 s95_45
                                                     refine then_n ?_
                                                     refine aw_ret ?_
                                                     refine then_r ?_
                                                     refine ret1 (.inr rfl) (by kernel_rfl) (resV_tmp s2_51) (.ro _ rfl) ?_
                                                     clear s2_51 mo3_28 mo2_28 mo1_28 mo0_28 ml_28
                                                     (first | rfl | (obtain ⟨g1, g2, g3⟩ := hE (by assumption) (by assumption) (by assumption); simp_all; done))))
                                           · (first | replace hq_46 := bnt hq_46 | replace hq_46 := bnf hq_46 | replace hq_46 := bt hq_46 | replace hq_46 := bf hq_46 | replace hq_46 := bt' hq_46 | replace hq_46 := bf' hq_46 | skip)
                                             first
                                             | (cases hq_46; done) | (exfalso; omega)
                                             | (
                                                refine aw_skip ?_
                                                refine then_n ?_
                                                refine aw_seq ?_
                                                refine aw_text (by kernel_rfl) ?_
                                                refine al_ro' (ro_assign ev_c) trivial rfl ?_
                                                refine al_end (fun e_52 he_52 => ?_)
                                                have s2_52 := ef 2 he_52 up_h
                                                clear he_52 s3_45 s95_45
                                                refine then_n ?_
                                                refine aw_ret ?_
                                                refine ret1 (.inr rfl) (by kernel_rfl) (resV_tmp s2_52) (.ro _ rfl) ?_
                                                clear s2_52 mo3_28 mo2_28 mo1_28 mo0_28 ml_28
                                                (first | rfl | (obtain ⟨g1, g2, g3⟩ := hE (by assumption) (by assumption) (by assumption); simp_all; done))))
                                      · (first | replace hq_44 := bnt hq_44 | replace hq_44 := bnf hq_44 | replace hq_44 := bt hq_44 | replace hq_44 := bf hq_44 | replace hq_44 := bt' hq_44 | replace hq_44 := bf' hq_44 | skip)
                                        first
                                        | (cases hq_44; done) | (exfalso; omega)
                                        | (
                                           refine al_skip' ⟨_, rfl, .inl hb_44⟩ rfl ?_
                                           refine al_skip' ⟨_, rfl, .inl (up_m rfl hb_44)⟩ rfl ?_
                                           refine al_skip' ⟨_, rfl, .inl (u2 rfl hb_44)⟩ rfl ?_
                                           refine al_skip' ⟨_, rfl, .inl (up_m rfl (u2 rfl hb_44))⟩ rfl ?_
                                           refine al_skip' ⟨_, rfl, .inl (u4 rfl hb_44)⟩ rfl ?_
                                           refine al_skip' ⟨_, rfl, .inl (up_m rfl (u4 rfl hb_44))⟩ rfl ?_
                                           refine al_ro' (ro_pickF (u2 rfl (u4 rfl hb_44)) ev_c) trivial rfl ?_
                                           refine al_end (fun e_53 he_53 => ?_)
                                           have s3_53 := ef 3 he_53 (u2 rfl (u4 rfl (u16 rfl s3_39)))
                                           have s95_53 := ef 95 he_53 up_h
                                           clear he_53 hb_43 hb_44 s1_39 s3_39 s73_39
                                           refine then_n ?_
                                           refine aw_false s95_53 ?_
                                           refine aw_skip ?_
                                           refine then_n ?_
                                           refine aw_seq ?_
                                           refine aw_text (by kernel_rfl) ?_
                                           refine al_ro' (ro_assign ev_c) trivial rfl ?_
                                           refine al_end (fun e_55 he_55 => ?_)
                                           have s2_55 := ef 2 he_55 up_h
                                           clear he_55 s3_53 s95_53
                                           refine then_n ?_
                                           refine aw_ret ?_
                                           refine ret1 (.inr rfl) (by kernel_rfl) (resV_tmp s2_55) (.ro _ rfl) ?_
                                           clear s2_55 mo3_28 mo2_28 mo1_28 mo0_28 ml_28
                                           (first | rfl | (obtain ⟨g1, g2, g3⟩ := hE (by assumption) (by assumption) (by assumption); simp_all; done))))
                                 · (first | replace hq_43 := bnt hq_43 | replace hq_43 := bnf hq_43 | replace hq_43 := bt hq_43 | replace hq_43 := bf hq_43 | replace hq_43 := bt' hq_43 | replace hq_43 := bf' hq_43 | skip)
                                   first
                                   | (cases hq_43; done) | (exfalso; omega)
                                   | (
                                      refine al_skip' ⟨_, rfl, .inl hb_43⟩ rfl ?_
                                      refine al_skip' ⟨_, rfl, .inl (up_m rfl hb_43)⟩ rfl ?_
                                      refine al_skip' ⟨_, rfl, .inl (u2 rfl hb_43)⟩ rfl ?_
                                      refine al_skip' ⟨_, rfl, .inl (up_m rfl (u2 rfl hb_43))⟩ rfl ?_
                                      refine al_skip' ⟨_, rfl, .inl (u4 rfl hb_43)⟩ rfl ?_
                                      refine al_skip' ⟨_, rfl, .inl (up_m rfl (u4 rfl hb_43))⟩ rfl ?_
                                      refine al_ro' (ro_pickF (u2 rfl (u4 rfl hb_43)) ev_c) trivial rfl ?_
                                      refine al_ro' (ro_move up_h) trivial rfl ?_
                                      refine al_skip' ⟨_, rfl, .inl up_h⟩ rfl ?_
                                      refine al_skip' ⟨_, rfl, .inl (up_m rfl up_h)⟩ rfl ?_
                                      refine al_skip' ⟨_, rfl, .inl (u2 rfl up_h)⟩ rfl ?_
                                      refine al_skip' ⟨_, rfl, .inl (up_m rfl (u2 rfl up_h))⟩ rfl ?_
                                      refine al_skip' ⟨_, rfl, .inl (u4 rfl up_h)⟩ rfl ?_
                                      refine al_skip' ⟨_, rfl, .inl (up_m rfl (u4 rfl up_h))⟩ rfl ?_
                                      refine al_ro' (ro_pickF (u2 rfl (u4 rfl up_h)) ev_c) trivial rfl ?_
                                      refine al_end (fun e_56 he_56 => ?_)
                                      have s3_56 := ef 3 he_56 (u2 rfl (u4 rfl (u16 rfl s3_39)))
                                      have s95_56 := ef 95 he_56 up_h
                                      clear he_56 hb_43 s1_39 s3_39 s73_39
                                      refine then_n ?_
                                      refine aw_false s95_56 ?_
                                      refine aw_skip ?_
                                      refine then_n ?_
                                      refine aw_seq ?_
                                      refine aw_text (by kernel_rfl) ?_
                                      refine al_ro' (ro_assign ev_c) trivial rfl ?_
                                      refine al_end (fun e_58 he_58 => ?_)
                                      have s2_58 := ef 2 he_58 up_h
                                      clear he_58 s3_56 s95_56
                                      refine then_n ?_
                                      refine aw_ret ?_
                                      refine ret1 (.inr rfl) (by kernel_rfl) (resV_tmp s2_58) (.ro _ rfl) ?_
                                      clear s2_58 mo3_28 mo2_28 mo1_28 mo0_28 ml_28
                                      (first | rfl | (obtain ⟨g1, g2, g3⟩ := hE (by assumption) (by assumption) (by assumption); simp_all; done))))))))
theorem list6 {α : Type} {l : List α} (h : l.length = 6) : ∃ a b c d e f, l = [a, b, c, d, e, f] := by
  match l, h with
  | [a, b, c, d, e, f], _ => exact ⟨a, b, c, d, e, f, rfl⟩
set_option maxRecDepth 100000 in
set_option maxHeartbeats 4000000 in
theorem harmonics_skip (xs : List Int) (hx : xs.length = 6) (hz : ¬ phasesE xs = 0) : FnOkG Tryd.prog gS 4 [.agg (xs.map iE).flatten] (fun q => q = oA true) := by
  refine fnOkG_of (fn := Tryd.f4) gS 112 (by kernel_rfl) rfl (by kernel_rfl) (Nat.le_of_ble_eq_true rfl) ?_
  intro e_0 m_0 hA hm_0
  have s0_0 : evA e_0 (.tmp 0) = _ := hA 0 _ rfl
  have ml_0 : m_0.length = 1 := by rw [hm_0]; rfl
  have mo0_0 : m_0[0]? = some (.glob gS) := by rw [hm_0]; rfl
  clear hA hm_0
  refine aw_seq ?_
  refine aw_text (by kernel_rfl) ?_
  refine al_stm (st_box s0_0 rfl ml_0) trivial rfl (fun m_1 hm_1 => ?_)
  have mo1_1 := m_push hm_1 ml_0
  (try simp only [packA_t, packA_f, iE, bE, setAt, cellsA, Value.cells, map_vc, map_vn, Nat.reduceAdd, qS, tE] at mo1_1)
  have mo0_1 := m_push_o hm_1 mo0_0
  have ml_1 := m_push_l hm_1 ml_0
  have ml_1 : _ = 2 := ml_1
  clear hm_1 mo0_0
  refine al_ro' (ro_assign ev_c) trivial rfl ?_
  refine al_end (fun e_2 he_2 => ?_)
  have s1_2 := ef 1 he_2 (up_m rfl up_h)
  clear he_2 s0_0
  refine then_n ?_
  refine aw_seq ?_
  refine aw_seq ?_
  refine aw_text (by kernel_rfl) ?_
  refine al_ro' (ro_callG evL_nil (by first | rfl | (simp only [roO.roL, roO, Bool.and_true, Bool.true_and]; (apply roL_flat; intro _; rfl))) mo0_1 (sAwake_ok.wide gT_gS) h11_hcf9) trivial rfl ?_
  refine al_ro' (ro_not up_h) trivial rfl ?_
  refine al_end (fun e_3 he_3 => ?_)
  have s1_3 := ef 1 he_3 (u2 rfl s1_2)
  have s12_3 := ef 12 he_3 up_h
  clear he_3 s1_2
  refine then_n ?_
  refine aw_case s12_3 (fun hq_4 => ?_) (fun hq_4 => ?_)
  · (first | replace hq_4 := bnt hq_4 | replace hq_4 := bnf hq_4 | replace hq_4 := bt hq_4 | replace hq_4 := bf hq_4 | replace hq_4 := bt' hq_4 | replace hq_4 := bf' hq_4 | skip)
    first
    | (cases hq_4; done) | (exfalso; omega)
    | (
       refine aw_seq ?_
       refine aw_text (by kernel_rfl) ?_
       refine al_ro' (ro_assign ev_c) trivial rfl ?_
       refine al_end (fun e_5 he_5 => ?_)
       have s2_5 := ef 2 he_5 up_h
       clear he_5 s12_3 s1_3
       refine then_n ?_
       refine aw_ret ?_
       refine then_r ?_
       refine ret1 (.inr rfl) (by kernel_rfl) (resV_tmp s2_5) (.ro _ rfl) ?_
       clear s2_5 mo1_1 mo0_1 ml_1
       (first | rfl | (exfalso; omega)))
  · (first | replace hq_4 := bnt hq_4 | replace hq_4 := bnf hq_4 | replace hq_4 := bt hq_4 | replace hq_4 := bf hq_4 | replace hq_4 := bt' hq_4 | replace hq_4 := bf' hq_4 | skip)
    first
    | (cases hq_4; done) | (exfalso; omega)
    | (
       refine aw_skip ?_
       refine then_n ?_
       refine aw_seq ?_
       refine aw_seq ?_
       refine aw_text (by kernel_rfl) ?_
       refine al_ro' (ro_ld_all h11_ty22 mo1_1 s1_3 (by first | rfl | (rw [flat_map_len (k := 1)] <;> first | omega | (intro _; rfl)))) trivial rfl ?_
       refine al_ro' (ro_call (evL_cons up_h evL_nil) (by first | rfl | (simp only [roO.roL, roO, Bool.and_true, Bool.true_and]; (apply roL_flat; intro _; rfl))) (samplesErr_ok xs hx) h11_hcf13) trivial rfl ?_
       refine al_ro' (ro_neq up_h ev_c) trivial rfl ?_
       refine al_end (fun e_6 he_6 => ?_)
       have s1_6 := ef 1 he_6 (up_m rfl (u2 rfl s1_3))
       have s15_6 := ef 15 he_6 up_h
       clear he_6 s12_3 s1_3
       refine then_n ?_
       refine aw_case s15_6 (fun hq_7 => ?_) (fun hq_7 => ?_)
       · (first | replace hq_7 := bnt hq_7 | replace hq_7 := bnf hq_7 | replace hq_7 := bt hq_7 | replace hq_7 := bf hq_7 | replace hq_7 := bt' hq_7 | replace hq_7 := bf' hq_7 | skip)
         first
         | (cases hq_7; done) | (exfalso; omega)
         | (
            refine aw_seq ?_
            refine aw_text (by kernel_rfl) ?_
            refine al_ro' (ro_assign ev_c) trivial rfl ?_
            refine al_end (fun e_8 he_8 => ?_)
            have s2_8 := ef 2 he_8 up_h
            clear he_8 s15_6 s1_6
            refine then_n ?_
            refine aw_ret ?_
            refine then_r ?_
            refine ret1 (.inr rfl) (by kernel_rfl) (resV_tmp s2_8) (.ro _ rfl) ?_
            clear s2_8 mo1_1 mo0_1 ml_1
            (first | rfl | (exfalso; omega)))
       · (first | replace hq_7 := bnt hq_7 | replace hq_7 := bnf hq_7 | replace hq_7 := bt hq_7 | replace hq_7 := bf hq_7 | replace hq_7 := bt' hq_7 | replace hq_7 := bf' hq_7 | skip)
         first
         | (cases hq_7; done) | (exfalso; omega)
         | (
            refine aw_skip ?_
            refine then_n ?_
            refine aw_seq ?_
            refine aw_text (by kernel_rfl) ?_
            refine al_ro' (ro_ld_all h11_ty22 mo1_1 s1_6 (by first | rfl | (rw [flat_map_len (k := 1)] <;> first | omega | (intro _; rfl)))) trivial rfl ?_
            fail "STOPPED no contract for guideway/stator.OrdersOf"))
theorem statorHarmonics_ok (xs : List Int) (hx : xs.length = 6) : FnOkG Tryd.prog gS 4 [.agg (xs.map iE).flatten] (fun q => q = oA true) := by
  by_cases hz : phasesE xs = 0
  · have hor : ordR xs = ordW xs := by unfold ordR; rw [if_pos hz]
    obtain ⟨a, b, c, d, e, f, rfl⟩ := list6 hx
    have hbx := phases_bd hz
    have hb := hX_bd a b c d e f hbx
    obtain ⟨k1, k2⟩ := hX_back a b c d e f hz
    refine harmonics_core _ hx (hX a b c d e f) rfl hz ((ordersOf_ok _ hx).mono fun q h => h.trans (by rw [hor, ord_hX, hz])) ((samplesOf_ok _ rfl).mono fun q h => h.trans (by rw [k1, k2])) hb ?_ (hX_even a b c d e f)
    have := hX_norm a b c d e f
    show 0 + _ + _ + _ + _ + _ + _ = 6 * (0 + _ + _ + _ + _ + _ + _)
    rw [Int.zero_add, this]
    simp only [List.getD_eq_getElem?_getD, List.getElem?_cons_zero, List.getElem?_cons_succ, Option.getD_some, Int.zero_add]
  · exact harmonics_skip xs hx hz
end Go.Proofs.YtgiiedpambimoaaDoor

