/- The law of chapter 3 on orders and samples. The variables of the package hold what the text lays. -/
import Derived.Test.YtgiiedpambimoaaDoorM5
namespace Go.Proofs.YtgiiedpambimoaaDoor
open Go Go.RowKit Go.Proofs
set_option linter.unusedSimpArgs false
set_option linter.unusedVariables false
theorem h10_az22 : (Tryd.prog.info? 22).bind (·.zero) = some (.agg #[.int .i64 0, .int .i64 0, .int .i64 0, .int .i64 0, .int .i64 0, .int .i64 0]) := by kernel_rfl
theorem h10_az24 : (Tryd.prog.info? 24).bind (·.zero) = some (.agg #[.int .i64 0, .int .i64 0]) := by kernel_rfl
theorem h10_az25 : (Tryd.prog.info? 25).bind (·.zero) = some (.agg #[.int .i64 0, .int .i64 0, .int .i64 0, .int .i64 0, .int .i64 0, .int .i64 0, .int .i64 0, .int .i64 0, .int .i64 0, .int .i64 0, .int .i64 0, .int .i64 0]) := by kernel_rfl
theorem h10_az48 : (Tryd.prog.info? 48).bind (·.zero) = some (.agg #[.slice none 0 0, .slice none 0 0]) := by kernel_rfl
theorem h10_at22 : ArTy Tryd.prog 22 6 3 false 1 := ⟨by kernel_rfl, by kernel_rfl, by kernel_rfl⟩
theorem h10_at25 : ArTy Tryd.prog 25 6 24 true 2 := ⟨by kernel_rfl, by kernel_rfl, by kernel_rfl⟩
theorem h10_bz25 : (Tryd.prog.info? 25).bind (·.zero) = some (.agg #[.int .i64 0, .int .i64 0, .int .i64 0, .int .i64 0, .int .i64 0, .int .i64 0, .int .i64 0, .int .i64 0, .int .i64 0, .int .i64 0, .int .i64 0, .int .i64 0]) := by kernel_rfl
theorem h10_bu25 : Tryd.prog.underlying 25 = some (.array 6 24) := by kernel_rfl
theorem h10_bp25 : (Tryd.prog.info? 24).map (·.size) = some 2 := by kernel_rfl
theorem h10_bz24 : (Tryd.prog.info? 24).bind (·.zero) = some (.agg #[.int .i64 0, .int .i64 0]) := by kernel_rfl
theorem h10_bu24 : Tryd.prog.underlying 24 = some (.struct (fsOf Tryd.prog 24)) := by kernel_rfl
theorem h10_bp24 : ∀ w, ((fsOf Tryd.prog 24).mapM fun f => Prod.mk f.offset <$> sizeOf f.type : Sem (Array (Nat × Nat))).run Tryd.prog w = .ok (#[(0, 1), (1, 1)]) w := fun _ => by kernel_rfl
theorem h10_bz64 : (Tryd.prog.info? 64).bind (·.zero) = some (.agg #[.slice none 0 0]) := by kernel_rfl
theorem h10_bu64 : Tryd.prog.underlying 64 = some (.struct (fsOf Tryd.prog 64)) := by kernel_rfl
theorem h10_bp64 : ∀ w, ((fsOf Tryd.prog 64).mapM fun f => Prod.mk f.offset <$> sizeOf f.type : Sem (Array (Nat × Nat))).run Tryd.prog w = .ok (#[(0, 1)]) w := fun _ => by kernel_rfl
theorem h10_bz69 : (Tryd.prog.info? 69).bind (·.zero) = some (.agg #[.int .i64 0, .int .i64 0]) := by kernel_rfl
theorem h10_bu69 : Tryd.prog.underlying 69 = some (.struct (fsOf Tryd.prog 69)) := by kernel_rfl
theorem h10_bp69 : ∀ w, ((fsOf Tryd.prog 69).mapM fun f => Prod.mk f.offset <$> sizeOf f.type : Sem (Array (Nat × Nat))).run Tryd.prog w = .ok (#[(0, 1), (1, 1)]) w := fun _ => by kernel_rfl
theorem h10_bz71 : (Tryd.prog.info? 71).bind (·.zero) = some (.agg #[.slice none 0 0, .int .i64 0, .int .i64 0, .int .i64 0]) := by kernel_rfl
theorem h10_bu71 : Tryd.prog.underlying 71 = some (.struct (fsOf Tryd.prog 71)) := by kernel_rfl
theorem h10_bp71 : ∀ w, ((fsOf Tryd.prog 71).mapM fun f => Prod.mk f.offset <$> sizeOf f.type : Sem (Array (Nat × Nat))).run Tryd.prog w = .ok (#[(0, 1), (1, 2), (3, 1)]) w := fun _ => by kernel_rfl
theorem h10_fl48_0 : FldIs Tryd.prog 48 0 0 false 1 := by unfold FldIs; kernel_rfl
theorem h10_fl48_1 : FldIs Tryd.prog 48 1 1 false 1 := by unfold FldIs; kernel_rfl
theorem h10_hcf10 : ∀ args w, (callFunc 10 args).run Tryd.prog w = .ok (.enter 10 args) w := fun _ _ => by kernel_rfl
theorem h10_hcf11 : ∀ args w, (callFunc 11 args).run Tryd.prog w = .ok (.enter 11 args) w := fun _ _ => by kernel_rfl
theorem h10_hcf12 : ∀ args w, (callFunc 12 args).run Tryd.prog w = .ok (.enter 12 args) w := fun _ _ => by kernel_rfl
theorem h10_hcf13 : ∀ args w, (callFunc 13 args).run Tryd.prog w = .ok (.enter 13 args) w := fun _ _ => by kernel_rfl
theorem h10_hcf14 : ∀ args w, (callFunc 14 args).run Tryd.prog w = .ok (.enter 14 args) w := fun _ _ => by kernel_rfl
theorem h10_hcf15 : ∀ args w, (callFunc 15 args).run Tryd.prog w = .ok (.enter 15 args) w := fun _ _ => by kernel_rfl
theorem h10_hcf16 : ∀ args w, (callFunc 16 args).run Tryd.prog w = .ok (.enter 16 args) w := fun _ _ => by kernel_rfl
theorem h10_hcf17 : ∀ args w, (callFunc 17 args).run Tryd.prog w = .ok (.enter 17 args) w := fun _ _ => by kernel_rfl
theorem h10_hcf23 : ∀ args w, (callFunc 23 args).run Tryd.prog w = .ok (.enter 23 args) w := fun _ _ => by kernel_rfl
theorem h10_hcf30 : ∀ args w, (callFunc 30 args).run Tryd.prog w = .ok (.enter 30 args) w := fun _ _ => by kernel_rfl
theorem h10_hcf32 : ∀ args w, (callFunc 32 args).run Tryd.prog w = .ok (.enter 32 args) w := fun _ _ => by kernel_rfl
theorem h10_hcf46 : ∀ args w, (callFunc 46 args).run Tryd.prog w = .ok (.enter 46 args) w := fun _ _ => by kernel_rfl
theorem h10_hcf47 : ∀ args w, (callFunc 47 args).run Tryd.prog w = .ok (.enter 47 args) w := fun _ _ => by kernel_rfl
theorem h10_hcf9 : ∀ args w, (callFunc 9 args).run Tryd.prog w = .ok (.enter 9 args) w := fun _ _ => by kernel_rfl
theorem h10_sl43 : SlIs Tryd.prog 43 24 2 16 (.agg #[.int .i64 0, .int .i64 0]) := ⟨by kernel_rfl, by kernel_rfl, by kernel_rfl⟩
theorem h10_sl46 : SlIs Tryd.prog 46 3 1 8 (.int .i64 0) := ⟨by kernel_rfl, by kernel_rfl, by kernel_rfl⟩
theorem h10_sz22 : (Tryd.prog.info? 22).map (·.size) = some 6 := by kernel_rfl
theorem h10_sz24 : (Tryd.prog.info? 24).map (·.size) = some 2 := by kernel_rfl
theorem h10_sz25 : (Tryd.prog.info? 25).map (·.size) = some 12 := by kernel_rfl
theorem h10_sz48 : (Tryd.prog.info? 48).map (·.size) = some 2 := by kernel_rfl
theorem h10_ty22 : TyIs Tryd.prog 22 true 6 := ⟨by kernel_rfl, by kernel_rfl⟩
theorem h10_ty24 : TyIs Tryd.prog 24 true 2 := ⟨by kernel_rfl, by kernel_rfl⟩
theorem h10_ty25 : TyIs Tryd.prog 25 true 12 := ⟨by kernel_rfl, by kernel_rfl⟩
theorem h10_ty3 : TyIs Tryd.prog 3 false 1 := ⟨by kernel_rfl, by kernel_rfl⟩
theorem h10_ty43 : TyIs Tryd.prog 43 false 1 := ⟨by kernel_rfl, by kernel_rfl⟩
theorem h10_ty46 : TyIs Tryd.prog 46 false 1 := ⟨by kernel_rfl, by kernel_rfl⟩

set_option maxRecDepth 100000 in
set_option maxHeartbeats 1000000 in
theorem bInts_ok (a b : List Int) (ha : a.length ≤ 1000000000) (hb : b.length ≤ 1000000000) : FnOk Tryd.prog 46 [.row 1 (a.map iE), .row 1 (b.map iE)] (fun q => q = oA (decide (a = b))) := by
  refine fnOk_of (fn := Tryd.f46) 26 (by kernel_rfl) rfl (by kernel_rfl) (Nat.le_of_ble_eq_true rfl) ?_
  intro e_0 m_0 hA hm_0
  have s0_0 : evA e_0 (.tmp 0) = _ := hA 0 _ rfl
  have s1_0 : evA e_0 (.tmp 1) = _ := hA 1 _ rfl
  have ml_0 : m_0.length = 0 := by rw [hm_0]; rfl
  clear hA hm_0
  refine aw_seq ?_
  refine aw_text (by kernel_rfl) ?_
  refine al_ro' (ro_assign ev_c) trivial rfl ?_
  refine al_end (fun e_1 he_1 => ?_)
  have s0_1 := ef 0 he_1 (up_m rfl s0_0)
  have s1_1 := ef 1 he_1 (up_m rfl s1_0)
  clear he_1 s0_0 s1_0
  refine then_n ?_
  refine aw_seq ?_
  refine aw_seq ?_
  refine aw_text (by kernel_rfl) ?_
  refine al_ro' (ro_move s0_1) trivial rfl ?_
  refine al_ro' (ro_eq (ro_len_row up_h rfl h10_sl46.1) (by first | (simp only [lnS] <;> rfl) | rfl)) trivial rfl ?_
  refine al_ro' (ro_move (u2 rfl s1_1)) trivial rfl ?_
  refine al_ro' (ro_eq (ro_len_row up_h rfl h10_sl46.1) (by first | (simp only [lnS] <;> rfl) | rfl)) trivial rfl ?_
  refine al_ro' (ro_neq (u2 rfl up_h) up_h) trivial rfl ?_
  refine al_end (fun e_2 he_2 => ?_)
  have s0_2 := ef 0 he_2 (up_m rfl (u4 rfl s0_1))
  have s1_2 := ef 1 he_2 (up_m rfl (u4 rfl s1_1))
  have s10_2 := ef 10 he_2 up_h
  clear he_2 s0_1 s1_1
  refine then_n ?_
  refine aw_case s10_2 (fun hq_3 => ?_) (fun hq_3 => ?_)
  · (first | replace hq_3 := bnt hq_3 | replace hq_3 := bnf hq_3 | replace hq_3 := bt hq_3 | replace hq_3 := bf hq_3 | replace hq_3 := bt' hq_3 | replace hq_3 := bf' hq_3 | skip)
    first
    | (cases hq_3; done) | (exfalso; omega)
    | (
       refine aw_seq ?_
       refine aw_text (by kernel_rfl) ?_
       refine al_ro' (ro_assign ev_c) trivial rfl ?_
       refine al_end (fun e_4 he_4 => ?_)
       have s4_4 := ef 4 he_4 up_h
       clear he_4 s0_2 s10_2 s1_2
       refine then_n ?_
       refine aw_ret ?_
       refine then_r ?_
       refine ret1 (.inr rfl) (by kernel_rfl) (resV_tmp s4_4) (.ro _ rfl) ?_
       clear s4_4  ml_0
       (have hne : ¬ a = b := (fun hc => absurd (congrArg List.length hc) (by omega)); rw [decide_eq_false hne]))
  · (first | replace hq_3 := bnt hq_3 | replace hq_3 := bnf hq_3 | replace hq_3 := bt hq_3 | replace hq_3 := bf hq_3 | replace hq_3 := bt' hq_3 | replace hq_3 := bf' hq_3 | skip)
    first
    | (cases hq_3; done) | (exfalso; omega)
    | (
       (have hl : a.length = b.length := (by omega))
       refine aw_skip ?_
       refine then_n ?_
       refine aw_seq ?_
       refine aw_seq ?_
       refine aw_text (by kernel_rfl) ?_
       refine al_ro' (ro_assign ev_c) trivial rfl ?_
       refine al_end (fun e_5 he_5 => ?_)
       have s0_5 := ef 0 he_5 (up_m rfl s0_2)
       have s1_5 := ef 1 he_5 (up_m rfl s1_2)
       have s5_5 := ef 5 he_5 up_h
       clear he_5 s0_2 s10_2 s1_2
       refine then_n ?_
       refine aw_block ?_
       refine aw_loop (S := Int) (fun i e mem => (evA e (.tmp 5) = .v (.int .i64 i)) ∧ (evA e (.tmp 0) = evA e_5 (.tmp 0)) ∧ (evA e (.tmp 1) = evA e_5 (.tmp 1)) ∧ (mem.length = 0) ∧ ((0 ≤ i ∧ i ≤ a.length ∧ a.length = b.length ∧ ∀ j : Nat, j < i → a.getD j default = b.getD j default))) (fun i => (a.length - i).toNat) _ ⟨s5_5, rfl, rfl, ml_0, ?_⟩ ?_
       · (refine ⟨by omega, by omega, by omega, fun j hj => absurd hj (by omega)⟩)
       · rintro i e_6 m_6 ⟨s5_6, k0_6, k1_6, ml_6, hinv⟩
         have s0_6 := k0_6.trans s0_5
         have s1_6 := k1_6.trans s1_5
         (have hl := hinv.2.2.1)
         refine aw_seq ?_
         refine aw_seq ?_
         refine aw_text (by kernel_rfl) ?_
         refine al_ro' (ro_move s5_6) trivial rfl ?_
         refine al_ro' (ro_move (up_m rfl s0_6)) trivial rfl ?_
         refine al_ro' (ro_eq (ro_len_row up_h rfl h10_sl46.1) (by first | (simp only [lnS] <;> rfl) | rfl)) trivial rfl ?_
         refine al_ro' (ro_lss (u2 rfl up_h) up_h) trivial rfl ?_
         refine al_end (fun e_7 he_7 => ?_)
         have s0_7 := ef 0 he_7 (u4 rfl s0_6)
         have s1_7 := ef 1 he_7 (u4 rfl s1_6)
         have s5_7 := ef 5 he_7 (u4 rfl s5_6)
         have s14_7 := ef 14 he_7 up_h
         clear he_7 s0_6 s1_6 s5_6
         refine then_n ?_
         refine aw_case s14_7 (fun hq_8 => ?_) (fun hq_8 => ?_)
         · (first | replace hq_8 := bnt hq_8 | replace hq_8 := bnf hq_8 | replace hq_8 := bt hq_8 | replace hq_8 := bf hq_8 | replace hq_8 := bt' hq_8 | replace hq_8 := bf' hq_8 | skip)
           first
           | (cases hq_8; done) | (exfalso; omega)
           | (
              (have hx := hinv.2.1)
              refine aw_skip ?_
              refine then_n ?_
              refine aw_seq ?_
              refine aw_block ?_
              refine aw_seq ?_
              refine aw_draw 9 (by kernel_rfl) (by kernel_rfl) (by kernel_rfl) (by kernel_rfl) ?_
              refine ds_ro' (ro_move s0_7) trivial rfl ?_
              refine ds_ro' (ro_move (up_m rfl s5_7)) trivial rfl ?_
              refine ds_ro' (ro_eq (ro_ix h10_sl46 (up_m rfl up_h) up_h (by first | decide | omega | (simp <;> omega)) (by first | (refine idx_map ?_; first | omega | (simp only [lnS]; omega)) | (refine idx_mapI ?_; first | omega | (simp only [lnS]; omega)) | (refine idx_mapN ?_; first | omega | (simp only [lnS]; omega)) | rfl)) (by first | (simp only [packA_t, packA_f, iE, bE, setAt, cellsA, Value.cells, map_vc, map_vn, Nat.reduceAdd, qS] <;> rfl) | rfl)) trivial rfl ?_
              refine ds_ro' (ro_eq (ro_ld_ref h10_ty3 rfl up_h (by first | exact Nat.le_of_ble_eq_true rfl | omega | (simp only [lnS] <;> omega) | (simp <;> omega))) (by first | (simp only [packA_t, packA_f, iE, bE, setAt, cellsA, Value.cells, map_vc, map_vn, Nat.reduceAdd, qS] <;> rfl) | rfl)) trivial rfl ?_
              refine ds_ro' (ro_move (u4 rfl s1_7)) trivial rfl ?_
              refine ds_ro' (ro_move (up_m rfl (u4 rfl s5_7))) trivial rfl ?_
              refine ds_ro' (ro_eq (ro_ix h10_sl46 (up_m rfl up_h) up_h (by first | decide | omega | (simp <;> omega)) (by first | (refine idx_map ?_; first | omega | (simp only [lnS]; omega)) | (refine idx_mapI ?_; first | omega | (simp only [lnS]; omega)) | (refine idx_mapN ?_; first | omega | (simp only [lnS]; omega)) | rfl)) (by first | (simp only [packA_t, packA_f, iE, bE, setAt, cellsA, Value.cells, map_vc, map_vn, Nat.reduceAdd, qS] <;> rfl) | rfl)) trivial rfl ?_
              refine ds_ro' (ro_eq (ro_ld_ref h10_ty3 rfl up_h (by first | exact Nat.le_of_ble_eq_true rfl | omega | (simp only [lnS] <;> omega) | (simp <;> omega))) (by first | (simp only [packA_t, packA_f, iE, bE, setAt, cellsA, Value.cells, map_vc, map_vn, Nat.reduceAdd, qS] <;> rfl) | rfl)) trivial rfl ?_
              refine ds_ro' (ro_neq (u4 rfl up_h) up_h) trivial rfl ?_
              refine ds_nil ?_
              refine al_end (fun e_9 he_9 => ?_)
              have s0_9 := ef 0 he_9 (up_m rfl (u8 rfl s0_7))
              have s1_9 := ef 1 he_9 (up_m rfl (u8 rfl s1_7))
              have s5_9 := ef 5 he_9 (up_m rfl (u8 rfl s5_7))
              have s25_9 := ef 25 he_9 up_h
              clear he_9 s0_7 s14_7 s1_7 s5_7
              refine then_n ?_
              refine aw_case s25_9 (fun hq_10 => ?_) (fun hq_10 => ?_)
              · (first | replace hq_10 := bnt hq_10 | replace hq_10 := bnf hq_10 | replace hq_10 := bt hq_10 | replace hq_10 := bf hq_10 | replace hq_10 := bt' hq_10 | replace hq_10 := bf' hq_10 | skip)
                first
                | (cases hq_10; done) | (exfalso; omega)
                | (
                   refine aw_seq ?_
                   refine aw_text (by kernel_rfl) ?_
                   refine al_ro' (ro_assign ev_c) trivial rfl ?_
                   refine al_end (fun e_11 he_11 => ?_)
                   have s4_11 := ef 4 he_11 up_h
                   clear he_11 s0_9 s1_9 s25_9 s5_9
                   refine then_n ?_
                   refine aw_ret ?_
                   refine block_r ?_
                   refine then_r ?_
                   refine then_r ?_
                   refine block_r ?_
                   refine then_r ?_
                   refine ret1 (.inr rfl) (by kernel_rfl) (resV_tmp s4_11) (.ro _ rfl) ?_
                   clear s4_11  ml_6
                   (have hne : ¬ a = b := (fun hc => absurd (congrArg (fun l => l.getD i.toNat default) hc) (by assumption)); rw [decide_eq_false hne]))
              · (first | replace hq_10 := bnt hq_10 | replace hq_10 := bnf hq_10 | replace hq_10 := bt hq_10 | replace hq_10 := bf hq_10 | replace hq_10 := bt' hq_10 | replace hq_10 := bf' hq_10 | skip)
                first
                | (cases hq_10; done) | (exfalso; omega)
                | (
                   refine aw_skip ?_
                   refine block_n ?_
                   refine then_n ?_
                   refine aw_text (by kernel_rfl) ?_
                   refine al_ro' (ro_move s5_9) trivial rfl ?_
                   first | (refine al_ro' (ro_add' up_h ev_c ?_) trivial rfl ?_; · (unfold In64; omega)) | refine al_ro' (ro_add up_h ev_c) trivial rfl ?_
                   refine al_ro' (ro_assign up_h) trivial rfl ?_
                   refine al_end (fun e_12 he_12 => ?_)
                   have s0_12 := ef 0 he_12 (up_m rfl (u2 rfl s0_9))
                   have s1_12 := ef 1 he_12 (up_m rfl (u2 rfl s1_9))
                   have s5_12 := ef 5 he_12 up_h
                   clear he_12 s0_9 s1_9 s25_9 s5_9
                   refine then_n ?_
                   refine ⟨_, ⟨s5_12, (s0_12.trans s0_5.symm), (s1_12.trans s1_5.symm), ml_6, ?_⟩, ?_⟩
                   · (obtain ⟨p1, p2, p3, p4⟩ := hinv; refine ⟨by omega, by omega, p3, fun j hj => ?_⟩; by_cases hji : j = i.toNat; (rw [hji]; assumption); exact p4 j (by omega))
                   · ((try dsimp only); omega)))
         · (first | replace hq_8 := bnt hq_8 | replace hq_8 := bnf hq_8 | replace hq_8 := bt hq_8 | replace hq_8 := bf hq_8 | replace hq_8 := bt' hq_8 | replace hq_8 := bf' hq_8 | skip)
           first
           | (cases hq_8; done) | (exfalso; omega)
           | (
              refine aw_exit ?_
              refine then_x ?_
              refine then_x ?_
              refine block_hit ?_
              refine then_n ?_
              refine aw_seq ?_
              refine aw_text (by kernel_rfl) ?_
              refine al_ro' (ro_assign ev_c) trivial rfl ?_
              refine al_end (fun e_13 he_13 => ?_)
              have s4_13 := ef 4 he_13 up_h
              clear he_13 s0_7 s14_7 s1_7 s5_7
              refine then_n ?_
              refine aw_ret ?_
              refine ret1 (.inr rfl) (by kernel_rfl) (resV_tmp s4_13) (.ro _ rfl) ?_
              clear s4_13  ml_6
              (obtain ⟨p1, p2, p3, p4⟩ := hinv; refine congrArg oA ?_; simp; exact list_ext' (by omega) fun j hj => p4 j (by omega))))
theorem sameI_ok (l : List Int) (h : l.length ≤ 1000000000) : FnOk Tryd.prog 46 [.row 1 (l.map iE), .row 1 (l.map iE)] (fun q => q = oA true) :=
  (bInts_ok l l h h).mono fun q h => h.trans (by simp)
theorem sameV_ok (l : List V2) (h : l.length ≤ 1000000) : FnOk Tryd.prog 47 [.row 2 (l.map tE), .row 2 (l.map tE)] (fun q => q = oA true) :=
  (same_ok' l l h h).mono fun q h => h.trans (by simp [samV])
set_option maxRecDepth 100000 in
set_option maxHeartbeats 1000000 in
theorem sAwake_ok : FnOkG Tryd.prog gT 9 [] (fun q => q = oA true) := by
  refine fnOkG_of (fn := Tryd.f9) gT 66 (by kernel_rfl) rfl (by kernel_rfl) (Nat.le_of_ble_eq_true rfl) ?_
  intro e_0 m_0 hA hm_0
  have ml_0 : m_0.length = 1 := by rw [hm_0]; rfl
  have mo0_0 : m_0[0]? = some (.glob gT) := by rw [hm_0]; rfl
  clear hA hm_0
  refine aw_seq ?_
  refine aw_text (by kernel_rfl) ?_
  refine al_ro' (ro_assign ev_c) trivial rfl ?_
  refine al_end (fun e_1 he_1 => ?_)
  clear he_1
  refine then_n ?_
  refine aw_seq ?_
  refine aw_text (by kernel_rfl) ?_
  refine al_ro' (ro_build (evP_cons ev_c evP_nil) h10_bz24 h10_bu24 h10_bp24 rfl) trivial rfl ?_
  refine al_ro' (ro_call (evL_cons up_h (evL_cons ev_c evL_nil)) rfl (turned0_ok) h10_hcf32) trivial rfl ?_
  refine al_ro' (ro_move up_h) trivial rfl ?_
  refine al_ro' (ro_extract up_h rfl) trivial rfl ?_
  refine al_ro' (ro_extract (up_m rfl up_h) rfl) trivial rfl ?_
  refine al_stm (st_alloc h10_az24 rfl ml_0) trivial rfl (fun m_2 hm_2 => ?_)
  have mo1_2 := m_push hm_2 ml_0
  (try simp only [packA_t, packA_f, iE, bE, setAt, cellsA, Value.cells, map_vc, map_vn, Nat.reduceAdd, qS] at mo1_2)
  have mo0_2 := m_push_o hm_2 mo0_0
  have ml_2 := m_push_l hm_2 ml_0
  have ml_2 : _ = 2 := ml_2
  clear hm_2 mo0_0
  refine al_stm (st_store up_h (u2 rfl up_h) rfl rfl mo1_2 h10_sz24 rfl (by first | exact Nat.le_of_ble_eq_true rfl | omega | (simp only [lnS] <;> omega) | (simp <;> omega))) trivial rfl (fun m_3 hm_3 => ?_)
  have mo1_3 := m_set hm_3 mo1_2
  (try simp only [packA_t, packA_f, iE, bE, setAt, cellsA, Value.cells, map_vc, map_vn, Nat.reduceAdd, qS] at mo1_3)
  have mo0_3 := m_set_o hm_3 mo0_2 (by decide)
  have ml_3 := m_set_l hm_3 ml_2
  clear hm_3 mo1_2 mo0_2
  refine al_ro' (ro_assign (up_n (up_m rfl up_h))) trivial rfl ?_
  refine al_end (fun e_4 he_4 => ?_)
  have s1_4 := ef 1 he_4 (up_m rfl (up_n up_h))
  have s2_4 := ef 2 he_4 up_h
  clear he_4
  refine then_n ?_
  refine aw_seq ?_
  refine aw_text (by kernel_rfl) ?_
  refine al_ro' (ro_lit h10_sl46 (evP_cons ev_c (evP_cons ev_c evP_nil)) rfl rfl rfl rfl) trivial rfl ?_
  refine al_ro' (ro_build (evP_cons up_h evP_nil) h10_bz64 h10_bu64 h10_bp64 rfl) trivial rfl ?_
  refine al_ro' (ro_build (evP_cons ev_c (evP_cons ev_c evP_nil)) h10_bz69 h10_bu69 h10_bp69 rfl) trivial rfl ?_
  refine al_ro' (ro_build (evP_cons ev_c evP_nil) h10_bz24 h10_bu24 h10_bp24 rfl) trivial rfl ?_
  refine al_ro' (ro_build (evP_cons ev_c evP_nil) h10_bz24 h10_bu24 h10_bp24 rfl) trivial rfl ?_
  refine al_ro' (ro_lit h10_sl43 (evP_cons (up_m rfl up_h) (evP_cons up_h evP_nil)) rfl rfl rfl rfl) trivial rfl ?_
  refine al_ro' (ro_build (evP_cons ev_c evP_nil) h10_bz24 h10_bu24 h10_bp24 rfl) trivial rfl ?_
  refine al_ro' (ro_build (evP_cons (up_m rfl up_h) (evP_cons up_h evP_nil)) h10_bz71 h10_bu71 h10_bp71 rfl) trivial rfl ?_
  refine al_ro' (ro_call (evL_cons (u2 rfl (u4 rfl up_h)) (evL_cons (up_m rfl (u4 rfl up_h)) (evL_cons up_h evL_nil))) rfl (forceAt0_ok) h10_hcf30) trivial rfl ?_
  refine al_ro' (ro_move up_h) trivial rfl ?_
  refine al_ro' (ro_extract up_h rfl) trivial rfl ?_
  refine al_ro' (ro_extract (up_m rfl up_h) rfl) trivial rfl ?_
  refine al_ro' (ro_assign (up_m rfl up_h)) trivial rfl ?_
  refine al_ro' (ro_assign (up_m rfl up_h)) trivial rfl ?_
  refine al_end (fun e_5 he_5 => ?_)
  have s1_5 := ef 1 he_5 (u2 rfl (u4 rfl (u8 rfl s1_4)))
  have s2_5 := ef 2 he_5 (u2 rfl (u4 rfl (u8 rfl s2_4)))
  have s3_5 := ef 3 he_5 (up_m rfl up_h)
  have s4_5 := ef 4 he_5 up_h
  clear he_5 s1_4 s2_4
  refine then_n ?_
  refine aw_seq ?_
  refine aw_text (by kernel_rfl) ?_
  refine al_ro' (ro_build (evP_cons ev_c evP_nil) h10_bz24 h10_bu24 h10_bp24 rfl) trivial rfl ?_
  refine al_ro' (ro_build (evP_cons ev_c evP_nil) h10_bz24 h10_bu24 h10_bp24 rfl) trivial rfl ?_
  refine al_ro' (ro_build (evP_cons ev_c evP_nil) h10_bz24 h10_bu24 h10_bp24 rfl) trivial rfl ?_
  refine al_ro' (ro_lit h10_sl43 (evP_cons (u2 rfl up_h) (evP_cons (up_m rfl up_h) (evP_cons up_h evP_nil))) rfl rfl rfl rfl) trivial rfl ?_
  refine al_ro' (ro_callG (evL_cons ev_c (evL_cons up_h evL_nil)) rfl mo0_3 (modulated0_ok) h10_hcf23) trivial rfl ?_
  refine al_ro' (ro_move up_h) trivial rfl ?_
  refine al_ro' (ro_extract up_h rfl) trivial rfl ?_
  refine al_ro' (ro_extract (up_m rfl up_h) rfl) trivial rfl ?_
  refine al_stm (st_alloc h10_az48 rfl ml_3) trivial rfl (fun m_6 hm_6 => ?_)
  have mo2_6 := m_push hm_6 ml_3
  (try simp only [packA_t, packA_f, iE, bE, setAt, cellsA, Value.cells, map_vc, map_vn, Nat.reduceAdd, qS] at mo2_6)
  have mo1_6 := m_push_o hm_6 mo1_3
  have mo0_6 := m_push_o hm_6 mo0_3
  have ml_6 := m_push_l hm_6 ml_3
  have ml_6 : _ = 3 := ml_6
  clear hm_6 mo1_3 mo0_3
  refine al_stm (st_store up_h (u2 rfl up_h) rfl rfl mo2_6 h10_sz48 rfl (by first | exact Nat.le_of_ble_eq_true rfl | omega | (simp only [lnS] <;> omega) | (simp <;> omega))) trivial rfl (fun m_7 hm_7 => ?_)
  have mo2_7 := m_set hm_7 mo2_6
  (try simp only [packA_t, packA_f, iE, bE, setAt, cellsA, Value.cells, map_vc, map_vn, Nat.reduceAdd, qS] at mo2_7)
  have mo1_7 := m_set_o hm_7 mo1_6 (by decide)
  have mo0_7 := m_set_o hm_7 mo0_6 (by decide)
  have ml_7 := m_set_l hm_7 ml_6
  clear hm_7 mo2_6 mo1_6 mo0_6
  refine al_ro' (ro_assign (up_n (up_m rfl up_h))) trivial rfl ?_
  refine al_end (fun e_8 he_8 => ?_)
  have s1_8 := ef 1 he_8 (up_m rfl (up_n (up_m rfl (u8 rfl s1_5))))
  have s2_8 := ef 2 he_8 (up_m rfl (up_n (up_m rfl (u8 rfl s2_5))))
  have s3_8 := ef 3 he_8 (up_m rfl (up_n (up_m rfl (u8 rfl s3_5))))
  have s4_8 := ef 4 he_8 (up_m rfl (up_n (up_m rfl (u8 rfl s4_5))))
  have s5_8 := ef 5 he_8 (up_m rfl (up_n up_h))
  have s6_8 := ef 6 he_8 up_h
  clear he_8 s1_5 s2_5 s3_5 s4_5
  refine then_n ?_
  refine aw_seq ?_
  refine aw_text (by kernel_rfl) ?_
  refine al_ro' (ro_move s2_8) trivial rfl ?_
  refine al_ro' (ro_eql up_h ev_c) trivial rfl ?_
  refine al_ro' (ro_move up_h) trivial rfl ?_
  refine al_case up_h (fun hb_9 hq_9 => ?_) (fun hb_9 hq_9 => ?_)
  · (first | replace hq_9 := bnt hq_9 | replace hq_9 := bnf hq_9 | replace hq_9 := bt hq_9 | replace hq_9 := bf hq_9 | replace hq_9 := bt' hq_9 | replace hq_9 := bf' hq_9 | skip)
    first
    | (cases hq_9; done) | (exfalso; omega)
    | (
       refine al_ro' (ro_eq (ro_ld_ptr h10_ty24 rfl mo1_7 (up_m rfl (u2 rfl s1_8)) (by first | exact Nat.le_of_ble_eq_true rfl | omega | (simp only [lnS] <;> omega) | (simp <;> omega))) (by first | (simp only [packA_t, packA_f, iE, bE, setAt, cellsA, Value.cells, map_vc, map_vn, Nat.reduceAdd, qS] <;> rfl) | rfl)) ⟨_, rfl, hb_9⟩ rfl ?_
       refine al_ro' (ro_build (evP_cons ev_c evP_nil) h10_bz24 h10_bu24 h10_bp24 rfl) ⟨_, rfl, (up_m rfl hb_9)⟩ rfl ?_
       refine al_ro' (ro_aeql (up_m rfl up_h) up_h (xs := [.int .i64 (-1), .int .i64 0]) (ys := [.int .i64 (-1), .int .i64 0]) (b := true) ⟨rfl, by kernel_rfl, fun _ => by kernel_rfl⟩) ⟨_, rfl, (u2 rfl hb_9)⟩ rfl ?_
       refine al_ro' (ro_pickT (up_m rfl (u2 rfl hb_9)) up_h) trivial rfl ?_
       refine al_ro' (ro_move up_h) trivial rfl ?_
       refine al_case up_h (fun hb_10 hq_10 => ?_) (fun hb_10 hq_10 => ?_)
       · (first | replace hq_10 := bnt hq_10 | replace hq_10 := bnf hq_10 | replace hq_10 := bt hq_10 | replace hq_10 := bf hq_10 | replace hq_10 := bt' hq_10 | replace hq_10 := bf' hq_10 | skip)
         first
         | (cases hq_10; done) | (exfalso; omega)
         | (
            refine al_ro' (ro_move (u8 rfl s4_8)) ⟨_, rfl, hb_10⟩ rfl ?_
            refine al_ro' (ro_eql up_h ev_c) ⟨_, rfl, (up_m rfl hb_10)⟩ rfl ?_
            refine al_ro' (ro_pickT (u2 rfl hb_10) up_h) trivial rfl ?_
            refine al_ro' (ro_move up_h) trivial rfl ?_
            refine al_case up_h (fun hb_11 hq_11 => ?_) (fun hb_11 hq_11 => ?_)
            · (first | replace hq_11 := bnt hq_11 | replace hq_11 := bnf hq_11 | replace hq_11 := bt hq_11 | replace hq_11 := bf hq_11 | replace hq_11 := bt' hq_11 | replace hq_11 := bf' hq_11 | skip)
              first
              | (cases hq_11; done) | (exfalso; omega)
              | (
                 refine al_ro' (ro_move (u4 rfl (u8 rfl s3_8))) ⟨_, rfl, hb_11⟩ rfl ?_
                 refine al_ro' (ro_eql up_h ev_c) ⟨_, rfl, (up_m rfl hb_11)⟩ rfl ?_
                 refine al_ro' (ro_pickT (u2 rfl hb_11) up_h) trivial rfl ?_
                 refine al_ro' (ro_move up_h) trivial rfl ?_
                 refine al_case up_h (fun hb_12 hq_12 => ?_) (fun hb_12 hq_12 => ?_)
                 · (first | replace hq_12 := bnt hq_12 | replace hq_12 := bnf hq_12 | replace hq_12 := bt hq_12 | replace hq_12 := bf hq_12 | replace hq_12 := bt' hq_12 | replace hq_12 := bf' hq_12 | skip)
                   first
                   | (cases hq_12; done) | (exfalso; omega)
                   | (
                      refine al_ro' (ro_move (u16 rfl s6_8)) ⟨_, rfl, hb_12⟩ rfl ?_
                      refine al_ro' (ro_eql up_h ev_c) ⟨_, rfl, (up_m rfl hb_12)⟩ rfl ?_
                      refine al_ro' (ro_pickT (u2 rfl hb_12) up_h) trivial rfl ?_
                      refine al_ro' (ro_move up_h) trivial rfl ?_
                      refine al_case up_h (fun hb_13 hq_13 => ?_) (fun hb_13 hq_13 => ?_)
                      · (first | replace hq_13 := bnt hq_13 | replace hq_13 := bnf hq_13 | replace hq_13 := bt hq_13 | replace hq_13 := bf hq_13 | replace hq_13 := bt' hq_13 | replace hq_13 := bf' hq_13 | skip)
                        first
                        | (cases hq_13; done) | (exfalso; omega)
                        | (
                           refine al_ro' (ro_fld_ptr h10_fl48_0 rfl (u4 rfl (u16 rfl s5_8))) ⟨_, rfl, hb_13⟩ rfl ?_
                           refine al_ro' (ro_eq (ro_ld_ptr h10_ty46 rfl mo2_7 up_h (by first | exact Nat.le_of_ble_eq_true rfl | omega | (simp only [lnS] <;> omega) | (simp <;> omega))) (by first | (simp only [packA_t, packA_f, iE, bE, setAt, cellsA, Value.cells, map_vc, map_vn, Nat.reduceAdd, qS] <;> rfl) | rfl)) ⟨_, rfl, (up_m rfl hb_13)⟩ rfl ?_
                           refine al_ro' (ro_lit h10_sl46 (evP_cons ev_c (evP_cons ev_c (evP_cons ev_c evP_nil))) rfl rfl rfl rfl) ⟨_, rfl, (u2 rfl hb_13)⟩ rfl ?_
                           refine al_ro' (ro_call (evL_cons (up_m rfl up_h) (evL_cons up_h evL_nil)) rfl (sameI_ok [0, 4, 0] (by decide)) h10_hcf46) ⟨_, rfl, (up_m rfl (u2 rfl hb_13))⟩ rfl ?_
                           refine al_ro' (ro_pickT (u4 rfl hb_13) up_h) trivial rfl ?_
                           refine al_ro' (ro_move up_h) trivial rfl ?_
                           refine al_case up_h (fun hb_14 hq_14 => ?_) (fun hb_14 hq_14 => ?_)
                           · (first | replace hq_14 := bnt hq_14 | replace hq_14 := bnf hq_14 | replace hq_14 := bt hq_14 | replace hq_14 := bf hq_14 | replace hq_14 := bt' hq_14 | replace hq_14 := bf' hq_14 | skip)
                             first
                             | (cases hq_14; done) | (exfalso; omega)
                             | (
                                refine al_ro' (ro_fld_ptr h10_fl48_1 rfl (u2 rfl (u8 rfl (u16 rfl s5_8)))) ⟨_, rfl, hb_14⟩ rfl ?_
                                refine al_ro' (ro_eq (ro_ld_ptr h10_ty43 rfl mo2_7 up_h (by first | exact Nat.le_of_ble_eq_true rfl | omega | (simp only [lnS] <;> omega) | (simp <;> omega))) (by first | (simp only [packA_t, packA_f, iE, bE, setAt, cellsA, Value.cells, map_vc, map_vn, Nat.reduceAdd, qS] <;> rfl) | rfl)) ⟨_, rfl, (up_m rfl hb_14)⟩ rfl ?_
                                refine al_ro' (ro_build (evP_cons ev_c evP_nil) h10_bz24 h10_bu24 h10_bp24 rfl) ⟨_, rfl, (u2 rfl hb_14)⟩ rfl ?_
                                refine al_ro' (ro_build (evP_cons ev_c evP_nil) h10_bz24 h10_bu24 h10_bp24 rfl) ⟨_, rfl, (up_m rfl (u2 rfl hb_14))⟩ rfl ?_
                                refine al_ro' (ro_build (evP_cons ev_c evP_nil) h10_bz24 h10_bu24 h10_bp24 rfl) ⟨_, rfl, (u4 rfl hb_14)⟩ rfl ?_
                                refine al_ro' (ro_lit h10_sl43 (evP_cons (u2 rfl up_h) (evP_cons (up_m rfl up_h) (evP_cons up_h evP_nil))) rfl rfl rfl rfl) ⟨_, rfl, (up_m rfl (u4 rfl hb_14))⟩ rfl ?_
                                refine al_ro' (ro_call (evL_cons (u4 rfl up_h) (evL_cons up_h evL_nil)) rfl (sameV_ok [(4, 0), (-2, 0), (2, 0)] (by decide)) h10_hcf47) ⟨_, rfl, (u2 rfl (u4 rfl hb_14))⟩ rfl ?_
                                refine al_ro' (ro_pickT (up_m rfl (u2 rfl (u4 rfl hb_14))) up_h) trivial rfl ?_
                                refine al_ro' (ro_assign up_h) trivial rfl ?_
                                refine al_end (fun e_15 he_15 => ?_)
                                have s0_15 := ef 0 he_15 up_h
                                clear he_15 hb_10 hb_11 hb_12 hb_13 hb_14 hb_9 s1_8 s2_8 s3_8 s4_8 s5_8 s6_8
                                refine then_n ?_
                                refine aw_ret ?_
                                refine ret1 (.inr rfl) (by kernel_rfl) (resV_tmp s0_15) (.ro _ rfl) ?_
                                clear s0_15 mo2_7 mo1_7 mo0_7 ml_7
                                rfl)
                           · (first | replace hq_14 := bnt hq_14 | replace hq_14 := bnf hq_14 | replace hq_14 := bt hq_14 | replace hq_14 := bf hq_14 | replace hq_14 := bt' hq_14 | replace hq_14 := bf' hq_14 | skip)
                             first
                             | (cases hq_14; done) | (exfalso; omega)
                             | (
                                refine al_skip' ⟨_, rfl, .inl hb_14⟩ rfl ?_
                                refine al_skip' ⟨_, rfl, .inl (up_m rfl hb_14)⟩ rfl ?_
                                refine al_skip' ⟨_, rfl, .inl (u2 rfl hb_14)⟩ rfl ?_
                                refine al_skip' ⟨_, rfl, .inl (up_m rfl (u2 rfl hb_14))⟩ rfl ?_
                                refine al_skip' ⟨_, rfl, .inl (u4 rfl hb_14)⟩ rfl ?_
                                refine al_skip' ⟨_, rfl, .inl (up_m rfl (u4 rfl hb_14))⟩ rfl ?_
                                refine al_skip' ⟨_, rfl, .inl (u2 rfl (u4 rfl hb_14))⟩ rfl ?_
                                refine al_ro' (ro_pickF (up_m rfl (u2 rfl (u4 rfl hb_14))) ev_c) trivial rfl ?_
                                refine al_ro' (ro_assign up_h) trivial rfl ?_
                                refine al_end (fun e_16 he_16 => ?_)
                                have s0_16 := ef 0 he_16 up_h
                                clear he_16 hb_10 hb_11 hb_12 hb_13 hb_14 hb_9 s1_8 s2_8 s3_8 s4_8 s5_8 s6_8
                                refine then_n ?_
                                refine aw_ret ?_
                                refine ret1 (.inr rfl) (by kernel_rfl) (resV_tmp s0_16) (.ro _ rfl) ?_
                                clear s0_16 mo2_7 mo1_7 mo0_7 ml_7
                                rfl))
                      · (first | replace hq_13 := bnt hq_13 | replace hq_13 := bnf hq_13 | replace hq_13 := bt hq_13 | replace hq_13 := bf hq_13 | replace hq_13 := bt' hq_13 | replace hq_13 := bf' hq_13 | skip)
                        first
                        | (cases hq_13; done) | (exfalso; omega)
                        | (
                           refine al_skip' ⟨_, rfl, .inl hb_13⟩ rfl ?_
                           refine al_skip' ⟨_, rfl, .inl (up_m rfl hb_13)⟩ rfl ?_
                           refine al_skip' ⟨_, rfl, .inl (u2 rfl hb_13)⟩ rfl ?_
                           refine al_skip' ⟨_, rfl, .inl (up_m rfl (u2 rfl hb_13))⟩ rfl ?_
                           refine al_ro' (ro_pickF (u4 rfl hb_13) ev_c) trivial rfl ?_
                           refine al_ro' (ro_move up_h) trivial rfl ?_
                           refine al_skip' ⟨_, rfl, .inl up_h⟩ rfl ?_
                           refine al_skip' ⟨_, rfl, .inl (up_m rfl up_h)⟩ rfl ?_
                           refine al_skip' ⟨_, rfl, .inl (u2 rfl up_h)⟩ rfl ?_
                           refine al_skip' ⟨_, rfl, .inl (up_m rfl (u2 rfl up_h))⟩ rfl ?_
                           refine al_skip' ⟨_, rfl, .inl (u4 rfl up_h)⟩ rfl ?_
                           refine al_skip' ⟨_, rfl, .inl (up_m rfl (u4 rfl up_h))⟩ rfl ?_
                           refine al_skip' ⟨_, rfl, .inl (u2 rfl (u4 rfl up_h))⟩ rfl ?_
                           refine al_ro' (ro_pickF (up_m rfl (u2 rfl (u4 rfl up_h))) ev_c) trivial rfl ?_
                           refine al_ro' (ro_assign up_h) trivial rfl ?_
                           refine al_end (fun e_17 he_17 => ?_)
                           have s0_17 := ef 0 he_17 up_h
                           clear he_17 hb_10 hb_11 hb_12 hb_13 hb_9 s1_8 s2_8 s3_8 s4_8 s5_8 s6_8
                           refine then_n ?_
                           refine aw_ret ?_
                           refine ret1 (.inr rfl) (by kernel_rfl) (resV_tmp s0_17) (.ro _ rfl) ?_
                           clear s0_17 mo2_7 mo1_7 mo0_7 ml_7
                           rfl))
                 · (first | replace hq_12 := bnt hq_12 | replace hq_12 := bnf hq_12 | replace hq_12 := bt hq_12 | replace hq_12 := bf hq_12 | replace hq_12 := bt' hq_12 | replace hq_12 := bf' hq_12 | skip)
                   first
                   | (cases hq_12; done) | (exfalso; omega)
                   | (
                      refine al_skip' ⟨_, rfl, .inl hb_12⟩ rfl ?_
                      refine al_skip' ⟨_, rfl, .inl (up_m rfl hb_12)⟩ rfl ?_
                      refine al_ro' (ro_pickF (u2 rfl hb_12) ev_c) trivial rfl ?_
                      refine al_ro' (ro_move up_h) trivial rfl ?_
                      refine al_skip' ⟨_, rfl, .inl up_h⟩ rfl ?_
                      refine al_skip' ⟨_, rfl, .inl (up_m rfl up_h)⟩ rfl ?_
                      refine al_skip' ⟨_, rfl, .inl (u2 rfl up_h)⟩ rfl ?_
                      refine al_skip' ⟨_, rfl, .inl (up_m rfl (u2 rfl up_h))⟩ rfl ?_
                      refine al_ro' (ro_pickF (u4 rfl up_h) ev_c) trivial rfl ?_
                      refine al_ro' (ro_move up_h) trivial rfl ?_
                      refine al_skip' ⟨_, rfl, .inl up_h⟩ rfl ?_
                      refine al_skip' ⟨_, rfl, .inl (up_m rfl up_h)⟩ rfl ?_
                      refine al_skip' ⟨_, rfl, .inl (u2 rfl up_h)⟩ rfl ?_
                      refine al_skip' ⟨_, rfl, .inl (up_m rfl (u2 rfl up_h))⟩ rfl ?_
                      refine al_skip' ⟨_, rfl, .inl (u4 rfl up_h)⟩ rfl ?_
                      refine al_skip' ⟨_, rfl, .inl (up_m rfl (u4 rfl up_h))⟩ rfl ?_
                      refine al_skip' ⟨_, rfl, .inl (u2 rfl (u4 rfl up_h))⟩ rfl ?_
                      refine al_ro' (ro_pickF (up_m rfl (u2 rfl (u4 rfl up_h))) ev_c) trivial rfl ?_
                      refine al_ro' (ro_assign up_h) trivial rfl ?_
                      refine al_end (fun e_18 he_18 => ?_)
                      have s0_18 := ef 0 he_18 up_h
                      clear he_18 hb_10 hb_11 hb_12 hb_9 s1_8 s2_8 s3_8 s4_8 s5_8 s6_8
                      refine then_n ?_
                      refine aw_ret ?_
                      refine ret1 (.inr rfl) (by kernel_rfl) (resV_tmp s0_18) (.ro _ rfl) ?_
                      clear s0_18 mo2_7 mo1_7 mo0_7 ml_7
                      rfl))
            · (first | replace hq_11 := bnt hq_11 | replace hq_11 := bnf hq_11 | replace hq_11 := bt hq_11 | replace hq_11 := bf hq_11 | replace hq_11 := bt' hq_11 | replace hq_11 := bf' hq_11 | skip)
              first
              | (cases hq_11; done) | (exfalso; omega)
              | (
                 refine al_skip' ⟨_, rfl, .inl hb_11⟩ rfl ?_
                 refine al_skip' ⟨_, rfl, .inl (up_m rfl hb_11)⟩ rfl ?_
                 refine al_ro' (ro_pickF (u2 rfl hb_11) ev_c) trivial rfl ?_
                 refine al_ro' (ro_move up_h) trivial rfl ?_
                 refine al_skip' ⟨_, rfl, .inl up_h⟩ rfl ?_
                 refine al_skip' ⟨_, rfl, .inl (up_m rfl up_h)⟩ rfl ?_
                 refine al_ro' (ro_pickF (u2 rfl up_h) ev_c) trivial rfl ?_
                 refine al_ro' (ro_move up_h) trivial rfl ?_
                 refine al_skip' ⟨_, rfl, .inl up_h⟩ rfl ?_
                 refine al_skip' ⟨_, rfl, .inl (up_m rfl up_h)⟩ rfl ?_
                 refine al_skip' ⟨_, rfl, .inl (u2 rfl up_h)⟩ rfl ?_
                 refine al_skip' ⟨_, rfl, .inl (up_m rfl (u2 rfl up_h))⟩ rfl ?_
                 refine al_ro' (ro_pickF (u4 rfl up_h) ev_c) trivial rfl ?_
                 refine al_ro' (ro_move up_h) trivial rfl ?_
                 refine al_skip' ⟨_, rfl, .inl up_h⟩ rfl ?_
                 refine al_skip' ⟨_, rfl, .inl (up_m rfl up_h)⟩ rfl ?_
                 refine al_skip' ⟨_, rfl, .inl (u2 rfl up_h)⟩ rfl ?_
                 refine al_skip' ⟨_, rfl, .inl (up_m rfl (u2 rfl up_h))⟩ rfl ?_
                 refine al_skip' ⟨_, rfl, .inl (u4 rfl up_h)⟩ rfl ?_
                 refine al_skip' ⟨_, rfl, .inl (up_m rfl (u4 rfl up_h))⟩ rfl ?_
                 refine al_skip' ⟨_, rfl, .inl (u2 rfl (u4 rfl up_h))⟩ rfl ?_
                 refine al_ro' (ro_pickF (up_m rfl (u2 rfl (u4 rfl up_h))) ev_c) trivial rfl ?_
                 refine al_ro' (ro_assign up_h) trivial rfl ?_
                 refine al_end (fun e_19 he_19 => ?_)
                 have s0_19 := ef 0 he_19 up_h
                 clear he_19 hb_10 hb_11 hb_9 s1_8 s2_8 s3_8 s4_8 s5_8 s6_8
                 refine then_n ?_
                 refine aw_ret ?_
                 refine ret1 (.inr rfl) (by kernel_rfl) (resV_tmp s0_19) (.ro _ rfl) ?_
                 clear s0_19 mo2_7 mo1_7 mo0_7 ml_7
                 rfl))
       · (first | replace hq_10 := bnt hq_10 | replace hq_10 := bnf hq_10 | replace hq_10 := bt hq_10 | replace hq_10 := bf hq_10 | replace hq_10 := bt' hq_10 | replace hq_10 := bf' hq_10 | skip)
         first
         | (cases hq_10; done) | (exfalso; omega)
         | (
            refine al_skip' ⟨_, rfl, .inl hb_10⟩ rfl ?_
            refine al_skip' ⟨_, rfl, .inl (up_m rfl hb_10)⟩ rfl ?_
            refine al_ro' (ro_pickF (u2 rfl hb_10) ev_c) trivial rfl ?_
            refine al_ro' (ro_move up_h) trivial rfl ?_
            refine al_skip' ⟨_, rfl, .inl up_h⟩ rfl ?_
            refine al_skip' ⟨_, rfl, .inl (up_m rfl up_h)⟩ rfl ?_
            refine al_ro' (ro_pickF (u2 rfl up_h) ev_c) trivial rfl ?_
            refine al_ro' (ro_move up_h) trivial rfl ?_
            refine al_skip' ⟨_, rfl, .inl up_h⟩ rfl ?_
            refine al_skip' ⟨_, rfl, .inl (up_m rfl up_h)⟩ rfl ?_
            refine al_ro' (ro_pickF (u2 rfl up_h) ev_c) trivial rfl ?_
            refine al_ro' (ro_move up_h) trivial rfl ?_
            refine al_skip' ⟨_, rfl, .inl up_h⟩ rfl ?_
            refine al_skip' ⟨_, rfl, .inl (up_m rfl up_h)⟩ rfl ?_
            refine al_skip' ⟨_, rfl, .inl (u2 rfl up_h)⟩ rfl ?_
            refine al_skip' ⟨_, rfl, .inl (up_m rfl (u2 rfl up_h))⟩ rfl ?_
            refine al_ro' (ro_pickF (u4 rfl up_h) ev_c) trivial rfl ?_
            refine al_ro' (ro_move up_h) trivial rfl ?_
            refine al_skip' ⟨_, rfl, .inl up_h⟩ rfl ?_
            refine al_skip' ⟨_, rfl, .inl (up_m rfl up_h)⟩ rfl ?_
            refine al_skip' ⟨_, rfl, .inl (u2 rfl up_h)⟩ rfl ?_
            refine al_skip' ⟨_, rfl, .inl (up_m rfl (u2 rfl up_h))⟩ rfl ?_
            refine al_skip' ⟨_, rfl, .inl (u4 rfl up_h)⟩ rfl ?_
            refine al_skip' ⟨_, rfl, .inl (up_m rfl (u4 rfl up_h))⟩ rfl ?_
            refine al_skip' ⟨_, rfl, .inl (u2 rfl (u4 rfl up_h))⟩ rfl ?_
            refine al_ro' (ro_pickF (up_m rfl (u2 rfl (u4 rfl up_h))) ev_c) trivial rfl ?_
            refine al_ro' (ro_assign up_h) trivial rfl ?_
            refine al_end (fun e_20 he_20 => ?_)
            have s0_20 := ef 0 he_20 up_h
            clear he_20 hb_10 hb_9 s1_8 s2_8 s3_8 s4_8 s5_8 s6_8
            refine then_n ?_
            refine aw_ret ?_
            refine ret1 (.inr rfl) (by kernel_rfl) (resV_tmp s0_20) (.ro _ rfl) ?_
            clear s0_20 mo2_7 mo1_7 mo0_7 ml_7
            rfl))
  · (first | replace hq_9 := bnt hq_9 | replace hq_9 := bnf hq_9 | replace hq_9 := bt hq_9 | replace hq_9 := bf hq_9 | replace hq_9 := bt' hq_9 | replace hq_9 := bf' hq_9 | skip)
    first
    | (cases hq_9; done) | (exfalso; omega)
    | (
       refine al_skip' ⟨_, rfl, .inl hb_9⟩ rfl ?_
       refine al_skip' ⟨_, rfl, .inl (up_m rfl hb_9)⟩ rfl ?_
       refine al_skip' ⟨_, rfl, .inl (u2 rfl hb_9)⟩ rfl ?_
       refine al_ro' (ro_pickF (up_m rfl (u2 rfl hb_9)) ev_c) trivial rfl ?_
       refine al_ro' (ro_move up_h) trivial rfl ?_
       refine al_skip' ⟨_, rfl, .inl up_h⟩ rfl ?_
       refine al_skip' ⟨_, rfl, .inl (up_m rfl up_h)⟩ rfl ?_
       refine al_ro' (ro_pickF (u2 rfl up_h) ev_c) trivial rfl ?_
       refine al_ro' (ro_move up_h) trivial rfl ?_
       refine al_skip' ⟨_, rfl, .inl up_h⟩ rfl ?_
       refine al_skip' ⟨_, rfl, .inl (up_m rfl up_h)⟩ rfl ?_
       refine al_ro' (ro_pickF (u2 rfl up_h) ev_c) trivial rfl ?_
       refine al_ro' (ro_move up_h) trivial rfl ?_
       refine al_skip' ⟨_, rfl, .inl up_h⟩ rfl ?_
       refine al_skip' ⟨_, rfl, .inl (up_m rfl up_h)⟩ rfl ?_
       refine al_ro' (ro_pickF (u2 rfl up_h) ev_c) trivial rfl ?_
       refine al_ro' (ro_move up_h) trivial rfl ?_
       refine al_skip' ⟨_, rfl, .inl up_h⟩ rfl ?_
       refine al_skip' ⟨_, rfl, .inl (up_m rfl up_h)⟩ rfl ?_
       refine al_skip' ⟨_, rfl, .inl (u2 rfl up_h)⟩ rfl ?_
       refine al_skip' ⟨_, rfl, .inl (up_m rfl (u2 rfl up_h))⟩ rfl ?_
       refine al_ro' (ro_pickF (u4 rfl up_h) ev_c) trivial rfl ?_
       refine al_ro' (ro_move up_h) trivial rfl ?_
       refine al_skip' ⟨_, rfl, .inl up_h⟩ rfl ?_
       refine al_skip' ⟨_, rfl, .inl (up_m rfl up_h)⟩ rfl ?_
       refine al_skip' ⟨_, rfl, .inl (u2 rfl up_h)⟩ rfl ?_
       refine al_skip' ⟨_, rfl, .inl (up_m rfl (u2 rfl up_h))⟩ rfl ?_
       refine al_skip' ⟨_, rfl, .inl (u4 rfl up_h)⟩ rfl ?_
       refine al_skip' ⟨_, rfl, .inl (up_m rfl (u4 rfl up_h))⟩ rfl ?_
       refine al_skip' ⟨_, rfl, .inl (u2 rfl (u4 rfl up_h))⟩ rfl ?_
       refine al_ro' (ro_pickF (up_m rfl (u2 rfl (u4 rfl up_h))) ev_c) trivial rfl ?_
       refine al_ro' (ro_assign up_h) trivial rfl ?_
       refine al_end (fun e_21 he_21 => ?_)
       have s0_21 := ef 0 he_21 up_h
       clear he_21 hb_9 s1_8 s2_8 s3_8 s4_8 s5_8 s6_8
       refine then_n ?_
       refine aw_ret ?_
       refine ret1 (.inr rfl) (by kernel_rfl) (resV_tmp s0_21) (.ro _ rfl) ?_
       clear s0_21 mo2_7 mo1_7 mo0_7 ml_7
       rfl)
theorem gT_gS : ∀ x ∈ gT, x ∈ gS := fun x h => List.mem_cons_of_mem _ h
theorem heI : ∀ a b : Int, EqV Tryd.prog 1 3 (pkV false (iV a)) (pkV false (iV b)) (decide (a = b)) := fun a b => eqv_int (k := .i64) (k' := .i64) (by kernel_rfl) a b
theorem heT : ∀ a b : V2, EqV Tryd.prog 2 24 (pkV true (tV a)) (pkV true (tV b)) (decide (a = b)) := fun a b => by
  have h := h9_sq24 (a0 := a.1) (b0 := b.1) (a1 := a.2) (b1 := b.2)
  rw [show decide (a = b) = (decide (a.1 = b.1) && (decide (a.2 = b.2) && true)) by rw [Bool.eq_iff_iff]; simp [Prod.ext_iff]]
  exact h
theorem ordR_len (xs : List Int) : (ordR xs).length = 6 := by unfold ordR; split; exact ordW_len _; rfl
theorem smpV_len (hs : List V2) : (smpV hs).length = 6 := by unfold smpV; split; exact outW_len _; rfl
theorem rSmpV_len (hs : List V2) : (rSmpV hs).length = 6 := by unfold rSmpV; split; exact outW_len _; rfl
theorem smp_eq {hs : List V2} (h : ordE hs = 0) : smpF hs = smpE hs ∧ smpV hs = rSmpV hs := by
  have e : smpF hs = smpE hs := by unfold smpF; rw [if_pos h]
  refine ⟨e, ?_⟩
  unfold smpV rSmpV; rw [e]
theorem smp_ne {hs : List V2} (h : ¬ ordE hs = 0) : smpF hs = ordE hs ∧ smpV hs = i6 := by
  have e : smpF hs = ordE hs := by unfold smpF; rw [if_neg h]
  refine ⟨e, ?_⟩
  unfold smpV; rw [e, if_neg h]
set_option maxRecDepth 100000 in
set_option maxHeartbeats 4000000 in
theorem statorOrders_ok (xs : List Int) (hx : xs.length = 6) (hs : List V2) (hh : hs.length = 6) : FnOkG Tryd.prog gS 3 [.agg (xs.map iE).flatten, .agg (hs.map tE).flatten] (fun q => q = oA true) := by
  have k1 := ordR_len xs
  have k2 := smpV_len hs
  have k3 := rSmpV_len hs
  have k4 := ordW_len xs
  refine fnOkG_of (fn := Tryd.f3) gS 87 (by kernel_rfl) rfl (by kernel_rfl) (Nat.le_of_ble_eq_true rfl) ?_
  intro e_0 m_0 hA hm_0
  have s0_0 : evA e_0 (.tmp 0) = _ := hA 0 _ rfl
  have s1_0 : evA e_0 (.tmp 1) = _ := hA 1 _ rfl
  have ml_0 : m_0.length = 1 := by rw [hm_0]; rfl
  have mo0_0 : m_0[0]? = some (.glob gS) := by rw [hm_0]; rfl
  clear hA hm_0
  refine aw_seq ?_
  refine aw_text (by kernel_rfl) ?_
  refine al_stm (st_box s0_0 rfl ml_0) trivial rfl (fun m_1 hm_1 => ?_)
  have mo1_1 := m_push hm_1 ml_0
  (try simp only [packA_t, packA_f, iE, bE, setAt, cellsA, Value.cells, map_vc, map_vn, Nat.reduceAdd, qS] at mo1_1)
  have mo0_1 := m_push_o hm_1 mo0_0
  have ml_1 := m_push_l hm_1 ml_0
  have ml_1 : _ = 2 := ml_1
  clear hm_1 mo0_0
  refine al_stm (st_box (up_m rfl s1_0) rfl ml_1) trivial rfl (fun m_2 hm_2 => ?_)
  have mo2_2 := m_push hm_2 ml_1
  (try simp only [packA_t, packA_f, iE, bE, setAt, cellsA, Value.cells, map_vc, map_vn, Nat.reduceAdd, qS] at mo2_2)
  have mo1_2 := m_push_o hm_2 mo1_1
  have mo0_2 := m_push_o hm_2 mo0_1
  have ml_2 := m_push_l hm_2 ml_1
  have ml_2 : _ = 3 := ml_2
  clear hm_2 mo1_1 mo0_1
  refine al_ro' (ro_assign ev_c) trivial rfl ?_
  refine al_end (fun e_3 he_3 => ?_)
  have s2_3 := ef 2 he_3 (u2 rfl up_h)
  have s3_3 := ef 3 he_3 (up_m rfl up_h)
  clear he_3 s0_0 s1_0
  refine then_n ?_
  refine aw_seq ?_
  refine aw_seq ?_
  refine aw_text (by kernel_rfl) ?_
  refine al_ro' (ro_callG evL_nil (by first | rfl | (simp only [roO.roL, roO, Bool.and_true, Bool.true_and]; (apply roL_flat; intro _; rfl))) mo0_2 (sAwake_ok.wide gT_gS) h10_hcf9) trivial rfl ?_
  refine al_ro' (ro_not up_h) trivial rfl ?_
  refine al_end (fun e_4 he_4 => ?_)
  have s2_4 := ef 2 he_4 (u2 rfl s2_3)
  have s3_4 := ef 3 he_4 (u2 rfl s3_3)
  have s15_4 := ef 15 he_4 up_h
  clear he_4 s2_3 s3_3
  refine then_n ?_
  refine aw_case s15_4 (fun hq_5 => ?_) (fun hq_5 => ?_)
  · (first | replace hq_5 := bnt hq_5 | replace hq_5 := bnf hq_5 | replace hq_5 := bt hq_5 | replace hq_5 := bf hq_5 | replace hq_5 := bt' hq_5 | replace hq_5 := bf' hq_5 | skip)
    first
    | (cases hq_5; done) | (exfalso; omega)
    | (
       refine aw_seq ?_
       refine aw_text (by kernel_rfl) ?_
       refine al_ro' (ro_assign ev_c) trivial rfl ?_
       refine al_end (fun e_6 he_6 => ?_)
       have s4_6 := ef 4 he_6 up_h
       clear he_6 s15_4 s2_4 s3_4
       refine then_n ?_
       refine aw_ret ?_
       refine then_r ?_
       refine ret1 (.inr rfl) (by kernel_rfl) (resV_tmp s4_6) (.ro _ rfl) ?_
       clear s4_6 mo2_2 mo1_2 mo0_2 ml_2
       (first | rfl | (simp [g1, g2]; done) | (exfalso; omega)))
  · (first | replace hq_5 := bnt hq_5 | replace hq_5 := bnf hq_5 | replace hq_5 := bt hq_5 | replace hq_5 := bf hq_5 | replace hq_5 := bt' hq_5 | replace hq_5 := bf' hq_5 | skip)
    first
    | (cases hq_5; done) | (exfalso; omega)
    | (
       refine aw_skip ?_
       refine then_n ?_
       refine aw_seq ?_
       refine aw_text (by kernel_rfl) ?_
       refine al_ro' (ro_ld_all h10_ty22 mo1_2 s2_4 (by first | rfl | (rw [flat_map_len (k := 1)] <;> first | omega | (intro _; rfl)))) trivial rfl ?_
       refine al_ro' (ro_callG (evL_cons up_h evL_nil) (by first | rfl | (simp only [roO.roL, roO, Bool.and_true, Bool.true_and]; (apply roL_flat; intro _; rfl))) mo0_2 (ordersOf_ok xs hx) h10_hcf10) trivial rfl ?_
       refine al_ro' (ro_move up_h) trivial rfl ?_
       refine al_ro' (ro_extract up_h rfl) trivial rfl ?_
       refine al_ro' (ro_extract (up_m rfl up_h) rfl) trivial rfl ?_
       refine al_stm (st_alloc h10_az25 rfl ml_2) trivial rfl (fun m_7 hm_7 => ?_)
       have mo3_7 : m_7[3]? = some (Ob.box 25 ((z6.map tE).flatten)) := m_push hm_7 ml_2
       have mo2_7 := m_push_o hm_7 mo2_2
       have mo1_7 := m_push_o hm_7 mo1_2
       have mo0_7 := m_push_o hm_7 mo0_2
       have ml_7 := m_push_l hm_7 ml_2
       have ml_7 : _ = 4 := ml_7
       clear hm_7 mo2_2 mo1_2 mo0_2
       refine al_stm (st_store_all up_h (u2 rfl up_h) rfl (by first | rfl | (apply oneL_flat; intro _; rfl)) mo3_7 h10_sz25 (by first | rfl | (rw [flat_map_len (k := 2)] <;> first | omega | (intro _; rfl))) (by first | rfl | (rw [flat_map_len (k := 2)] <;> first | omega | (intro _; rfl)))) trivial rfl (fun m_8 hm_8 => ?_)
       have mo3_8 := m_set hm_8 mo3_7
       (try simp only [packA_t, packA_f, iE, bE, setAt, cellsA, Value.cells, map_vc, map_vn, Nat.reduceAdd, qS] at mo3_8)
       have mo2_8 := m_set_o hm_8 mo2_7 (by decide)
       have mo1_8 := m_set_o hm_8 mo1_7 (by decide)
       have mo0_8 := m_set_o hm_8 mo0_7 (by decide)
       have ml_8 := m_set_l hm_8 ml_7
       clear hm_8 mo3_7 mo2_7 mo1_7 mo0_7
       refine al_ro' (ro_assign (up_n (up_m rfl up_h))) trivial rfl ?_
       refine al_end (fun e_9 he_9 => ?_)
       have s2_9 := ef 2 he_9 (up_m rfl (up_n (u2 rfl (u4 rfl s2_4))))
       have s3_9 := ef 3 he_9 (up_m rfl (up_n (u2 rfl (u4 rfl s3_4))))
       have s5_9 := ef 5 he_9 (up_m rfl (up_n up_h))
       have s6_9 := ef 6 he_9 up_h
       clear he_9 s15_4 s2_4 s3_4
       refine then_n ?_
       refine aw_seq ?_
       refine aw_text (by kernel_rfl) ?_
       refine al_ro' (ro_ld_all h10_ty22 mo1_8 s2_9 (by first | rfl | (rw [flat_map_len (k := 1)] <;> first | omega | (intro _; rfl)))) trivial rfl ?_
       refine al_ro' (ro_call (evL_cons up_h evL_nil) (by first | rfl | (simp only [roO.roL, roO, Bool.and_true, Bool.true_and]; (apply roL_flat; intro _; rfl))) (energyOf_ok xs hx) h10_hcf11) trivial rfl ?_
       refine al_ro' (ro_move up_h) trivial rfl ?_
       refine al_ro' (ro_extract up_h rfl) trivial rfl ?_
       refine al_ro' (ro_extract (up_m rfl up_h) rfl) trivial rfl ?_
       refine al_ro' (ro_assign (up_m rfl up_h)) trivial rfl ?_
       refine al_ro' (ro_assign (up_m rfl up_h)) trivial rfl ?_
       refine al_end (fun e_10 he_10 => ?_)
       have s2_10 := ef 2 he_10 (up_m rfl (u2 rfl (u4 rfl s2_9)))
       have s3_10 := ef 3 he_10 (up_m rfl (u2 rfl (u4 rfl s3_9)))
       have s5_10 := ef 5 he_10 (up_m rfl (u2 rfl (u4 rfl s5_9)))
       have s6_10 := ef 6 he_10 (up_m rfl (u2 rfl (u4 rfl s6_9)))
       have s7_10 := ef 7 he_10 (up_m rfl up_h)
       have s8_10 := ef 8 he_10 up_h
       clear he_10 s2_9 s3_9 s5_9 s6_9
       refine then_n ?_
       refine aw_seq ?_
       refine aw_text (by kernel_rfl) ?_
       refine al_ro' (ro_ld_all h10_ty25 mo2_8 s3_10 (by first | rfl | (rw [flat_map_len (k := 2)] <;> first | omega | (intro _; rfl)))) trivial rfl ?_
       refine al_ro' (ro_call (evL_cons up_h evL_nil) (by first | rfl | (simp only [roO.roL, roO, Bool.and_true, Bool.true_and]; (apply roL_flat; intro _; rfl))) (samplesOf_ok hs hh) h10_hcf12) trivial rfl ?_
       refine al_ro' (ro_move up_h) trivial rfl ?_
       refine al_ro' (ro_extract up_h rfl) trivial rfl ?_
       refine al_ro' (ro_extract (up_m rfl up_h) rfl) trivial rfl ?_
       refine al_stm (st_alloc h10_az22 rfl ml_8) trivial rfl (fun m_11 hm_11 => ?_)
       have mo4_11 : m_11[4]? = some (Ob.box 22 ((i6.map iE).flatten)) := m_push hm_11 ml_8
       have mo3_11 := m_push_o hm_11 mo3_8
       have mo2_11 := m_push_o hm_11 mo2_8
       have mo1_11 := m_push_o hm_11 mo1_8
       have mo0_11 := m_push_o hm_11 mo0_8
       have ml_11 := m_push_l hm_11 ml_8
       have ml_11 : _ = 5 := ml_11
       clear hm_11 mo3_8 mo2_8 mo1_8 mo0_8
       refine al_stm (st_store_all up_h (u2 rfl up_h) rfl (by first | rfl | (apply oneL_flat; intro _; rfl)) mo4_11 h10_sz22 (by first | rfl | (rw [flat_map_len (k := 1)] <;> first | omega | (intro _; rfl))) (by first | rfl | (rw [flat_map_len (k := 1)] <;> first | omega | (intro _; rfl)))) trivial rfl (fun m_12 hm_12 => ?_)
       have mo4_12 := m_set hm_12 mo4_11
       (try simp only [packA_t, packA_f, iE, bE, setAt, cellsA, Value.cells, map_vc, map_vn, Nat.reduceAdd, qS] at mo4_12)
       have mo3_12 := m_set_o hm_12 mo3_11 (by decide)
       have mo2_12 := m_set_o hm_12 mo2_11 (by decide)
       have mo1_12 := m_set_o hm_12 mo1_11 (by decide)
       have mo0_12 := m_set_o hm_12 mo0_11 (by decide)
       have ml_12 := m_set_l hm_12 ml_11
       clear hm_12 mo4_11 mo3_11 mo2_11 mo1_11 mo0_11
       refine al_ro' (ro_assign (up_n (up_m rfl up_h))) trivial rfl ?_
       refine al_end (fun e_13 he_13 => ?_)
       have s2_13 := ef 2 he_13 (up_m rfl (up_n (u2 rfl (u4 rfl s2_10))))
       have s3_13 := ef 3 he_13 (up_m rfl (up_n (u2 rfl (u4 rfl s3_10))))
       have s5_13 := ef 5 he_13 (up_m rfl (up_n (u2 rfl (u4 rfl s5_10))))
       have s6_13 := ef 6 he_13 (up_m rfl (up_n (u2 rfl (u4 rfl s6_10))))
       have s7_13 := ef 7 he_13 (up_m rfl (up_n (u2 rfl (u4 rfl s7_10))))
       have s8_13 := ef 8 he_13 (up_m rfl (up_n (u2 rfl (u4 rfl s8_10))))
       have s9_13 := ef 9 he_13 (up_m rfl (up_n up_h))
       have s10_13 := ef 10 he_13 up_h
       clear he_13 s2_10 s3_10 s5_10 s6_10 s7_10 s8_10
       refine then_n ?_
       refine aw_seq ?_
       refine aw_seq ?_
       refine aw_text (by kernel_rfl) ?_
       refine al_ro' (ro_ld_all h10_ty22 mo1_12 s2_13 (by first | rfl | (rw [flat_map_len (k := 1)] <;> first | omega | (intro _; rfl)))) trivial rfl ?_
       refine al_ro' (ro_call (evL_cons up_h evL_nil) (by first | rfl | (simp only [roO.roL, roO, Bool.and_true, Bool.true_and]; (apply roL_flat; intro _; rfl))) (samplesErr_ok xs hx) h10_hcf13) trivial rfl ?_
       refine al_ro' (ro_assign up_h) trivial rfl ?_
       refine al_end (fun e_14 he_14 => ?_)
       have s2_14 := ef 2 he_14 (up_m rfl (u2 rfl s2_13))
       have s3_14 := ef 3 he_14 (up_m rfl (u2 rfl s3_13))
       have s5_14 := ef 5 he_14 (up_m rfl (u2 rfl s5_13))
       have s6_14 := ef 6 he_14 (up_m rfl (u2 rfl s6_13))
       have s7_14 := ef 7 he_14 (up_m rfl (u2 rfl s7_13))
       have s8_14 := ef 8 he_14 (up_m rfl (u2 rfl s8_13))
       have s9_14 := ef 9 he_14 (up_m rfl (u2 rfl s9_13))
       have s10_14 := ef 10 he_14 (up_m rfl (u2 rfl s10_13))
       have s11_14 := ef 11 he_14 up_h
       clear he_14 s10_13 s2_13 s3_13 s5_13 s6_13 s7_13 s8_13 s9_13
       refine then_n ?_
       refine aw_seq ?_
       refine aw_text (by kernel_rfl) ?_
       refine al_ro' (ro_move s11_14) trivial rfl ?_
       refine al_ro' (ro_neq up_h ev_c) trivial rfl ?_
       refine al_end (fun e_15 he_15 => ?_)
       have s2_15 := ef 2 he_15 (u2 rfl s2_14)
       have s3_15 := ef 3 he_15 (u2 rfl s3_14)
       have s5_15 := ef 5 he_15 (u2 rfl s5_14)
       have s6_15 := ef 6 he_15 (u2 rfl s6_14)
       have s7_15 := ef 7 he_15 (u2 rfl s7_14)
       have s8_15 := ef 8 he_15 (u2 rfl s8_14)
       have s9_15 := ef 9 he_15 (u2 rfl s9_14)
       have s10_15 := ef 10 he_15 (u2 rfl s10_14)
       have s11_15 := ef 11 he_15 (u2 rfl s11_14)
       have s34_15 := ef 34 he_15 up_h
       clear he_15 s10_14 s11_14 s2_14 s3_14 s5_14 s6_14 s7_14 s8_14 s9_14
       refine then_n ?_
       refine aw_case s34_15 (fun hq_16 => ?_) (fun hq_16 => ?_)
       · (first | replace hq_16 := bnt hq_16 | replace hq_16 := bnf hq_16 | replace hq_16 := bt hq_16 | replace hq_16 := bf hq_16 | replace hq_16 := bt' hq_16 | replace hq_16 := bf' hq_16 | skip)
         first
         | (cases hq_16; done) | (exfalso; omega)
         | (
            (have hn : ¬ phasesE xs = 0 := (by assumption); have e1 : ordR xs = z6 := (by unfold ordR; rw [if_neg hn]); have e2 : enR xs = 0 := (by unfold enR; rw [if_neg hn]))
            refine aw_seq ?_
            refine aw_cut (fun e mem => (evA e (.tmp 51) = .v (.bool false)) ∧ (evA e (.tmp 3) = evA e_15 (.tmp 3)) ∧ (evA e (.tmp 9) = evA e_15 (.tmp 9)) ∧ (evA e (.tmp 10) = evA e_15 (.tmp 10)) ∧ m_12 = mem) ?_ ?_
            ·
              refine aw_text (by kernel_rfl) ?_
              refine al_ro' (ro_move s6_15) trivial rfl ?_
              refine al_ro' (ro_move (up_m rfl s11_15)) trivial rfl ?_
              refine al_ro' (ro_neq (up_m rfl up_h) up_h) trivial rfl ?_
              refine al_ro' (ro_move up_h) trivial rfl ?_
              refine al_case up_h (fun hb_18 hq_18 => ?_) (fun hb_18 hq_18 => ?_)
              · (first | replace hq_18 := bnt hq_18 | replace hq_18 := bnf hq_18 | replace hq_18 := bt hq_18 | replace hq_18 := bf hq_18 | replace hq_18 := bt' hq_18 | replace hq_18 := bf' hq_18 | skip)
                first
                | (cases hq_18; done) | (exfalso; omega)
                | (
                   refine al_skip' ⟨_, rfl, .inl hb_18⟩ rfl ?_
                   refine al_skip' ⟨_, rfl, .inl (up_m rfl hb_18)⟩ rfl ?_
                   refine al_skip' ⟨_, rfl, .inl (u2 rfl hb_18)⟩ rfl ?_
                   refine al_ro' (ro_pickT (up_m rfl (u2 rfl hb_18)) ev_c) trivial rfl ?_
                   refine al_ro' (ro_move up_h) trivial rfl ?_
                   refine al_skip' ⟨_, rfl, .inl up_h⟩ rfl ?_
                   refine al_skip' ⟨_, rfl, .inl (up_m rfl up_h)⟩ rfl ?_
                   refine al_skip' ⟨_, rfl, .inl (u2 rfl up_h)⟩ rfl ?_
                   refine al_ro' (ro_pickT (up_m rfl (u2 rfl up_h)) ev_c) trivial rfl ?_
                   refine al_ro' (ro_move up_h) trivial rfl ?_
                   refine al_skip' ⟨_, rfl, .inl up_h⟩ rfl ?_
                   refine al_skip' ⟨_, rfl, .inl (up_m rfl up_h)⟩ rfl ?_
                   refine al_ro' (ro_pickT (u2 rfl up_h) ev_c) trivial rfl ?_
                   refine al_end (fun e_19 he_19 => ?_)
                   have s3_19 := ef 3 he_19 (up_m rfl (u16 rfl s3_15))
                   have s9_19 := ef 9 he_19 (up_m rfl (u16 rfl s9_15))
                   have s10_19 := ef 10 he_19 (up_m rfl (u16 rfl s10_15))
                   have s51_19 := ef 51 he_19 up_h
                   clear he_19
                   refine then_n ⟨(s51_19).trans (by (first | rfl | (refine avb ?_; simp [e1, e2]; done) | (refine avb ?_; simp_all; done) | (exfalso; simp_all; done))), (s3_19).trans (s3_15).symm, (s9_19).trans (s9_15).symm, (s10_19).trans (s10_15).symm, rfl⟩)
              · (first | replace hq_18 := bnt hq_18 | replace hq_18 := bnf hq_18 | replace hq_18 := bt hq_18 | replace hq_18 := bf hq_18 | replace hq_18 := bt' hq_18 | replace hq_18 := bf' hq_18 | skip)
                first
                | (cases hq_18; done) | (exfalso; omega)
                | (
                   refine al_ro' (ro_move (u4 rfl s8_15)) ⟨_, rfl, hb_18⟩ rfl ?_
                   refine al_ro' (ro_move (up_m rfl (u4 rfl s11_15))) ⟨_, rfl, (up_m rfl hb_18)⟩ rfl ?_
                   refine al_ro' (ro_neq (up_m rfl up_h) up_h) ⟨_, rfl, (u2 rfl hb_18)⟩ rfl ?_
                   refine al_ro' (ro_pickF (up_m rfl (u2 rfl hb_18)) up_h) trivial rfl ?_
                   refine al_ro' (ro_move up_h) trivial rfl ?_
                   refine al_case up_h (fun hb_20 hq_20 => ?_) (fun hb_20 hq_20 => ?_)
                   · (first | replace hq_20 := bnt hq_20 | replace hq_20 := bnf hq_20 | replace hq_20 := bt hq_20 | replace hq_20 := bf hq_20 | replace hq_20 := bt' hq_20 | replace hq_20 := bf' hq_20 | skip)
                     first
                     | (cases hq_20; done) | (exfalso; omega)
                     | (
                        refine al_skip' ⟨_, rfl, .inl hb_20⟩ rfl ?_
                        refine al_skip' ⟨_, rfl, .inl (up_m rfl hb_20)⟩ rfl ?_
                        refine al_skip' ⟨_, rfl, .inl (u2 rfl hb_20)⟩ rfl ?_
                        refine al_ro' (ro_pickT (up_m rfl (u2 rfl hb_20)) ev_c) trivial rfl ?_
                        refine al_ro' (ro_move up_h) trivial rfl ?_
                        refine al_skip' ⟨_, rfl, .inl up_h⟩ rfl ?_
                        refine al_skip' ⟨_, rfl, .inl (up_m rfl up_h)⟩ rfl ?_
                        refine al_ro' (ro_pickT (u2 rfl up_h) ev_c) trivial rfl ?_
                        refine al_end (fun e_21 he_21 => ?_)
                        have s3_21 := ef 3 he_21 (up_m rfl (u16 rfl s3_15))
                        have s9_21 := ef 9 he_21 (up_m rfl (u16 rfl s9_15))
                        have s10_21 := ef 10 he_21 (up_m rfl (u16 rfl s10_15))
                        have s51_21 := ef 51 he_21 up_h
                        clear he_21
                        refine then_n ⟨(s51_21).trans (by (first | rfl | (refine avb ?_; simp [e1, e2]; done) | (refine avb ?_; simp_all; done) | (exfalso; simp_all; done))), (s3_21).trans (s3_15).symm, (s9_21).trans (s9_15).symm, (s10_21).trans (s10_15).symm, rfl⟩)
                   · (first | replace hq_20 := bnt hq_20 | replace hq_20 := bnf hq_20 | replace hq_20 := bt hq_20 | replace hq_20 := bf hq_20 | replace hq_20 := bt' hq_20 | replace hq_20 := bf' hq_20 | skip)
                     first
                     | (cases hq_20; done) | (exfalso; omega)
                     | (
                        refine al_ro' (ro_ld_all h10_ty25 mo3_12 (up_m rfl (u8 rfl s5_15)) (by first | rfl | (rw [flat_map_len (k := 2)] <;> first | omega | (intro _; rfl)))) ⟨_, rfl, hb_20⟩ rfl ?_
                        refine al_ro' (ro_eq (ro_buildA evP_nil h10_bz25 h10_bu25 h10_bp25 rfl) (show _ = AV.agg ((z6.map tE).flatten) from rfl)) ⟨_, rfl, (up_m rfl hb_20)⟩ rfl ?_
                        refine al_ro' (ro_arrne (by intro _; rfl) h10_at25 rfl (by intro _; rfl) heT (by kernel_rfl) (by decide) (up_m rfl up_h) up_h (by first | rfl | assumption | (simp [*]; done)) (by first | rfl | assumption | (simp [*]; done))) ⟨_, rfl, (u2 rfl hb_20)⟩ rfl ?_
                        refine al_ro' (ro_pickF (up_m rfl (u2 rfl hb_20)) up_h) trivial rfl ?_
                        refine al_ro' (ro_move up_h) trivial rfl ?_
                        refine al_case up_h (fun hb_22 hq_22 => ?_) (fun hb_22 hq_22 => ?_)
                        · (first | replace hq_22 := bnt hq_22 | replace hq_22 := bnf hq_22 | replace hq_22 := bt hq_22 | replace hq_22 := bf hq_22 | replace hq_22 := bt' hq_22 | replace hq_22 := bf' hq_22 | skip)
                          first
                          | (cases hq_22; done) | (exfalso; omega)
                          | (
                             refine al_skip' ⟨_, rfl, .inl hb_22⟩ rfl ?_
                             refine al_skip' ⟨_, rfl, .inl (up_m rfl hb_22)⟩ rfl ?_
                             refine al_ro' (ro_pickT (u2 rfl hb_22) ev_c) trivial rfl ?_
                             refine al_end (fun e_23 he_23 => ?_)
                             have s3_23 := ef 3 he_23 (up_m rfl (u16 rfl s3_15))
                             have s9_23 := ef 9 he_23 (up_m rfl (u16 rfl s9_15))
                             have s10_23 := ef 10 he_23 (up_m rfl (u16 rfl s10_15))
                             have s51_23 := ef 51 he_23 up_h
                             clear he_23
                             refine then_n ⟨(s51_23).trans (by (first | rfl | (refine avb ?_; simp [e1, e2]; done) | (refine avb ?_; simp_all; done) | (exfalso; simp_all; done))), (s3_23).trans (s3_15).symm, (s9_23).trans (s9_15).symm, (s10_23).trans (s10_15).symm, rfl⟩)
                        · (first | replace hq_22 := bnt hq_22 | replace hq_22 := bnf hq_22 | replace hq_22 := bt hq_22 | replace hq_22 := bf hq_22 | replace hq_22 := bt' hq_22 | replace hq_22 := bf' hq_22 | skip)
                          first
                          | (cases hq_22; done) | (exfalso; omega)
                          | (
                             refine al_ro' (ro_move (u2 rfl (u4 rfl (u8 rfl s7_15)))) ⟨_, rfl, hb_22⟩ rfl ?_
                             refine al_ro' (ro_neq up_h ev_c) ⟨_, rfl, (up_m rfl hb_22)⟩ rfl ?_
                             refine al_ro' (ro_pickF (u2 rfl hb_22) up_h) trivial rfl ?_
                             refine al_end (fun e_24 he_24 => ?_)
                             have s3_24 := ef 3 he_24 (up_m rfl (u16 rfl s3_15))
                             have s9_24 := ef 9 he_24 (up_m rfl (u16 rfl s9_15))
                             have s10_24 := ef 10 he_24 (up_m rfl (u16 rfl s10_15))
                             have s51_24 := ef 51 he_24 up_h
                             clear he_24
                             refine then_n ⟨(s51_24).trans (by (first | rfl | (refine avb ?_; simp [e1, e2]; done) | (refine avb ?_; simp_all; done) | (exfalso; simp_all; done))), (s3_24).trans (s3_15).symm, (s9_24).trans (s9_15).symm, (s10_24).trans (s10_15).symm, rfl⟩)))
            · rintro e_17 _ ⟨s51_17, k3_17, k9_17, k10_17, rfl⟩
              have s3_17 := k3_17.trans s3_15
              have s9_17 := k9_17.trans s9_15
              have s10_17 := k10_17.trans s10_15
              refine aw_case s51_17 (fun hq_25 => ?_) (fun hq_25 => ?_)
              · (first | replace hq_25 := bnt hq_25 | replace hq_25 := bnf hq_25 | replace hq_25 := bt hq_25 | replace hq_25 := bf hq_25 | replace hq_25 := bt' hq_25 | replace hq_25 := bf' hq_25 | skip)
                first
                | (cases hq_25; done) | (exfalso; omega)
                | (
                   refine aw_seq ?_
                   refine aw_text (by kernel_rfl) ?_
                   refine al_ro' (ro_assign ev_c) trivial rfl ?_
                   refine al_end (fun e_26 he_26 => ?_)
                   have s4_26 := ef 4 he_26 up_h
                   clear he_26 s10_17 s3_17 s51_17 s9_17
                   refine then_n ?_
                   refine aw_ret ?_
                   refine then_r ?_
                   refine ret1 (.inr rfl) (by kernel_rfl) (resV_tmp s4_26) (.ro _ rfl) ?_
                   clear s4_26 mo4_12 mo3_12 mo2_12 mo1_12 mo0_12 ml_12
                   (first | rfl | (simp [g1, g2]; done) | (exfalso; omega)))
              · (first | replace hq_25 := bnt hq_25 | replace hq_25 := bnf hq_25 | replace hq_25 := bt hq_25 | replace hq_25 := bf hq_25 | replace hq_25 := bt' hq_25 | replace hq_25 := bf' hq_25 | skip)
                first
                | (cases hq_25; done) | (exfalso; omega)
                | (
                   refine aw_skip ?_
                   refine then_n ?_
                   refine aw_seq ?_
                   refine aw_text (by kernel_rfl) ?_
                   refine al_ro' (ro_ld_all h10_ty25 mo2_12 s3_17 (by first | rfl | (rw [flat_map_len (k := 2)] <;> first | omega | (intro _; rfl)))) trivial rfl ?_
                   refine al_ro' (ro_call (evL_cons up_h evL_nil) (by first | rfl | (simp only [roO.roL, roO, Bool.and_true, Bool.true_and]; (apply roL_flat; intro _; rfl))) (ordersErr_ok hs hh) h10_hcf16) trivial rfl ?_
                   refine al_ro' (ro_assign up_h) trivial rfl ?_
                   refine al_end (fun e_27 he_27 => ?_)
                   have s3_27 := ef 3 he_27 (up_m rfl (u2 rfl s3_17))
                   have s9_27 := ef 9 he_27 (up_m rfl (u2 rfl s9_17))
                   have s10_27 := ef 10 he_27 (up_m rfl (u2 rfl s10_17))
                   have s12_27 := ef 12 he_27 up_h
                   clear he_27 s10_17 s3_17 s51_17 s9_17
                   refine then_n ?_
                   refine aw_seq ?_
                   refine aw_text (by kernel_rfl) ?_
                   refine al_stm (st_alloc h10_az22 rfl ml_12) trivial rfl (fun m_28 hm_28 => ?_)
                   have mo5_28 : m_28[5]? = some (Ob.box 22 ((i6.map iE).flatten)) := m_push hm_28 ml_12
                   have mo4_28 := m_push_o hm_28 mo4_12
                   have mo3_28 := m_push_o hm_28 mo3_12
                   have mo2_28 := m_push_o hm_28 mo2_12
                   have mo1_28 := m_push_o hm_28 mo1_12
                   have mo0_28 := m_push_o hm_28 mo0_12
                   have ml_28 := m_push_l hm_28 ml_12
                   have ml_28 : _ = 6 := ml_28
                   clear hm_28 mo4_12 mo3_12 mo2_12 mo1_12 mo0_12
                   refine al_end (fun e_29 he_29 => ?_)
                   have s3_29 := ef 3 he_29 (up_m rfl s3_27)
                   have s9_29 := ef 9 he_29 (up_m rfl s9_27)
                   have s10_29 := ef 10 he_29 (up_m rfl s10_27)
                   have s12_29 := ef 12 he_29 (up_m rfl s12_27)
                   have s13_29 := ef 13 he_29 up_h
                   clear he_29 s10_27 s12_27 s3_27 s9_27
                   refine then_n ?_
                   refine aw_seq ?_
                   refine aw_seq ?_
                   refine aw_text (by kernel_rfl) ?_
                   refine al_ro' (ro_move s12_29) trivial rfl ?_
                   refine al_ro' (ro_eql up_h ev_c) trivial rfl ?_
                   refine al_end (fun e_30 he_30 => ?_)
                   have s3_30 := ef 3 he_30 (u2 rfl s3_29)
                   have s9_30 := ef 9 he_30 (u2 rfl s9_29)
                   have s10_30 := ef 10 he_30 (u2 rfl s10_29)
                   have s12_30 := ef 12 he_30 (u2 rfl s12_29)
                   have s13_30 := ef 13 he_30 (u2 rfl s13_29)
                   have s73_30 := ef 73 he_30 up_h
                   clear he_30 s10_29 s12_29 s13_29 s3_29 s9_29
                   refine then_n ?_
                   refine aw_case s73_30 (fun hq_31 => ?_) (fun hq_31 => ?_)
                   · (first | replace hq_31 := bnt hq_31 | replace hq_31 := bnf hq_31 | replace hq_31 := bt hq_31 | replace hq_31 := bf hq_31 | replace hq_31 := bt' hq_31 | replace hq_31 := bf' hq_31 | skip)
                     first
                     | (cases hq_31; done) | (exfalso; omega)
                     | (
                        (have ho : ordE hs = 0 := (by omega); have g1 := (smp_eq ho).1; have g2 := (smp_eq ho).2)
                        refine aw_text (by kernel_rfl) ?_
                        refine al_ro' (ro_ld_all h10_ty25 mo2_28 s3_30 (by first | rfl | (rw [flat_map_len (k := 2)] <;> first | omega | (intro _; rfl)))) trivial rfl ?_
                        refine al_ro' (ro_call (evL_cons up_h evL_nil) (by first | rfl | (simp only [roO.roL, roO, Bool.and_true, Bool.true_and]; (apply roL_flat; intro _; rfl))) (rSamplesOf_ok hs hh ho) h10_hcf17) trivial rfl ?_
                        refine al_ro' (ro_move up_h) trivial rfl ?_
                        refine al_ro' (ro_extract up_h rfl) trivial rfl ?_
                        refine al_ro' (ro_extract (up_m rfl up_h) rfl) trivial rfl ?_
                        refine al_stm (st_store_all (up_m rfl (u4 rfl s13_30)) (up_m rfl up_h) rfl (by first | rfl | (apply oneL_flat; intro _; rfl)) mo5_28 h10_sz22 (by first | rfl | (rw [flat_map_len (k := 1)] <;> first | omega | (intro _; rfl))) (by first | rfl | (rw [flat_map_len (k := 1)] <;> first | omega | (intro _; rfl)))) trivial rfl (fun m_32 hm_32 => ?_)
                        have mo5_32 := m_set hm_32 mo5_28
                        (try simp only [packA_t, packA_f, iE, bE, setAt, cellsA, Value.cells, map_vc, map_vn, Nat.reduceAdd, qS] at mo5_32)
                        have mo4_32 := m_set_o hm_32 mo4_28 (by decide)
                        have mo3_32 := m_set_o hm_32 mo3_28 (by decide)
                        have mo2_32 := m_set_o hm_32 mo2_28 (by decide)
                        have mo1_32 := m_set_o hm_32 mo1_28 (by decide)
                        have mo0_32 := m_set_o hm_32 mo0_28 (by decide)
                        have ml_32 := m_set_l hm_32 ml_28
                        clear hm_32 mo5_28 mo4_28 mo3_28 mo2_28 mo1_28 mo0_28
                        refine al_ro' (ro_assign (up_n up_h)) trivial rfl ?_
                        refine al_end (fun e_33 he_33 => ?_)
                        have s9_33 := ef 9 he_33 (up_m rfl (up_n (up_m rfl (u4 rfl s9_30))))
                        have s10_33 := ef 10 he_33 (up_m rfl (up_n (up_m rfl (u4 rfl s10_30))))
                        have s12_33 := ef 12 he_33 up_h
                        have s13_33 := ef 13 he_33 (up_m rfl (up_n (up_m rfl (u4 rfl s13_30))))
                        clear he_33 s10_30 s12_30 s13_30 s3_30 s73_30 s9_30
                        refine then_n ?_
                        refine aw_seq ?_
                        refine aw_text (by kernel_rfl) ?_
                        refine al_ro' (ro_move s10_33) trivial rfl ?_
                        refine al_ro' (ro_move (up_m rfl s12_33)) trivial rfl ?_
                        refine al_ro' (ro_eql (up_m rfl up_h) up_h) trivial rfl ?_
                        refine al_ro' (ro_move up_h) trivial rfl ?_
                        refine al_case up_h (fun hb_34 hq_34 => ?_) (fun hb_34 hq_34 => ?_)
                        · (first | replace hq_34 := bnt hq_34 | replace hq_34 := bnf hq_34 | replace hq_34 := bt hq_34 | replace hq_34 := bf hq_34 | replace hq_34 := bt' hq_34 | replace hq_34 := bf' hq_34 | skip)
                          first
                          | (cases hq_34; done) | (exfalso; omega)
                          | (
                             refine al_ro' (ro_ld_all h10_ty22 mo4_32 (u4 rfl s9_33) (by first | rfl | (rw [flat_map_len (k := 1)] <;> first | omega | (intro _; rfl)))) ⟨_, rfl, hb_34⟩ rfl ?_
                             refine al_ro' (ro_ld_all h10_ty22 mo5_32 (up_m rfl (u4 rfl s13_33)) (by first | rfl | (rw [flat_map_len (k := 1)] <;> first | omega | (intro _; rfl)))) ⟨_, rfl, (up_m rfl hb_34)⟩ rfl ?_
                             refine al_ro' (ro_arreq (by intro _; rfl) h10_at22 rfl (by intro _; rfl) heI (by kernel_rfl) (by decide) (up_m rfl up_h) up_h (by first | rfl | assumption | (simp [*]; done)) (by first | rfl | assumption | (simp [*]; done))) ⟨_, rfl, (u2 rfl hb_34)⟩ rfl ?_
                             refine al_ro' (ro_pickT (up_m rfl (u2 rfl hb_34)) up_h) trivial rfl ?_
                             refine al_ro' (ro_assign up_h) trivial rfl ?_
                             refine al_end (fun e_35 he_35 => ?_)
                             have s4_35 := ef 4 he_35 up_h
                             clear he_35 hb_34 s10_33 s12_33 s13_33 s9_33
                             refine then_n ?_
                             refine aw_ret ?_
                             refine ret1 (.inr rfl) (by kernel_rfl) (resV_tmp s4_35) (.ro _ rfl) ?_
                             clear s4_35 mo5_32 mo4_32 mo3_32 mo2_32 mo1_32 mo0_32 ml_32
                             (first | rfl | (simp [g1, g2]; done) | (exfalso; omega)))
                        · (first | replace hq_34 := bnt hq_34 | replace hq_34 := bnf hq_34 | replace hq_34 := bt hq_34 | replace hq_34 := bf hq_34 | replace hq_34 := bt' hq_34 | replace hq_34 := bf' hq_34 | skip)
                          first
                          | (cases hq_34; done) | (exfalso; omega)
                          | (
                             refine al_skip' ⟨_, rfl, .inl hb_34⟩ rfl ?_
                             refine al_skip' ⟨_, rfl, .inl (up_m rfl hb_34)⟩ rfl ?_
                             refine al_skip' ⟨_, rfl, .inl (u2 rfl hb_34)⟩ rfl ?_
                             refine al_ro' (ro_pickF (up_m rfl (u2 rfl hb_34)) ev_c) trivial rfl ?_
                             refine al_ro' (ro_assign up_h) trivial rfl ?_
                             refine al_end (fun e_36 he_36 => ?_)
                             have s4_36 := ef 4 he_36 up_h
                             clear he_36 hb_34 s10_33 s12_33 s13_33 s9_33
                             refine then_n ?_
                             refine aw_ret ?_
                             refine ret1 (.inr rfl) (by kernel_rfl) (resV_tmp s4_36) (.ro _ rfl) ?_
                             clear s4_36 mo5_32 mo4_32 mo3_32 mo2_32 mo1_32 mo0_32 ml_32
                             (first | rfl | (simp [g1, g2]; done) | (exfalso; omega))))
                   · (first | replace hq_31 := bnt hq_31 | replace hq_31 := bnf hq_31 | replace hq_31 := bt hq_31 | replace hq_31 := bf hq_31 | replace hq_31 := bt' hq_31 | replace hq_31 := bf' hq_31 | skip)
                     first
                     | (cases hq_31; done) | (exfalso; omega)
                     | (
                        (have ho : ¬ ordE hs = 0 := (by omega); have g1 := (smp_ne ho).1; have g2 := (smp_ne ho).2)
                        refine aw_skip ?_
                        refine then_n ?_
                        refine aw_seq ?_
                        refine aw_text (by kernel_rfl) ?_
                        refine al_ro' (ro_move s10_30) trivial rfl ?_
                        refine al_ro' (ro_move (up_m rfl s12_30)) trivial rfl ?_
                        refine al_ro' (ro_eql (up_m rfl up_h) up_h) trivial rfl ?_
                        refine al_ro' (ro_move up_h) trivial rfl ?_
                        refine al_case up_h (fun hb_37 hq_37 => ?_) (fun hb_37 hq_37 => ?_)
                        · (first | replace hq_37 := bnt hq_37 | replace hq_37 := bnf hq_37 | replace hq_37 := bt hq_37 | replace hq_37 := bf hq_37 | replace hq_37 := bt' hq_37 | replace hq_37 := bf' hq_37 | skip)
                          first
                          | (cases hq_37; done) | (exfalso; omega)
                          | (
                             refine al_ro' (ro_ld_all h10_ty22 mo4_28 (u4 rfl s9_30) (by first | rfl | (rw [flat_map_len (k := 1)] <;> first | omega | (intro _; rfl)))) ⟨_, rfl, hb_37⟩ rfl ?_
                             refine al_ro' (ro_ld_all h10_ty22 mo5_28 (up_m rfl (u4 rfl s13_30)) (by first | rfl | (rw [flat_map_len (k := 1)] <;> first | omega | (intro _; rfl)))) ⟨_, rfl, (up_m rfl hb_37)⟩ rfl ?_
                             refine al_ro' (ro_arreq (by intro _; rfl) h10_at22 rfl (by intro _; rfl) heI (by kernel_rfl) (by decide) (up_m rfl up_h) up_h (by first | rfl | assumption | (simp [*]; done)) (by first | rfl | assumption | (simp [*]; done))) ⟨_, rfl, (u2 rfl hb_37)⟩ rfl ?_
                             refine al_ro' (ro_pickT (up_m rfl (u2 rfl hb_37)) up_h) trivial rfl ?_
                             refine al_ro' (ro_assign up_h) trivial rfl ?_
                             refine al_end (fun e_38 he_38 => ?_)
                             have s4_38 := ef 4 he_38 up_h
                             clear he_38 hb_37 s10_30 s12_30 s13_30 s3_30 s73_30 s9_30
                             refine then_n ?_
                             refine aw_ret ?_
                             refine ret1 (.inr rfl) (by kernel_rfl) (resV_tmp s4_38) (.ro _ rfl) ?_
                             clear s4_38 mo5_28 mo4_28 mo3_28 mo2_28 mo1_28 mo0_28 ml_28
                             (first | rfl | (simp [g1, g2]; done) | (exfalso; omega)))
                        · (first | replace hq_37 := bnt hq_37 | replace hq_37 := bnf hq_37 | replace hq_37 := bt hq_37 | replace hq_37 := bf hq_37 | replace hq_37 := bt' hq_37 | replace hq_37 := bf' hq_37 | skip)
                          first
                          | (cases hq_37; done) | (exfalso; omega)
                          | (
                             refine al_skip' ⟨_, rfl, .inl hb_37⟩ rfl ?_
                             refine al_skip' ⟨_, rfl, .inl (up_m rfl hb_37)⟩ rfl ?_
                             refine al_skip' ⟨_, rfl, .inl (u2 rfl hb_37)⟩ rfl ?_
                             refine al_ro' (ro_pickF (up_m rfl (u2 rfl hb_37)) ev_c) trivial rfl ?_
                             refine al_ro' (ro_assign up_h) trivial rfl ?_
                             refine al_end (fun e_39 he_39 => ?_)
                             have s4_39 := ef 4 he_39 up_h
                             clear he_39 hb_37 s10_30 s12_30 s13_30 s3_30 s73_30 s9_30
                             refine then_n ?_
                             refine aw_ret ?_
                             refine ret1 (.inr rfl) (by kernel_rfl) (resV_tmp s4_39) (.ro _ rfl) ?_
                             clear s4_39 mo5_28 mo4_28 mo3_28 mo2_28 mo1_28 mo0_28 ml_28
                             (first | rfl | (simp [g1, g2]; done) | (exfalso; omega))))))
       · (first | replace hq_16 := bnt hq_16 | replace hq_16 := bnf hq_16 | replace hq_16 := bt hq_16 | replace hq_16 := bf hq_16 | replace hq_16 := bt' hq_16 | replace hq_16 := bf' hq_16 | skip)
         first
         | (cases hq_16; done) | (exfalso; omega)
         | (
            (have hz : phasesE xs = 0 := (by omega); have e1 : ordR xs = ordW xs := (by unfold ordR; rw [if_pos hz]); have e2 : enR xs = enS xs 6 := (by unfold enR; rw [if_pos hz]))
            refine aw_seq ?_
            refine aw_cut (fun e mem => (evA e (.tmp 69) = .v (.bool false)) ∧ (evA e (.tmp 3) = evA e_15 (.tmp 3)) ∧ (evA e (.tmp 9) = evA e_15 (.tmp 9)) ∧ (evA e (.tmp 10) = evA e_15 (.tmp 10)) ∧ m_12 = mem) ?_ ?_
            ·
              refine aw_draw 18 (by kernel_rfl) (by kernel_rfl) (by kernel_rfl) (by kernel_rfl) ?_
              refine ds_ro' (ro_move s6_15) trivial rfl ?_
              refine ds_ro' (ro_neq up_h ev_c) trivial rfl ?_
              refine ds_ro' (ro_move up_h) trivial rfl ?_
              refine ds_case up_h (fun hb_41 hq_41 => ?_) (fun hb_41 hq_41 => ?_)
              · (first | replace hq_41 := bnt hq_41 | replace hq_41 := bnf hq_41 | replace hq_41 := bt hq_41 | replace hq_41 := bf hq_41 | replace hq_41 := bt' hq_41 | replace hq_41 := bf' hq_41 | skip)
                first
                | (cases hq_41; done) | (exfalso; omega)
                | (
                   refine ds_skip' ⟨_, rfl, .inl hb_41⟩ rfl ?_
                   refine ds_skip' ⟨_, rfl, .inl (up_m rfl hb_41)⟩ rfl ?_
                   refine ds_skip' ⟨_, rfl, .inl (u2 rfl hb_41)⟩ rfl ?_
                   refine ds_skip' ⟨_, rfl, .inl (up_m rfl (u2 rfl hb_41))⟩ rfl ?_
                   refine ds_ro' (ro_pickT (u4 rfl hb_41) ev_c) trivial rfl ?_
                   refine ds_ro' (ro_move up_h) trivial rfl ?_
                   refine ds_skip' ⟨_, rfl, .inl up_h⟩ rfl ?_
                   refine ds_skip' ⟨_, rfl, .inl (up_m rfl up_h)⟩ rfl ?_
                   refine ds_ro' (ro_pickT (u2 rfl up_h) ev_c) trivial rfl ?_
                   refine ds_ro' (ro_move up_h) trivial rfl ?_
                   refine ds_skip' ⟨_, rfl, .inl up_h⟩ rfl ?_
                   refine ds_skip' ⟨_, rfl, .inl (up_m rfl up_h)⟩ rfl ?_
                   refine ds_skip' ⟨_, rfl, .inl (u2 rfl up_h)⟩ rfl ?_
                   refine ds_skip' ⟨_, rfl, .inl (up_m rfl (u2 rfl up_h))⟩ rfl ?_
                   refine ds_ro' (ro_pickT (u4 rfl up_h) ev_c) trivial rfl ?_
                   refine ds_nil ?_
                   refine al_end (fun e_42 he_42 => ?_)
                   have s3_42 := ef 3 he_42 (u2 rfl (u16 rfl s3_15))
                   have s9_42 := ef 9 he_42 (u2 rfl (u16 rfl s9_15))
                   have s10_42 := ef 10 he_42 (u2 rfl (u16 rfl s10_15))
                   have s69_42 := ef 69 he_42 up_h
                   clear he_42
                   refine then_n ⟨(s69_42).trans (by (first | rfl | (refine avb ?_; simp [e1, e2, hz]; done) | (refine avb ?_; simp_all; done) | (exfalso; simp_all; done))), (s3_42).trans (s3_15).symm, (s9_42).trans (s9_15).symm, (s10_42).trans (s10_15).symm, rfl⟩)
              · (first | replace hq_41 := bnt hq_41 | replace hq_41 := bnf hq_41 | replace hq_41 := bt hq_41 | replace hq_41 := bf hq_41 | replace hq_41 := bt' hq_41 | replace hq_41 := bf' hq_41 | skip)
                first
                | (cases hq_41; done) | (exfalso; omega)
                | (
                   refine ds_ro' (ro_ld_all h10_ty25 mo3_12 (up_m rfl (u2 rfl s5_15)) (by first | rfl | (rw [flat_map_len (k := 2)] <;> first | omega | (intro _; rfl)))) ⟨_, rfl, hb_41⟩ rfl ?_
                   refine ds_ro' (ro_ld_all h10_ty22 mo1_12 (u4 rfl s2_15) (by first | rfl | (rw [flat_map_len (k := 1)] <;> first | omega | (intro _; rfl)))) ⟨_, rfl, (up_m rfl hb_41)⟩ rfl ?_
                   refine ds_ro' (ro_call (evL_cons up_h evL_nil) (by first | rfl | (simp only [roO.roL, roO, Bool.and_true, Bool.true_and]; (apply roL_flat; intro _; rfl))) (rOrdersOf_ok xs hx hz) h10_hcf14) ⟨_, rfl, (u2 rfl hb_41)⟩ rfl ?_
                   refine ds_ro' (ro_arrne (by intro _; rfl) h10_at25 rfl (by intro _; rfl) heT (by kernel_rfl) (by decide) (u2 rfl up_h) up_h (by first | rfl | assumption | (simp [*]; done)) (by first | rfl | assumption | (simp [*]; done))) ⟨_, rfl, (up_m rfl (u2 rfl hb_41))⟩ rfl ?_
                   refine ds_ro' (ro_pickF (u4 rfl hb_41) up_h) trivial rfl ?_
                   refine ds_ro' (ro_move up_h) trivial rfl ?_
                   refine ds_case up_h (fun hb_43 hq_43 => ?_) (fun hb_43 hq_43 => ?_)
                   · (first | replace hq_43 := bnt hq_43 | replace hq_43 := bnf hq_43 | replace hq_43 := bt hq_43 | replace hq_43 := bf hq_43 | replace hq_43 := bt' hq_43 | replace hq_43 := bf' hq_43 | skip)
                     first
                     | (cases hq_43; done) | (exfalso; omega)
                     | (
                        refine ds_skip' ⟨_, rfl, .inl hb_43⟩ rfl ?_
                        refine ds_skip' ⟨_, rfl, .inl (up_m rfl hb_43)⟩ rfl ?_
                        refine ds_ro' (ro_pickT (u2 rfl hb_43) ev_c) trivial rfl ?_
                        refine ds_ro' (ro_move up_h) trivial rfl ?_
                        refine ds_skip' ⟨_, rfl, .inl up_h⟩ rfl ?_
                        refine ds_skip' ⟨_, rfl, .inl (up_m rfl up_h)⟩ rfl ?_
                        refine ds_skip' ⟨_, rfl, .inl (u2 rfl up_h)⟩ rfl ?_
                        refine ds_skip' ⟨_, rfl, .inl (up_m rfl (u2 rfl up_h))⟩ rfl ?_
                        refine ds_ro' (ro_pickT (u4 rfl up_h) ev_c) trivial rfl ?_
                        refine ds_nil ?_
                        refine al_end (fun e_44 he_44 => ?_)
                        have s3_44 := ef 3 he_44 (u2 rfl (u16 rfl s3_15))
                        have s9_44 := ef 9 he_44 (u2 rfl (u16 rfl s9_15))
                        have s10_44 := ef 10 he_44 (u2 rfl (u16 rfl s10_15))
                        have s69_44 := ef 69 he_44 up_h
                        clear he_44
                        refine then_n ⟨(s69_44).trans (by (first | rfl | (refine avb ?_; simp [e1, e2, hz]; done) | (refine avb ?_; simp_all; done) | (exfalso; simp_all; done))), (s3_44).trans (s3_15).symm, (s9_44).trans (s9_15).symm, (s10_44).trans (s10_15).symm, rfl⟩)
                   · (first | replace hq_43 := bnt hq_43 | replace hq_43 := bnf hq_43 | replace hq_43 := bt hq_43 | replace hq_43 := bf hq_43 | replace hq_43 := bt' hq_43 | replace hq_43 := bf' hq_43 | skip)
                     first
                     | (cases hq_43; done) | (exfalso; omega)
                     | (
                        refine ds_ro' (ro_move (up_m rfl (u8 rfl s8_15))) ⟨_, rfl, hb_43⟩ rfl ?_
                        refine ds_ro' (ro_neq up_h ev_c) ⟨_, rfl, (up_m rfl hb_43)⟩ rfl ?_
                        refine ds_ro' (ro_pickF (u2 rfl hb_43) up_h) trivial rfl ?_
                        refine ds_ro' (ro_move up_h) trivial rfl ?_
                        refine ds_case up_h (fun hb_45 hq_45 => ?_) (fun hb_45 hq_45 => ?_)
                        · (first | replace hq_45 := bnt hq_45 | replace hq_45 := bnf hq_45 | replace hq_45 := bt hq_45 | replace hq_45 := bf hq_45 | replace hq_45 := bt' hq_45 | replace hq_45 := bf' hq_45 | skip)
                          first
                          | (cases hq_45; done) | (exfalso; omega)
                          | (
                             refine ds_skip' ⟨_, rfl, .inl hb_45⟩ rfl ?_
                             refine ds_skip' ⟨_, rfl, .inl (up_m rfl hb_45)⟩ rfl ?_
                             refine ds_skip' ⟨_, rfl, .inl (u2 rfl hb_45)⟩ rfl ?_
                             refine ds_skip' ⟨_, rfl, .inl (up_m rfl (u2 rfl hb_45))⟩ rfl ?_
                             refine ds_ro' (ro_pickT (u4 rfl hb_45) ev_c) trivial rfl ?_
                             refine ds_nil ?_
                             refine al_end (fun e_46 he_46 => ?_)
                             have s3_46 := ef 3 he_46 (u2 rfl (u16 rfl s3_15))
                             have s9_46 := ef 9 he_46 (u2 rfl (u16 rfl s9_15))
                             have s10_46 := ef 10 he_46 (u2 rfl (u16 rfl s10_15))
                             have s69_46 := ef 69 he_46 up_h
                             clear he_46
                             refine then_n ⟨(s69_46).trans (by (first | rfl | (refine avb ?_; simp [e1, e2, hz]; done) | (refine avb ?_; simp_all; done) | (exfalso; simp_all; done))), (s3_46).trans (s3_15).symm, (s9_46).trans (s9_15).symm, (s10_46).trans (s10_15).symm, rfl⟩)
                        · (first | replace hq_45 := bnt hq_45 | replace hq_45 := bnf hq_45 | replace hq_45 := bt hq_45 | replace hq_45 := bf hq_45 | replace hq_45 := bt' hq_45 | replace hq_45 := bf' hq_45 | skip)
                          first
                          | (cases hq_45; done) | (exfalso; omega)
                          | (
                             refine ds_ro' (ro_move (up_m rfl (u4 rfl (u8 rfl s7_15)))) ⟨_, rfl, hb_45⟩ rfl ?_
                             refine ds_ro' (ro_ld_all h10_ty22 mo1_12 (u2 rfl (u4 rfl (u8 rfl s2_15))) (by first | rfl | (rw [flat_map_len (k := 1)] <;> first | omega | (intro _; rfl)))) ⟨_, rfl, (up_m rfl hb_45)⟩ rfl ?_
                             refine ds_ro' (ro_call (evL_cons up_h evL_nil) (by first | rfl | (simp only [roO.roL, roO, Bool.and_true, Bool.true_and]; (apply roL_flat; intro _; rfl))) (rEnergyOf_ok xs hx hz) h10_hcf15) ⟨_, rfl, (u2 rfl hb_45)⟩ rfl ?_
                             refine ds_ro' (ro_neq (u2 rfl up_h) up_h) ⟨_, rfl, (up_m rfl (u2 rfl hb_45))⟩ rfl ?_
                             refine ds_ro' (ro_pickF (u4 rfl hb_45) up_h) trivial rfl ?_
                             refine ds_nil ?_
                             refine al_end (fun e_47 he_47 => ?_)
                             have s3_47 := ef 3 he_47 (u2 rfl (u16 rfl s3_15))
                             have s9_47 := ef 9 he_47 (u2 rfl (u16 rfl s9_15))
                             have s10_47 := ef 10 he_47 (u2 rfl (u16 rfl s10_15))
                             have s69_47 := ef 69 he_47 up_h
                             clear he_47
                             refine then_n ⟨(s69_47).trans (by (first | rfl | (refine avb ?_; simp [e1, e2, hz]; done) | (refine avb ?_; simp_all; done) | (exfalso; simp_all; done))), (s3_47).trans (s3_15).symm, (s9_47).trans (s9_15).symm, (s10_47).trans (s10_15).symm, rfl⟩)))
            · rintro e_40 _ ⟨s69_40, k3_40, k9_40, k10_40, rfl⟩
              have s3_40 := k3_40.trans s3_15
              have s9_40 := k9_40.trans s9_15
              have s10_40 := k10_40.trans s10_15
              refine aw_case s69_40 (fun hq_48 => ?_) (fun hq_48 => ?_)
              · (first | replace hq_48 := bnt hq_48 | replace hq_48 := bnf hq_48 | replace hq_48 := bt hq_48 | replace hq_48 := bf hq_48 | replace hq_48 := bt' hq_48 | replace hq_48 := bf' hq_48 | skip)
                first
                | (cases hq_48; done) | (exfalso; omega)
                | (
                   refine aw_seq ?_
                   refine aw_text (by kernel_rfl) ?_
                   refine al_ro' (ro_assign ev_c) trivial rfl ?_
                   refine al_end (fun e_49 he_49 => ?_)
                   have s4_49 := ef 4 he_49 up_h
                   clear he_49 s10_40 s3_40 s69_40 s9_40
                   refine then_n ?_
                   refine aw_ret ?_
                   refine then_r ?_
                   refine ret1 (.inr rfl) (by kernel_rfl) (resV_tmp s4_49) (.ro _ rfl) ?_
                   clear s4_49 mo4_12 mo3_12 mo2_12 mo1_12 mo0_12 ml_12
                   (first | rfl | (simp [g1, g2]; done) | (exfalso; omega)))
              · (first | replace hq_48 := bnt hq_48 | replace hq_48 := bnf hq_48 | replace hq_48 := bt hq_48 | replace hq_48 := bf hq_48 | replace hq_48 := bt' hq_48 | replace hq_48 := bf' hq_48 | skip)
                first
                | (cases hq_48; done) | (exfalso; omega)
                | (
                   refine aw_skip ?_
                   refine then_n ?_
                   refine aw_seq ?_
                   refine aw_text (by kernel_rfl) ?_
                   refine al_ro' (ro_ld_all h10_ty25 mo2_12 s3_40 (by first | rfl | (rw [flat_map_len (k := 2)] <;> first | omega | (intro _; rfl)))) trivial rfl ?_
                   refine al_ro' (ro_call (evL_cons up_h evL_nil) (by first | rfl | (simp only [roO.roL, roO, Bool.and_true, Bool.true_and]; (apply roL_flat; intro _; rfl))) (ordersErr_ok hs hh) h10_hcf16) trivial rfl ?_
                   refine al_ro' (ro_assign up_h) trivial rfl ?_
                   refine al_end (fun e_50 he_50 => ?_)
                   have s3_50 := ef 3 he_50 (up_m rfl (u2 rfl s3_40))
                   have s9_50 := ef 9 he_50 (up_m rfl (u2 rfl s9_40))
                   have s10_50 := ef 10 he_50 (up_m rfl (u2 rfl s10_40))
                   have s12_50 := ef 12 he_50 up_h
                   clear he_50 s10_40 s3_40 s69_40 s9_40
                   refine then_n ?_
                   refine aw_seq ?_
                   refine aw_text (by kernel_rfl) ?_
                   refine al_stm (st_alloc h10_az22 rfl ml_12) trivial rfl (fun m_51 hm_51 => ?_)
                   have mo5_51 : m_51[5]? = some (Ob.box 22 ((i6.map iE).flatten)) := m_push hm_51 ml_12
                   have mo4_51 := m_push_o hm_51 mo4_12
                   have mo3_51 := m_push_o hm_51 mo3_12
                   have mo2_51 := m_push_o hm_51 mo2_12
                   have mo1_51 := m_push_o hm_51 mo1_12
                   have mo0_51 := m_push_o hm_51 mo0_12
                   have ml_51 := m_push_l hm_51 ml_12
                   have ml_51 : _ = 6 := ml_51
                   clear hm_51 mo4_12 mo3_12 mo2_12 mo1_12 mo0_12
                   refine al_end (fun e_52 he_52 => ?_)
                   have s3_52 := ef 3 he_52 (up_m rfl s3_50)
                   have s9_52 := ef 9 he_52 (up_m rfl s9_50)
                   have s10_52 := ef 10 he_52 (up_m rfl s10_50)
                   have s12_52 := ef 12 he_52 (up_m rfl s12_50)
                   have s13_52 := ef 13 he_52 up_h
                   clear he_52 s10_50 s12_50 s3_50 s9_50
                   refine then_n ?_
                   refine aw_seq ?_
                   refine aw_seq ?_
                   refine aw_text (by kernel_rfl) ?_
                   refine al_ro' (ro_move s12_52) trivial rfl ?_
                   refine al_ro' (ro_eql up_h ev_c) trivial rfl ?_
                   refine al_end (fun e_53 he_53 => ?_)
                   have s3_53 := ef 3 he_53 (u2 rfl s3_52)
                   have s9_53 := ef 9 he_53 (u2 rfl s9_52)
                   have s10_53 := ef 10 he_53 (u2 rfl s10_52)
                   have s12_53 := ef 12 he_53 (u2 rfl s12_52)
                   have s13_53 := ef 13 he_53 (u2 rfl s13_52)
                   have s73_53 := ef 73 he_53 up_h
                   clear he_53 s10_52 s12_52 s13_52 s3_52 s9_52
                   refine then_n ?_
                   refine aw_case s73_53 (fun hq_54 => ?_) (fun hq_54 => ?_)
                   · (first | replace hq_54 := bnt hq_54 | replace hq_54 := bnf hq_54 | replace hq_54 := bt hq_54 | replace hq_54 := bf hq_54 | replace hq_54 := bt' hq_54 | replace hq_54 := bf' hq_54 | skip)
                     first
                     | (cases hq_54; done) | (exfalso; omega)
                     | (
                        (have ho : ordE hs = 0 := (by omega); have g1 := (smp_eq ho).1; have g2 := (smp_eq ho).2)
                        refine aw_text (by kernel_rfl) ?_
                        refine al_ro' (ro_ld_all h10_ty25 mo2_51 s3_53 (by first | rfl | (rw [flat_map_len (k := 2)] <;> first | omega | (intro _; rfl)))) trivial rfl ?_
                        refine al_ro' (ro_call (evL_cons up_h evL_nil) (by first | rfl | (simp only [roO.roL, roO, Bool.and_true, Bool.true_and]; (apply roL_flat; intro _; rfl))) (rSamplesOf_ok hs hh ho) h10_hcf17) trivial rfl ?_
                        refine al_ro' (ro_move up_h) trivial rfl ?_
                        refine al_ro' (ro_extract up_h rfl) trivial rfl ?_
                        refine al_ro' (ro_extract (up_m rfl up_h) rfl) trivial rfl ?_
                        refine al_stm (st_store_all (up_m rfl (u4 rfl s13_53)) (up_m rfl up_h) rfl (by first | rfl | (apply oneL_flat; intro _; rfl)) mo5_51 h10_sz22 (by first | rfl | (rw [flat_map_len (k := 1)] <;> first | omega | (intro _; rfl))) (by first | rfl | (rw [flat_map_len (k := 1)] <;> first | omega | (intro _; rfl)))) trivial rfl (fun m_55 hm_55 => ?_)
                        have mo5_55 := m_set hm_55 mo5_51
                        (try simp only [packA_t, packA_f, iE, bE, setAt, cellsA, Value.cells, map_vc, map_vn, Nat.reduceAdd, qS] at mo5_55)
                        have mo4_55 := m_set_o hm_55 mo4_51 (by decide)
                        have mo3_55 := m_set_o hm_55 mo3_51 (by decide)
                        have mo2_55 := m_set_o hm_55 mo2_51 (by decide)
                        have mo1_55 := m_set_o hm_55 mo1_51 (by decide)
                        have mo0_55 := m_set_o hm_55 mo0_51 (by decide)
                        have ml_55 := m_set_l hm_55 ml_51
                        clear hm_55 mo5_51 mo4_51 mo3_51 mo2_51 mo1_51 mo0_51
                        refine al_ro' (ro_assign (up_n up_h)) trivial rfl ?_
                        refine al_end (fun e_56 he_56 => ?_)
                        have s9_56 := ef 9 he_56 (up_m rfl (up_n (up_m rfl (u4 rfl s9_53))))
                        have s10_56 := ef 10 he_56 (up_m rfl (up_n (up_m rfl (u4 rfl s10_53))))
                        have s12_56 := ef 12 he_56 up_h
                        have s13_56 := ef 13 he_56 (up_m rfl (up_n (up_m rfl (u4 rfl s13_53))))
                        clear he_56 s10_53 s12_53 s13_53 s3_53 s73_53 s9_53
                        refine then_n ?_
                        refine aw_seq ?_
                        refine aw_text (by kernel_rfl) ?_
                        refine al_ro' (ro_move s10_56) trivial rfl ?_
                        refine al_ro' (ro_move (up_m rfl s12_56)) trivial rfl ?_
                        refine al_ro' (ro_eql (up_m rfl up_h) up_h) trivial rfl ?_
                        refine al_ro' (ro_move up_h) trivial rfl ?_
                        refine al_case up_h (fun hb_57 hq_57 => ?_) (fun hb_57 hq_57 => ?_)
                        · (first | replace hq_57 := bnt hq_57 | replace hq_57 := bnf hq_57 | replace hq_57 := bt hq_57 | replace hq_57 := bf hq_57 | replace hq_57 := bt' hq_57 | replace hq_57 := bf' hq_57 | skip)
                          first
                          | (cases hq_57; done) | (exfalso; omega)
                          | (
                             refine al_ro' (ro_ld_all h10_ty22 mo4_55 (u4 rfl s9_56) (by first | rfl | (rw [flat_map_len (k := 1)] <;> first | omega | (intro _; rfl)))) ⟨_, rfl, hb_57⟩ rfl ?_
                             refine al_ro' (ro_ld_all h10_ty22 mo5_55 (up_m rfl (u4 rfl s13_56)) (by first | rfl | (rw [flat_map_len (k := 1)] <;> first | omega | (intro _; rfl)))) ⟨_, rfl, (up_m rfl hb_57)⟩ rfl ?_
                             refine al_ro' (ro_arreq (by intro _; rfl) h10_at22 rfl (by intro _; rfl) heI (by kernel_rfl) (by decide) (up_m rfl up_h) up_h (by first | rfl | assumption | (simp [*]; done)) (by first | rfl | assumption | (simp [*]; done))) ⟨_, rfl, (u2 rfl hb_57)⟩ rfl ?_
                             refine al_ro' (ro_pickT (up_m rfl (u2 rfl hb_57)) up_h) trivial rfl ?_
                             refine al_ro' (ro_assign up_h) trivial rfl ?_
                             refine al_end (fun e_58 he_58 => ?_)
                             have s4_58 := ef 4 he_58 up_h
                             clear he_58 hb_57 s10_56 s12_56 s13_56 s9_56
                             refine then_n ?_
                             refine aw_ret ?_
                             refine ret1 (.inr rfl) (by kernel_rfl) (resV_tmp s4_58) (.ro _ rfl) ?_
                             clear s4_58 mo5_55 mo4_55 mo3_55 mo2_55 mo1_55 mo0_55 ml_55
                             (first | rfl | (simp [g1, g2]; done) | (exfalso; omega)))
                        · (first | replace hq_57 := bnt hq_57 | replace hq_57 := bnf hq_57 | replace hq_57 := bt hq_57 | replace hq_57 := bf hq_57 | replace hq_57 := bt' hq_57 | replace hq_57 := bf' hq_57 | skip)
                          first
                          | (cases hq_57; done) | (exfalso; omega)
                          | (
                             refine al_skip' ⟨_, rfl, .inl hb_57⟩ rfl ?_
                             refine al_skip' ⟨_, rfl, .inl (up_m rfl hb_57)⟩ rfl ?_
                             refine al_skip' ⟨_, rfl, .inl (u2 rfl hb_57)⟩ rfl ?_
                             refine al_ro' (ro_pickF (up_m rfl (u2 rfl hb_57)) ev_c) trivial rfl ?_
                             refine al_ro' (ro_assign up_h) trivial rfl ?_
                             refine al_end (fun e_59 he_59 => ?_)
                             have s4_59 := ef 4 he_59 up_h
                             clear he_59 hb_57 s10_56 s12_56 s13_56 s9_56
                             refine then_n ?_
                             refine aw_ret ?_
                             refine ret1 (.inr rfl) (by kernel_rfl) (resV_tmp s4_59) (.ro _ rfl) ?_
                             clear s4_59 mo5_55 mo4_55 mo3_55 mo2_55 mo1_55 mo0_55 ml_55
                             (first | rfl | (simp [g1, g2]; done) | (exfalso; omega))))
                   · (first | replace hq_54 := bnt hq_54 | replace hq_54 := bnf hq_54 | replace hq_54 := bt hq_54 | replace hq_54 := bf hq_54 | replace hq_54 := bt' hq_54 | replace hq_54 := bf' hq_54 | skip)
                     first
                     | (cases hq_54; done) | (exfalso; omega)
                     | (
                        (have ho : ¬ ordE hs = 0 := (by omega); have g1 := (smp_ne ho).1; have g2 := (smp_ne ho).2)
                        refine aw_skip ?_
                        refine then_n ?_
                        refine aw_seq ?_
                        refine aw_text (by kernel_rfl) ?_
                        refine al_ro' (ro_move s10_53) trivial rfl ?_
                        refine al_ro' (ro_move (up_m rfl s12_53)) trivial rfl ?_
                        refine al_ro' (ro_eql (up_m rfl up_h) up_h) trivial rfl ?_
                        refine al_ro' (ro_move up_h) trivial rfl ?_
                        refine al_case up_h (fun hb_60 hq_60 => ?_) (fun hb_60 hq_60 => ?_)
                        · (first | replace hq_60 := bnt hq_60 | replace hq_60 := bnf hq_60 | replace hq_60 := bt hq_60 | replace hq_60 := bf hq_60 | replace hq_60 := bt' hq_60 | replace hq_60 := bf' hq_60 | skip)
                          first
                          | (cases hq_60; done) | (exfalso; omega)
                          | (
                             refine al_ro' (ro_ld_all h10_ty22 mo4_51 (u4 rfl s9_53) (by first | rfl | (rw [flat_map_len (k := 1)] <;> first | omega | (intro _; rfl)))) ⟨_, rfl, hb_60⟩ rfl ?_
                             refine al_ro' (ro_ld_all h10_ty22 mo5_51 (up_m rfl (u4 rfl s13_53)) (by first | rfl | (rw [flat_map_len (k := 1)] <;> first | omega | (intro _; rfl)))) ⟨_, rfl, (up_m rfl hb_60)⟩ rfl ?_
                             refine al_ro' (ro_arreq (by intro _; rfl) h10_at22 rfl (by intro _; rfl) heI (by kernel_rfl) (by decide) (up_m rfl up_h) up_h (by first | rfl | assumption | (simp [*]; done)) (by first | rfl | assumption | (simp [*]; done))) ⟨_, rfl, (u2 rfl hb_60)⟩ rfl ?_
                             refine al_ro' (ro_pickT (up_m rfl (u2 rfl hb_60)) up_h) trivial rfl ?_
                             refine al_ro' (ro_assign up_h) trivial rfl ?_
                             refine al_end (fun e_61 he_61 => ?_)
                             have s4_61 := ef 4 he_61 up_h
                             clear he_61 hb_60 s10_53 s12_53 s13_53 s3_53 s73_53 s9_53
                             refine then_n ?_
                             refine aw_ret ?_
                             refine ret1 (.inr rfl) (by kernel_rfl) (resV_tmp s4_61) (.ro _ rfl) ?_
                             clear s4_61 mo5_51 mo4_51 mo3_51 mo2_51 mo1_51 mo0_51 ml_51
                             (first | rfl | (simp [g1, g2]; done) | (exfalso; omega)))
                        · (first | replace hq_60 := bnt hq_60 | replace hq_60 := bnf hq_60 | replace hq_60 := bt hq_60 | replace hq_60 := bf hq_60 | replace hq_60 := bt' hq_60 | replace hq_60 := bf' hq_60 | skip)
                          first
                          | (cases hq_60; done) | (exfalso; omega)
                          | (
                             refine al_skip' ⟨_, rfl, .inl hb_60⟩ rfl ?_
                             refine al_skip' ⟨_, rfl, .inl (up_m rfl hb_60)⟩ rfl ?_
                             refine al_skip' ⟨_, rfl, .inl (u2 rfl hb_60)⟩ rfl ?_
                             refine al_ro' (ro_pickF (up_m rfl (u2 rfl hb_60)) ev_c) trivial rfl ?_
                             refine al_ro' (ro_assign up_h) trivial rfl ?_
                             refine al_end (fun e_62 he_62 => ?_)
                             have s4_62 := ef 4 he_62 up_h
                             clear he_62 hb_60 s10_53 s12_53 s13_53 s3_53 s73_53 s9_53
                             refine then_n ?_
                             refine aw_ret ?_
                             refine ret1 (.inr rfl) (by kernel_rfl) (resV_tmp s4_62) (.ro _ rfl) ?_
                             clear s4_62 mo5_51 mo4_51 mo3_51 mo2_51 mo1_51 mo0_51 ml_51
                             (first | rfl | (simp [g1, g2]; done) | (exfalso; omega)))))))
end Go.Proofs.YtgiiedpambimoaaDoor
