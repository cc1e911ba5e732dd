/- The law of the top on vanes and wheels. No conditions on a program. -/
import Derived.Test.YtgiiedpambimoaaQ8
import Derived.Test.YtgiiedpambimoaaA20
namespace Go.Proofs.Ytgiiedpambimoaa
open Go Go.RowKit Go.Proofs
set_option linter.unusedSimpArgs false
set_option linter.unusedVariables false
theorem q9_az24 : (Try.prog.info? 24).bind (·.zero) = some (.agg #[.slice none 0 0, .int .i64 0, .int .i64 0, .int .i64 0, .int .i64 0, .int .i64 0, .int .i64 0, .int .i64 0, .bool false]) := by kernel_rfl
theorem q9_az32 : (Try.prog.info? 32).bind (·.zero) = some (.agg #[.int .i64 0, .int .i64 0]) := by kernel_rfl
theorem q9_az42 : (Try.prog.info? 42).bind (·.zero) = some (.agg #[.int .i64 0, .int .i64 0]) := by kernel_rfl
theorem q9_bz32 : (Try.prog.info? 32).bind (·.zero) = some (.agg #[.int .i64 0, .int .i64 0]) := by kernel_rfl
theorem q9_bu32 : Try.prog.underlying 32 = some (.struct (fsOf Try.prog 32)) := by kernel_rfl
theorem q9_bp32 : ∀ w, ((fsOf Try.prog 32).mapM fun f => Prod.mk f.offset <$> sizeOf f.type : Sem (Array (Nat × Nat))).run Try.prog w = .ok (#[(0, 1), (1, 1)]) w := fun _ => by kernel_rfl
theorem q9_bz46 : (Try.prog.info? 46).bind (·.zero) = some (.agg #[.slice none 0 0, .int .i64 0]) := by kernel_rfl
theorem q9_bu46 : Try.prog.underlying 46 = some (.struct (fsOf Try.prog 46)) := by kernel_rfl
theorem q9_bp46 : ∀ w, ((fsOf Try.prog 46).mapM fun f => Prod.mk f.offset <$> sizeOf f.type : Sem (Array (Nat × Nat))).run Try.prog w = .ok (#[(0, 1), (1, 1)]) w := fun _ => by kernel_rfl
theorem q9_fl24_3 : FldIs Try.prog 24 3 3 false 1 := by unfold FldIs; kernel_rfl
theorem q9_fl24_5 : FldIs Try.prog 24 5 5 false 1 := by unfold FldIs; kernel_rfl
theorem q9_fl24_6 : FldIs Try.prog 24 6 6 false 1 := by unfold FldIs; kernel_rfl
theorem q9_fl32_0 : FldIs Try.prog 32 0 0 false 1 := by unfold FldIs; kernel_rfl
theorem q9_fl32_1 : FldIs Try.prog 32 1 1 false 1 := by unfold FldIs; kernel_rfl
theorem q9_hcf10 : ∀ args w, (callFunc 10 args).run Try.prog w = .ok (.enter 10 args) w := fun _ _ => by kernel_rfl
theorem q9_hcf11 : ∀ args w, (callFunc 11 args).run Try.prog w = .ok (.enter 11 args) w := fun _ _ => by kernel_rfl
theorem q9_hcf12 : ∀ args w, (callFunc 12 args).run Try.prog w = .ok (.enter 12 args) w := fun _ _ => by kernel_rfl
theorem q9_hcf13 : ∀ args w, (callFunc 13 args).run Try.prog w = .ok (.enter 13 args) w := fun _ _ => by kernel_rfl
theorem q9_hcf14 : ∀ args w, (callFunc 14 args).run Try.prog w = .ok (.enter 14 args) w := fun _ _ => by kernel_rfl
theorem q9_hcf15 : ∀ args w, (callFunc 15 args).run Try.prog w = .ok (.enter 15 args) w := fun _ _ => by kernel_rfl
theorem q9_hcf16 : ∀ args w, (callFunc 16 args).run Try.prog w = .ok (.enter 16 args) w := fun _ _ => by kernel_rfl
theorem q9_hcf6 : ∀ args w, (callFunc 6 args).run Try.prog w = .ok (.enter 6 args) w := fun _ _ => by kernel_rfl
theorem q9_hcf7 : ∀ args w, (callFunc 7 args).run Try.prog w = .ok (.enter 7 args) w := fun _ _ => by kernel_rfl
theorem q9_hcf8 : ∀ args w, (callFunc 8 args).run Try.prog w = .ok (.enter 8 args) w := fun _ _ => by kernel_rfl
theorem q9_hcf9 : ∀ args w, (callFunc 9 args).run Try.prog w = .ok (.enter 9 args) w := fun _ _ => by kernel_rfl
theorem q9_sl22 : SlIs Try.prog 22 3 1 8 (.int .i64 0) := ⟨by kernel_rfl, by kernel_rfl, by kernel_rfl⟩
theorem q9_sl29 : SlIs Try.prog 29 32 2 16 (.agg #[.int .i64 0, .int .i64 0]) := ⟨by kernel_rfl, by kernel_rfl, by kernel_rfl⟩
theorem q9_gq42 : Try.prog.eqGuardType Try.prog.depth 42 = false := by kernel_rfl
theorem q9_sq42 {a0 b0 : Int} {a1 b1 : Int} : EqV Try.prog 2 42 (.agg #[.int .i64 a0, .int .i64 a1]) (.agg #[.int .i64 b0, .int .i64 b1]) (decide (a0 = b0) && (decide (a1 = b1) && true)) := (eqs_struct [(3, 0), (3, 1)] (by kernel_rfl) (by kernel_rfl) (by kernel_rfl) (by kernel_rfl) (.cons (fun _ => by kernel_rfl) (fun _ => by kernel_rfl) (eqv_int (k := .i64) (k' := .i64) (by kernel_rfl) a0 b0) (.cons (fun _ => by kernel_rfl) (fun _ => by kernel_rfl) (eqv_int (k := .i64) (k' := .i64) (by kernel_rfl) a1 b1) .nil)))
theorem q9_sz24 : (Try.prog.info? 24).map (·.size) = some 9 := by kernel_rfl
theorem q9_sz3 : (Try.prog.info? 3).map (·.size) = some 1 := by kernel_rfl
theorem q9_sz32 : (Try.prog.info? 32).map (·.size) = some 2 := by kernel_rfl
theorem q9_sz42 : (Try.prog.info? 42).map (·.size) = some 2 := by kernel_rfl
theorem q9_ty24 : TyIs Try.prog 24 true 9 := ⟨by kernel_rfl, by kernel_rfl⟩
theorem q9_ty3 : TyIs Try.prog 3 false 1 := ⟨by kernel_rfl, by kernel_rfl⟩
theorem q9_ty42 : TyIs Try.prog 42 true 2 := ⟨by kernel_rfl, by kernel_rfl⟩

def WG (t : Trk) (T : Int) (ws : List Int) : Prop := (t.van.length ≤ 16 ∨ (40 < t.van.length ∧ t.van.length ≤ 42)) ∧ tkE t = 0 ∧ tooE t T = 0 ∧ 1 ≤ ws.length ∧ ws.length ≤ 3
instance (t : Trk) (T : Int) (ws : List Int) : Decidable (WG t T ws) := by unfold WG; infer_instance
theorem reL_succ {ws : List Int} {T : Int} {i : Int} (h0 : 0 ≤ i) (h : i < ws.length) : reL (ws.take (i + 1).toNat) T = reL (ws.take i.toNat) T ++ [(ws.getD i.toNat default, T.tmod (ws.getD i.toNat default))] := by
  rw [show (i + 1).toNat = i.toNat + 1 by omega, List.take_add_one, List.getElem?_eq_getElem (by omega : i.toNat < ws.length)]
  unfold reL
  rw [List.map_append, List.getD_eq_getElem?_getD, List.getElem?_eq_getElem (by omega : i.toNat < ws.length)]
  rfl
set_option maxRecDepth 100000 in
set_option maxHeartbeats 4000000 in
theorem twoWays_ok (t : Trk) (T : Int) (ws : List Int) : FnOk Try.prog 3 [qA t, zA T, .row 1 (ws.map iE)] (fun q => q = yA true) := by
  refine fnOk_of (fn := Try.f3) 160 (by kernel_rfl) rfl (by kernel_rfl) (Nat.le_of_ble_eq_true rfl) ?_
  intro e_0 m_0 hA hm_0
  have s0_0 : evA e_0 (.tmp 0) = _ := hA 0 _ rfl
  have s1_0 : evA e_0 (.tmp 1) = _ := hA 1 _ rfl
  have s2_0 : evA e_0 (.tmp 2) = _ := hA 2 _ rfl
  have ml_0 : m_0.length = 0 := by rw [hm_0]; rfl
  clear hA hm_0
  refine aw_seq ?_
  refine aw_text (by kernel_rfl) ?_
  refine al_stm (st_box s0_0 rfl ml_0) trivial rfl (fun m_1 hm_1 => ?_)
  have mo0_1 := m_push hm_1 ml_0
  (try simp only [packA_t, packA_f, iE, bE, setAt, cellsA, Value.cells, map_vc, map_vn, Nat.reduceAdd, qS, iE, rE, one_rE, app_m] at mo0_1)
  have ml_1 := m_push_l hm_1 ml_0
  have ml_1 : _ = 1 := ml_1
  clear hm_1
  refine al_ro' (ro_assign ev_c) trivial rfl ?_
  refine al_end (fun e_2 he_2 => ?_)
  have s1_2 := ef 1 he_2 (u2 rfl s1_0)
  have s2_2 := ef 2 he_2 (u2 rfl s2_0)
  have s3_2 := ef 3 he_2 (up_m rfl up_h)
  clear he_2 s0_0 s1_0 s2_0
  refine then_n ?_
  refine aw_seq ?_
  refine aw_seq ?_
  refine aw_text (by kernel_rfl) ?_
  refine al_ro' (ro_call evL_nil rfl (lAwake_ok) q9_hcf6) trivial rfl ?_
  refine al_ro' (ro_not up_h) trivial rfl ?_
  refine al_end (fun e_3 he_3 => ?_)
  have s1_3 := ef 1 he_3 (u2 rfl s1_2)
  have s2_3 := ef 2 he_3 (u2 rfl s2_2)
  have s3_3 := ef 3 he_3 (u2 rfl s3_2)
  have s21_3 := ef 21 he_3 up_h
  clear he_3 s1_2 s2_2 s3_2
  refine then_n ?_
  refine aw_case s21_3 (fun hq_4 => ?_) (fun hq_4 => ?_)
  · (first | replace hq_4 := bnt hq_4 | replace hq_4 := bnf hq_4 | replace hq_4 := bt hq_4 | replace hq_4 := bf hq_4 | replace hq_4 := bt' hq_4 | replace hq_4 := bf' hq_4 | skip)
    first
    | (cases hq_4; done) | (exfalso; omega)
    | (
       refine aw_seq ?_
       refine aw_text (by kernel_rfl) ?_
       refine al_ro' (ro_assign ev_c) trivial rfl ?_
       refine al_end (fun e_5 he_5 => ?_)
       have s6_5 := ef 6 he_5 up_h
       clear he_5 s1_3 s21_3 s2_3 s3_3
       refine then_n ?_
       refine aw_ret ?_
       refine then_r ?_
       refine ret1 (.inr rfl) (by kernel_rfl) (resV_tmp s6_5) (.ro _ rfl) ?_
       clear s6_5 mo0_1 ml_1
       (first | rfl | (simp; done) | (exfalso; omega)))
  · (first | replace hq_4 := bnt hq_4 | replace hq_4 := bnf hq_4 | replace hq_4 := bt hq_4 | replace hq_4 := bf hq_4 | replace hq_4 := bt' hq_4 | replace hq_4 := bf' hq_4 | skip)
    first
    | (cases hq_4; done) | (exfalso; omega)
    | (
       refine aw_skip ?_
       refine then_n ?_
       refine aw_seq ?_
       refine aw_seq ?_
       refine aw_cut (fun e mem => (evA e (.tmp 45) = .v (.bool (decide (¬ WG t T ws)))) ∧ (evA e (.tmp 1) = evA e_3 (.tmp 1)) ∧ (evA e (.tmp 2) = evA e_3 (.tmp 2)) ∧ (evA e (.tmp 3) = evA e_3 (.tmp 3)) ∧ m_1 = mem) ?_ ?_
       ·
         refine aw_text (by kernel_rfl) ?_
         refine al_ro' (ro_eq (ro_ld_ptr q9_ty24 rfl mo0_1 s3_3 (by first | exact Nat.le_of_ble_eq_true rfl | omega | (simp only [lnS] <;> omega) | (simp <;> omega))) (by first | (simp only [packA_t, packA_f, iE, bE, setAt, cellsA, Value.cells, map_vc, map_vn, Nat.reduceAdd, qS, iE, rE, one_rE, app_m] <;> rfl) | rfl)) trivial rfl ?_
         refine al_ro' (ro_call (evL_cons up_h evL_nil) rfl (lqShort_ok t) q9_hcf7) trivial rfl ?_
         refine al_ro' (ro_not up_h) trivial rfl ?_
         refine al_ro' (ro_move up_h) trivial rfl ?_
         refine al_case up_h (fun hb_7 hq_7 => ?_) (fun hb_7 hq_7 => ?_)
         · (first | replace hq_7 := bnt hq_7 | replace hq_7 := bnf hq_7 | replace hq_7 := bt hq_7 | replace hq_7 := bf hq_7 | replace hq_7 := bt' hq_7 | replace hq_7 := bf' hq_7 | skip)
           first
           | (cases hq_7; done) | (exfalso; omega)
           | (
              refine al_skip' ⟨_, rfl, .inl hb_7⟩ rfl ?_
              refine al_skip' ⟨_, rfl, .inl (up_m rfl hb_7)⟩ rfl ?_
              refine al_skip' ⟨_, rfl, .inl (u2 rfl hb_7)⟩ rfl ?_
              refine al_ro' (ro_pickT (up_m rfl (u2 rfl hb_7)) ev_c) trivial rfl ?_
              refine al_ro' (ro_move up_h) trivial rfl ?_
              refine al_skip' ⟨_, rfl, .inl up_h⟩ rfl ?_
              refine al_skip' ⟨_, rfl, .inl (up_m rfl up_h)⟩ rfl ?_
              refine al_skip' ⟨_, rfl, .inl (u2 rfl up_h)⟩ rfl ?_
              refine al_skip' ⟨_, rfl, .inl (up_m rfl (u2 rfl up_h))⟩ rfl ?_
              refine al_ro' (ro_pickT (u4 rfl up_h) ev_c) trivial rfl ?_
              refine al_ro' (ro_move up_h) trivial rfl ?_
              refine al_skip' ⟨_, rfl, .inl up_h⟩ rfl ?_
              refine al_skip' ⟨_, rfl, .inl (up_m rfl up_h)⟩ rfl ?_
              refine al_skip' ⟨_, rfl, .inl (u2 rfl up_h)⟩ rfl ?_
              refine al_ro' (ro_pickT (up_m rfl (u2 rfl up_h)) ev_c) trivial rfl ?_
              refine al_ro' (ro_move up_h) trivial rfl ?_
              refine al_skip' ⟨_, rfl, .inl up_h⟩ rfl ?_
              refine al_skip' ⟨_, rfl, .inl (up_m rfl up_h)⟩ rfl ?_
              refine al_skip' ⟨_, rfl, .inl (u2 rfl up_h)⟩ rfl ?_
              refine al_ro' (ro_pickT (up_m rfl (u2 rfl up_h)) ev_c) trivial rfl ?_
              refine al_end (fun e_8 he_8 => ?_)
              have s1_8 := ef 1 he_8 (u8 rfl (u16 rfl s1_3))
              have s2_8 := ef 2 he_8 (u8 rfl (u16 rfl s2_3))
              have s3_8 := ef 3 he_8 (u8 rfl (u16 rfl s3_3))
              have s45_8 := ef 45 he_8 up_h
              clear he_8
              refine then_n ⟨(s45_8).trans (by (refine avb ?_; simp only [decide_eq_true_eq, Bool.false_eq_true, true_iff, false_iff, Bool.not_eq_true', decide_eq_false_iff_not]; unfold WG; omega)), (s1_8).trans (s1_3).symm, (s2_8).trans (s2_3).symm, (s3_8).trans (s3_3).symm, rfl⟩)
         · (first | replace hq_7 := bnt hq_7 | replace hq_7 := bnf hq_7 | replace hq_7 := bt hq_7 | replace hq_7 := bf hq_7 | replace hq_7 := bt' hq_7 | replace hq_7 := bf' hq_7 | skip)
           first
           | (cases hq_7; done) | (exfalso; omega)
           | (
              refine al_ro' (ro_eq (ro_ld_ptr q9_ty24 rfl mo0_1 (u4 rfl s3_3) (by first | exact Nat.le_of_ble_eq_true rfl | omega | (simp only [lnS] <;> omega) | (simp <;> omega))) (by first | (simp only [packA_t, packA_f, iE, bE, setAt, cellsA, Value.cells, map_vc, map_vn, Nat.reduceAdd, qS, iE, rE, one_rE, app_m] <;> rfl) | rfl)) ⟨_, rfl, hb_7⟩ rfl ?_
              refine al_ro' (ro_call (evL_cons up_h evL_nil) rfl (rqTrackErr_ok t (by omega)) q9_hcf8) ⟨_, rfl, (up_m rfl hb_7)⟩ rfl ?_
              refine al_ro' (ro_neq up_h ev_c) ⟨_, rfl, (u2 rfl hb_7)⟩ rfl ?_
              refine al_ro' (ro_pickF (up_m rfl (u2 rfl hb_7)) up_h) trivial rfl ?_
              refine al_ro' (ro_move up_h) trivial rfl ?_
              refine al_case up_h (fun hb_9 hq_9 => ?_) (fun hb_9 hq_9 => ?_)
              · (first | replace hq_9 := bnt hq_9 | replace hq_9 := bnf hq_9 | replace hq_9 := bt hq_9 | replace hq_9 := bf hq_9 | replace hq_9 := bt' hq_9 | replace hq_9 := bf' hq_9 | skip)
                first
                | (cases hq_9; done) | (exfalso; omega)
                | (
                   refine al_skip' ⟨_, rfl, .inl hb_9⟩ rfl ?_
                   refine al_skip' ⟨_, rfl, .inl (up_m rfl hb_9)⟩ rfl ?_
                   refine al_skip' ⟨_, rfl, .inl (u2 rfl hb_9)⟩ rfl ?_
                   refine al_skip' ⟨_, rfl, .inl (up_m rfl (u2 rfl hb_9))⟩ rfl ?_
                   refine al_ro' (ro_pickT (u4 rfl hb_9) ev_c) trivial rfl ?_
                   refine al_ro' (ro_move up_h) trivial rfl ?_
                   refine al_skip' ⟨_, rfl, .inl up_h⟩ rfl ?_
                   refine al_skip' ⟨_, rfl, .inl (up_m rfl up_h)⟩ rfl ?_
                   refine al_skip' ⟨_, rfl, .inl (u2 rfl up_h)⟩ rfl ?_
                   refine al_ro' (ro_pickT (up_m rfl (u2 rfl up_h)) ev_c) trivial rfl ?_
                   refine al_ro' (ro_move up_h) trivial rfl ?_
                   refine al_skip' ⟨_, rfl, .inl up_h⟩ rfl ?_
                   refine al_skip' ⟨_, rfl, .inl (up_m rfl up_h)⟩ rfl ?_
                   refine al_skip' ⟨_, rfl, .inl (u2 rfl up_h)⟩ rfl ?_
                   refine al_ro' (ro_pickT (up_m rfl (u2 rfl up_h)) ev_c) trivial rfl ?_
                   refine al_end (fun e_10 he_10 => ?_)
                   have s1_10 := ef 1 he_10 (u8 rfl (u16 rfl s1_3))
                   have s2_10 := ef 2 he_10 (u8 rfl (u16 rfl s2_3))
                   have s3_10 := ef 3 he_10 (u8 rfl (u16 rfl s3_3))
                   have s45_10 := ef 45 he_10 up_h
                   clear he_10
                   refine then_n ⟨(s45_10).trans (by (refine avb ?_; simp only [decide_eq_true_eq, Bool.false_eq_true, true_iff, false_iff, Bool.not_eq_true', decide_eq_false_iff_not]; unfold WG; omega)), (s1_10).trans (s1_3).symm, (s2_10).trans (s2_3).symm, (s3_10).trans (s3_3).symm, rfl⟩)
              · (first | replace hq_9 := bnt hq_9 | replace hq_9 := bnf hq_9 | replace hq_9 := bt hq_9 | replace hq_9 := bf hq_9 | replace hq_9 := bt' hq_9 | replace hq_9 := bf' hq_9 | skip)
                first
                | (cases hq_9; done) | (exfalso; omega)
                | (
                   refine al_ro' (ro_eq (ro_ld_ptr q9_ty24 rfl mo0_1 (up_m rfl (u8 rfl s3_3)) (by first | exact Nat.le_of_ble_eq_true rfl | omega | (simp only [lnS] <;> omega) | (simp <;> omega))) (by first | (simp only [packA_t, packA_f, iE, bE, setAt, cellsA, Value.cells, map_vc, map_vn, Nat.reduceAdd, qS, iE, rE, one_rE, app_m] <;> rfl) | rfl)) ⟨_, rfl, hb_9⟩ rfl ?_
                   refine al_ro' (ro_move (u2 rfl (u8 rfl s1_3))) ⟨_, rfl, (up_m rfl hb_9)⟩ rfl ?_
                   refine al_ro' (ro_call (evL_cons (up_m rfl up_h) (evL_cons up_h evL_nil)) rfl (rqToothErr_ok t (rt_of (by omega)) T) q9_hcf9) ⟨_, rfl, (u2 rfl hb_9)⟩ rfl ?_
                   refine al_ro' (ro_neq up_h ev_c) ⟨_, rfl, (up_m rfl (u2 rfl hb_9))⟩ rfl ?_
                   refine al_ro' (ro_pickF (u4 rfl hb_9) up_h) trivial rfl ?_
                   refine al_ro' (ro_move up_h) trivial rfl ?_
                   refine al_case up_h (fun hb_11 hq_11 => ?_) (fun hb_11 hq_11 => ?_)
                   · (first | replace hq_11 := bnt hq_11 | replace hq_11 := bnf hq_11 | replace hq_11 := bt hq_11 | replace hq_11 := bf hq_11 | replace hq_11 := bt' hq_11 | replace hq_11 := bf' hq_11 | skip)
                     first
                     | (cases hq_11; done) | (exfalso; omega)
                     | (
                        refine al_skip' ⟨_, rfl, .inl hb_11⟩ rfl ?_
                        refine al_skip' ⟨_, rfl, .inl (up_m rfl hb_11)⟩ rfl ?_
                        refine al_skip' ⟨_, rfl, .inl (u2 rfl hb_11)⟩ rfl ?_
                        refine al_ro' (ro_pickT (up_m rfl (u2 rfl hb_11)) ev_c) trivial rfl ?_
                        refine al_ro' (ro_move up_h) trivial rfl ?_
                        refine al_skip' ⟨_, rfl, .inl up_h⟩ rfl ?_
                        refine al_skip' ⟨_, rfl, .inl (up_m rfl up_h)⟩ rfl ?_
                        refine al_skip' ⟨_, rfl, .inl (u2 rfl up_h)⟩ rfl ?_
                        refine al_ro' (ro_pickT (up_m rfl (u2 rfl up_h)) ev_c) trivial rfl ?_
                        refine al_end (fun e_12 he_12 => ?_)
                        have s1_12 := ef 1 he_12 (u8 rfl (u16 rfl s1_3))
                        have s2_12 := ef 2 he_12 (u8 rfl (u16 rfl s2_3))
                        have s3_12 := ef 3 he_12 (u8 rfl (u16 rfl s3_3))
                        have s45_12 := ef 45 he_12 up_h
                        clear he_12
                        refine then_n ⟨(s45_12).trans (by (refine avb ?_; simp only [decide_eq_true_eq, Bool.false_eq_true, true_iff, false_iff, Bool.not_eq_true', decide_eq_false_iff_not]; unfold WG; omega)), (s1_12).trans (s1_3).symm, (s2_12).trans (s2_3).symm, (s3_12).trans (s3_3).symm, rfl⟩)
                   · (first | replace hq_11 := bnt hq_11 | replace hq_11 := bnf hq_11 | replace hq_11 := bt hq_11 | replace hq_11 := bf hq_11 | replace hq_11 := bt' hq_11 | replace hq_11 := bf' hq_11 | skip)
                     first
                     | (cases hq_11; done) | (exfalso; omega)
                     | (
                        refine al_ro' (ro_move (up_m rfl (u2 rfl (u4 rfl (u8 rfl s2_3))))) ⟨_, rfl, hb_11⟩ rfl ?_
                        refine al_ro' (ro_eq (ro_len_row up_h rfl q9_sl22.1) (by first | (simp only [lnS] <;> rfl) | rfl)) ⟨_, rfl, (up_m rfl hb_11)⟩ rfl ?_
                        refine al_ro' (ro_eql up_h ev_c) ⟨_, rfl, (u2 rfl hb_11)⟩ rfl ?_
                        refine al_ro' (ro_pickF (up_m rfl (u2 rfl hb_11)) up_h) trivial rfl ?_
                        refine al_ro' (ro_move up_h) trivial rfl ?_
                        refine al_case up_h (fun hb_13 hq_13 => ?_) (fun hb_13 hq_13 => ?_)
                        · (first | replace hq_13 := bnt hq_13 | replace hq_13 := bnf hq_13 | replace hq_13 := bt hq_13 | replace hq_13 := bf hq_13 | replace hq_13 := bt' hq_13 | replace hq_13 := bf' hq_13 | skip)
                          first
                          | (cases hq_13; done) | (exfalso; omega)
                          | (
                             refine al_skip' ⟨_, rfl, .inl hb_13⟩ rfl ?_
                             refine al_skip' ⟨_, rfl, .inl (up_m rfl hb_13)⟩ rfl ?_
                             refine al_skip' ⟨_, rfl, .inl (u2 rfl hb_13)⟩ rfl ?_
                             refine al_ro' (ro_pickT (up_m rfl (u2 rfl hb_13)) ev_c) trivial rfl ?_
                             refine al_end (fun e_14 he_14 => ?_)
                             have s1_14 := ef 1 he_14 (u8 rfl (u16 rfl s1_3))
                             have s2_14 := ef 2 he_14 (u8 rfl (u16 rfl s2_3))
                             have s3_14 := ef 3 he_14 (u8 rfl (u16 rfl s3_3))
                             have s45_14 := ef 45 he_14 up_h
                             clear he_14
                             refine then_n ⟨(s45_14).trans (by (refine avb ?_; simp only [decide_eq_true_eq, Bool.false_eq_true, true_iff, false_iff, Bool.not_eq_true', decide_eq_false_iff_not]; unfold WG; omega)), (s1_14).trans (s1_3).symm, (s2_14).trans (s2_3).symm, (s3_14).trans (s3_3).symm, rfl⟩)
                        · (first | replace hq_13 := bnt hq_13 | replace hq_13 := bnf hq_13 | replace hq_13 := bt hq_13 | replace hq_13 := bf hq_13 | replace hq_13 := bt' hq_13 | replace hq_13 := bf' hq_13 | skip)
                          first
                          | (cases hq_13; done) | (exfalso; omega)
                          | (
                             refine al_ro' (ro_move (u4 rfl (u16 rfl s2_3))) ⟨_, rfl, hb_13⟩ rfl ?_
                             refine al_ro' (ro_eq (ro_len_row up_h rfl q9_sl22.1) (by first | (simp only [lnS] <;> rfl) | rfl)) ⟨_, rfl, (up_m rfl hb_13)⟩ rfl ?_
                             refine al_ro' (ro_gtr up_h ev_c) ⟨_, rfl, (u2 rfl hb_13)⟩ rfl ?_
                             refine al_ro' (ro_pickF (up_m rfl (u2 rfl hb_13)) up_h) trivial rfl ?_
                             refine al_end (fun e_15 he_15 => ?_)
                             have s1_15 := ef 1 he_15 (u8 rfl (u16 rfl s1_3))
                             have s2_15 := ef 2 he_15 (u8 rfl (u16 rfl s2_3))
                             have s3_15 := ef 3 he_15 (u8 rfl (u16 rfl s3_3))
                             have s45_15 := ef 45 he_15 up_h
                             clear he_15
                             refine then_n ⟨(s45_15).trans (by (refine avb ?_; simp only [decide_eq_true_eq, Bool.false_eq_true, true_iff, false_iff, Bool.not_eq_true', decide_eq_false_iff_not]; unfold WG; omega)), (s1_15).trans (s1_3).symm, (s2_15).trans (s2_3).symm, (s3_15).trans (s3_3).symm, rfl⟩))))
       · rintro e_6 _ ⟨s45_6, k1_6, k2_6, k3_6, rfl⟩
         have s1_6 := k1_6.trans s1_3
         have s2_6 := k2_6.trans s2_3
         have s3_6 := k3_6.trans s3_3
         refine aw_case s45_6 (fun hq_16 => ?_) (fun hq_16 => ?_)
         · (first | replace hq_16 := bnt hq_16 | replace hq_16 := bnf hq_16 | replace hq_16 := bt hq_16 | replace hq_16 := bf hq_16 | replace hq_16 := bt' hq_16 | replace hq_16 := bf' hq_16 | skip)
           first
           | (cases hq_16; done) | (exfalso; omega)
           | (
              refine aw_seq ?_
              refine aw_text (by kernel_rfl) ?_
              refine al_ro' (ro_assign ev_c) trivial rfl ?_
              refine al_end (fun e_17 he_17 => ?_)
              have s6_17 := ef 6 he_17 up_h
              clear he_17 s1_6 s2_6 s3_6 s45_6
              refine then_n ?_
              refine aw_ret ?_
              refine then_r ?_
              refine ret1 (.inr rfl) (by kernel_rfl) (resV_tmp s6_17) (.ro _ rfl) ?_
              clear s6_17 mo0_1 ml_1
              (first | rfl | (simp; done) | (exfalso; omega)))
         · (first | replace hq_16 := bnt hq_16 | replace hq_16 := bnf hq_16 | replace hq_16 := bt hq_16 | replace hq_16 := bf hq_16 | replace hq_16 := bt' hq_16 | replace hq_16 := bf' hq_16 | skip)
           first
           | (cases hq_16; done) | (exfalso; omega)
           | (
              (have hG : WG t T ws := (by first | assumption | exact Classical.not_not.1 (by assumption)); obtain ⟨g1, g2, g3, g4, g5⟩ := id hG; have hR := rt_of g2; have hT := tooE_z g3; have hte := hR.tee; have hlen := hR.len)
              refine aw_skip ?_
              refine then_n ?_
              refine aw_seq ?_
              refine aw_text (by kernel_rfl) ?_
              refine al_ro' (ro_assign ev_c) trivial rfl ?_
              refine al_end (fun e_18 he_18 => ?_)
              have s1_18 := ef 1 he_18 (up_m rfl s1_6)
              have s2_18 := ef 2 he_18 (up_m rfl s2_6)
              have s3_18 := ef 3 he_18 (up_m rfl s3_6)
              have s7_18 := ef 7 he_18 up_h
              clear he_18 s1_6 s2_6 s3_6 s45_6
              refine then_n ?_
              refine aw_seq ?_
              refine aw_seq ?_
              refine aw_text (by kernel_rfl) ?_
              refine al_ro' (ro_assign ev_c) trivial rfl ?_
              refine al_end (fun e_19 he_19 => ?_)
              have s1_19 := ef 1 he_19 (up_m rfl s1_18)
              have s2_19 := ef 2 he_19 (up_m rfl s2_18)
              have s3_19 := ef 3 he_19 (up_m rfl s3_18)
              have s7_19 := ef 7 he_19 (up_m rfl s7_18)
              have s8_19 := ef 8 he_19 up_h
              clear he_19 s1_18 s2_18 s3_18 s7_18
              refine then_n ?_
              refine aw_block ?_
              refine aw_adopt 32 2 s7_19 ml_1 (fun m_20 e_20 hm_20 he_20 => ?_)
              have mo1_20 := m_push hm_20 ml_1
              have mo0_20 := m_push_o hm_20 mo0_1
              have ml_20 := m_push_l hm_20 ml_1
              have ml_20 : _ = 2 := ml_20
              have s1_20 : evA e_20 (.tmp 1) = _ := (congrArg (fun q => evA q (.tmp 1)) he_20).trans (up_m rfl s1_19)
              have s2_20 : evA e_20 (.tmp 2) = _ := (congrArg (fun q => evA q (.tmp 2)) he_20).trans (up_m rfl s2_19)
              have s3_20 : evA e_20 (.tmp 3) = _ := (congrArg (fun q => evA q (.tmp 3)) he_20).trans (up_m rfl s3_19)
              have s7_20 : evA e_20 (.tmp 7) = _ := (congrArg (fun q => evA q (.tmp 7)) he_20).trans up_h
              have s8_20 : evA e_20 (.tmp 8) = _ := (congrArg (fun q => evA q (.tmp 8)) he_20).trans (up_m rfl s8_19)
              clear hm_20 he_20
              refine aw_loop (S := (Int × List (Int × Int))) (fun s e mem => match s with | ⟨i, zs⟩ => (evA e (.tmp 8) = .v (.int .i64 i)) ∧ (evA e (.tmp 1) = evA e_20 (.tmp 1)) ∧ (evA e (.tmp 2) = evA e_20 (.tmp 2)) ∧ (evA e (.tmp 3) = evA e_20 (.tmp 3)) ∧ (mem[0]? = m_20[0]?) ∧ (∃ j, evA e (.tmp 7) = .own j ∧ mem[j]? = some (.row 32 2 (zs.map rE)) ∧ j ≠ 0) ∧ (∃ n, mem.length = n ∧ 2 ≤ n) ∧ ((0 ≤ i ∧ i ≤ ws.length ∧ zs = reL (ws.take i.toNat) T ∧ ∀ j : Nat, j < i.toNat → 1 ≤ ws.getD j default ∧ ws.getD j default ≤ 1000))) (fun s => match s with | ⟨i, zs⟩ => (ws.length - i).toNat) ⟨_, []⟩ ⟨s8_20, rfl, rfl, rfl, rfl, ⟨_, s7_20, mo1_20, (by decide)⟩, ⟨_, ml_20, Nat.le_refl _⟩, ?_⟩ ?_
              · (exact ⟨by omega, by omega, rfl, fun j h => absurd h (by omega)⟩)
              · rintro ⟨i, zs⟩ e_21 m_21 ⟨s8_21, k1_21, k2_21, k3_21, mk0_21, ⟨j7_21, s7_21, mo_j7_21, nj7_0_21⟩, ⟨n_21, ml_21, hn_21⟩, hinv⟩
                have s1_21 := k1_21.trans s1_20
                have s2_21 := k2_21.trans s2_20
                have s3_21 := k3_21.trans s3_20
                have mo0_21 := mk0_21.trans mo0_20
                have jl7_21 := m_lt mo_j7_21 ml_21
                (obtain ⟨p1, p2, p3, p4⟩ := hinv; have hzl : zs.length ≤ 3 := (by rw [p3, reL_len, List.length_take]; omega))
                refine aw_seq ?_
                refine aw_seq ?_
                refine aw_text (by kernel_rfl) ?_
                refine al_ro' (ro_move s8_21) trivial rfl ?_
                refine al_ro' (ro_move (up_m rfl s2_21)) trivial rfl ?_
                refine al_ro' (ro_eq (ro_len_row up_h rfl q9_sl22.1) (by first | (simp only [lnS] <;> rfl) | rfl)) trivial rfl ?_
                refine al_ro' (ro_lss (u2 rfl up_h) up_h) trivial rfl ?_
                refine al_end (fun e_22 he_22 => ?_)
                have s1_22 := ef 1 he_22 (u4 rfl s1_21)
                have s2_22 := ef 2 he_22 (u4 rfl s2_21)
                have s3_22 := ef 3 he_22 (u4 rfl s3_21)
                have s7_22 := ef 7 he_22 (u4 rfl s7_21)
                have s8_22 := ef 8 he_22 (u4 rfl s8_21)
                have s49_22 := ef 49 he_22 up_h
                clear he_22 s1_21 s2_21 s3_21 s7_21 s8_21
                refine then_n ?_
                refine aw_case s49_22 (fun hq_23 => ?_) (fun hq_23 => ?_)
                · (first | replace hq_23 := bnt hq_23 | replace hq_23 := bnf hq_23 | replace hq_23 := bt hq_23 | replace hq_23 := bf hq_23 | replace hq_23 := bt' hq_23 | replace hq_23 := bf' hq_23 | skip)
                  first
                  | (cases hq_23; done) | (exfalso; omega)
                  | (
                     refine aw_skip ?_
                     refine then_n ?_
                     refine aw_seq ?_
                     refine aw_block ?_
                     refine aw_seq ?_
                     refine aw_seq ?_
                     refine aw_text (by kernel_rfl) ?_
                     refine al_ro' (ro_move s2_22) trivial rfl ?_
                     refine al_ro' (ro_move (up_m rfl s8_22)) trivial rfl ?_
                     refine al_ro' (ro_eq (ro_ix q9_sl22 (up_m rfl up_h) up_h (by first | decide | omega | (simp <;> omega)) (by first | (refine idx_map ?_; first | omega | (simp only [lnS]; omega)) | (refine idx_mapI ?_; first | omega | (simp only [lnS]; omega)) | (refine idx_mapN ?_; first | omega | (simp only [lnS]; omega)) | rfl)) (by first | (simp only [packA_t, packA_f, iE, bE, setAt, cellsA, Value.cells, map_vc, map_vn, Nat.reduceAdd, qS, iE, rE, one_rE, app_m] <;> rfl) | rfl)) trivial rfl ?_
                     refine al_ro' (ro_eq (ro_ld_ref q9_ty3 rfl up_h (by first | exact Nat.le_of_ble_eq_true rfl | omega | (simp only [lnS] <;> omega) | (simp <;> omega))) (by first | (simp only [packA_t, packA_f, iE, bE, setAt, cellsA, Value.cells, map_vc, map_vn, Nat.reduceAdd, qS, iE, rE, one_rE, app_m] <;> rfl) | rfl)) trivial rfl ?_
                     refine al_ro' (ro_call (evL_cons up_h (evL_cons ev_c (evL_cons ev_c evL_nil))) rfl (bWithin_ok _ _ _) q9_hcf10) trivial rfl ?_
                     refine al_ro' (ro_not up_h) trivial rfl ?_
                     refine al_end (fun e_24 he_24 => ?_)
                     have s1_24 := ef 1 he_24 (u2 rfl (u4 rfl s1_22))
                     have s2_24 := ef 2 he_24 (u2 rfl (u4 rfl s2_22))
                     have s3_24 := ef 3 he_24 (u2 rfl (u4 rfl s3_22))
                     have s7_24 := ef 7 he_24 (u2 rfl (u4 rfl s7_22))
                     have s8_24 := ef 8 he_24 (u2 rfl (u4 rfl s8_22))
                     have s57_24 := ef 57 he_24 up_h
                     clear he_24 s1_22 s2_22 s3_22 s49_22 s7_22 s8_22
                     refine then_n ?_
                     refine aw_case s57_24 (fun hq_25 => ?_) (fun hq_25 => ?_)
                     · (first | replace hq_25 := bnt hq_25 | replace hq_25 := bnf hq_25 | replace hq_25 := bt hq_25 | replace hq_25 := bf hq_25 | replace hq_25 := bt' hq_25 | replace hq_25 := bf' hq_25 | skip)
                       first
                       | (cases hq_25; done) | (exfalso; omega)
                       | (
                          refine aw_seq ?_
                          refine aw_text (by kernel_rfl) ?_
                          refine al_ro' (ro_assign ev_c) trivial rfl ?_
                          refine al_end (fun e_26 he_26 => ?_)
                          have s6_26 := ef 6 he_26 up_h
                          clear he_26 s1_24 s2_24 s3_24 s57_24 s7_24 s8_24
                          refine then_n ?_
                          refine aw_ret ?_
                          refine then_r ?_
                          refine block_r ?_
                          refine then_r ?_
                          refine then_r ?_
                          refine block_r ?_
                          refine then_r ?_
                          refine ret1 (.inr rfl) (by kernel_rfl) (resV_tmp s6_26) (.ro _ rfl) ?_
                          clear s6_26 mo0_21 mo_j7_21 ml_21
                          (first | rfl | (simp; done) | (exfalso; omega)))
                     · (first | replace hq_25 := bnt hq_25 | replace hq_25 := bnf hq_25 | replace hq_25 := bt hq_25 | replace hq_25 := bf hq_25 | replace hq_25 := bt' hq_25 | replace hq_25 := bf' hq_25 | skip)
                       first
                       | (cases hq_25; done) | (exfalso; omega)
                       | (
                          (have hwv : 1 ≤ ws.getD i.toNat default ∧ ws.getD i.toNat default ≤ 1000 := (by have hq : withinB (ws.getD i.toNat default) 1 1000 = true := (by assumption); simp only [withinB, Bool.and_eq_true, decide_eq_true_eq] at hq; exact hq))
                          refine aw_skip ?_
                          refine then_n ?_
                          refine aw_draw 13 (by kernel_rfl) (by kernel_rfl) (by kernel_rfl) (by kernel_rfl) ?_
                          refine ds_ro' (ro_move s7_24) trivial rfl ?_
                          refine ds_ro' (ro_move (up_m rfl s2_24)) trivial rfl ?_
                          refine ds_ro' (ro_move (u2 rfl s8_24)) trivial rfl ?_
                          refine ds_ro' (ro_eq (ro_ix q9_sl22 (up_m rfl up_h) up_h (by first | decide | omega | (simp <;> omega)) (by first | (refine idx_map ?_; first | omega | (simp only [lnS]; omega)) | (refine idx_mapI ?_; first | omega | (simp only [lnS]; omega)) | (refine idx_mapN ?_; first | omega | (simp only [lnS]; omega)) | rfl)) (by first | (simp only [packA_t, packA_f, iE, bE, setAt, cellsA, Value.cells, map_vc, map_vn, Nat.reduceAdd, qS, iE, rE, one_rE, app_m] <;> rfl) | rfl)) trivial rfl ?_
                          refine ds_ro' (ro_eq (ro_ld_ref q9_ty3 rfl up_h (by first | exact Nat.le_of_ble_eq_true rfl | omega | (simp only [lnS] <;> omega) | (simp <;> omega))) (by first | (simp only [packA_t, packA_f, iE, bE, setAt, cellsA, Value.cells, map_vc, map_vn, Nat.reduceAdd, qS, iE, rE, one_rE, app_m] <;> rfl) | rfl)) trivial rfl ?_
                          refine ds_ro' (ro_move (up_m rfl (u4 rfl s1_24))) trivial rfl ?_
                          refine ds_ro' (ro_move (u2 rfl (u4 rfl s2_24))) trivial rfl ?_
                          refine ds_ro' (ro_move (up_m rfl (u2 rfl (u4 rfl s8_24)))) trivial rfl ?_
                          refine ds_ro' (ro_eq (ro_ix q9_sl22 (up_m rfl up_h) up_h (by first | decide | omega | (simp <;> omega)) (by first | (refine idx_map ?_; first | omega | (simp only [lnS]; omega)) | (refine idx_mapI ?_; first | omega | (simp only [lnS]; omega)) | (refine idx_mapN ?_; first | omega | (simp only [lnS]; omega)) | rfl)) (by first | (simp only [packA_t, packA_f, iE, bE, setAt, cellsA, Value.cells, map_vc, map_vn, Nat.reduceAdd, qS, iE, rE, one_rE, app_m] <;> rfl) | rfl)) trivial rfl ?_
                          refine ds_ro' (ro_eq (ro_ld_ref q9_ty3 rfl up_h (by first | exact Nat.le_of_ble_eq_true rfl | omega | (simp only [lnS] <;> omega) | (simp <;> omega))) (by first | (simp only [packA_t, packA_f, iE, bE, setAt, cellsA, Value.cells, map_vc, map_vn, Nat.reduceAdd, qS, iE, rE, one_rE, app_m] <;> rfl) | rfl)) trivial rfl ?_
                          refine ds_ro' (ro_rem (u4 rfl up_h) up_h (by first | decide | omega)) trivial rfl ?_
                          refine ds_ro' (ro_build (evP_cons (u2 rfl (u4 rfl up_h)) (evP_cons up_h evP_nil)) q9_bz32 q9_bu32 q9_bp32 rfl) trivial rfl ?_
                          refine ds_ro' (ro_lit q9_sl29 (evP_cons up_h evP_nil) rfl rfl rfl rfl) trivial rfl ?_
                          refine ds_nil ?_
                          refine al_stm (st_app q9_sl29 rfl ml_21 mo_j7_21 (u4 rfl (u8 rfl up_h)) up_h (by first | rfl | (simp [oneA]; done)) (by first | omega | (simp only [lnS] <;> omega) | (simp <;> omega))) trivial rfl (fun m_27 hm_27 => ?_)
                          have mon_21_27 := m_swap hm_27 ml_21
                          (try simp only [packA_t, packA_f, iE, bE, setAt, cellsA, Value.cells, map_vc, map_vn, Nat.reduceAdd, qS, iE, rE, one_rE, app_m] at mon_21_27)
                          have mo0_27 := m_swap_o hm_27 mo0_21 (by omega)
                          have ml_27 := m_swap_l hm_27 ml_21
                          clear hm_27 mo0_21 mo_j7_21
                          refine al_ro' (ro_assign up_h) trivial rfl ?_
                          refine al_end (fun e_28 he_28 => ?_)
                          have s1_28 := ef 1 he_28 (up_m rfl (u2 rfl (u4 rfl (u8 rfl s1_24))))
                          have s2_28 := ef 2 he_28 (up_m rfl (u2 rfl (u4 rfl (u8 rfl s2_24))))
                          have s3_28 := ef 3 he_28 (up_m rfl (u2 rfl (u4 rfl (u8 rfl s3_24))))
                          have s7_28 := ef 7 he_28 up_h
                          have s8_28 := ef 8 he_28 (up_m rfl (u2 rfl (u4 rfl (u8 rfl s8_24))))
                          clear he_28 s1_24 s2_24 s3_24 s57_24 s7_24 s8_24
                          refine block_n ?_
                          refine then_n ?_
                          refine aw_text (by kernel_rfl) ?_
                          refine al_ro' (ro_move s8_28) trivial rfl ?_
                          first | (refine al_ro' (ro_add' up_h ev_c ?_) trivial rfl ?_; · (unfold In64; omega)) | refine al_ro' (ro_add up_h ev_c) trivial rfl ?_
                          refine al_ro' (ro_assign up_h) trivial rfl ?_
                          refine al_end (fun e_29 he_29 => ?_)
                          have s1_29 := ef 1 he_29 (up_m rfl (u2 rfl s1_28))
                          have s2_29 := ef 2 he_29 (up_m rfl (u2 rfl s2_28))
                          have s3_29 := ef 3 he_29 (up_m rfl (u2 rfl s3_28))
                          have s7_29 := ef 7 he_29 (up_m rfl (u2 rfl s7_28))
                          have s8_29 := ef 8 he_29 up_h
                          clear he_29 s1_28 s2_28 s3_28 s7_28 s8_28
                          refine then_n ?_
                          refine ⟨⟨_, _⟩, ⟨s8_29, (s1_29.trans s1_20.symm), (s2_29.trans s2_20.symm), (s3_29.trans s3_20.symm), (mo0_27.trans mo0_20.symm), ⟨_, s7_29, mon_21_27, (by omega)⟩, ⟨_, ml_27, by omega⟩, ?_⟩, ?_⟩
                          · (refine ⟨by omega, by omega, by rw [reL_succ p1 (by omega), ← p3], fun j hj => ?_⟩; by_cases hji : j < i.toNat; (exact p4 j hji); (rw [show j = i.toNat by omega]; exact hwv))
                          · ((try dsimp only); omega)))
                · (first | replace hq_23 := bnt hq_23 | replace hq_23 := bnf hq_23 | replace hq_23 := bt hq_23 | replace hq_23 := bf hq_23 | replace hq_23 := bt' hq_23 | replace hq_23 := bf' hq_23 | skip)
                  first
                  | (cases hq_23; done) | (exfalso; omega)
                  | (
                     (have hw : ∀ j : Nat, j < ws.length → 1 ≤ ws.getD j default ∧ ws.getD j default ≤ 1000 := (fun j hj => p4 j (by omega)); obtain rfl : zs = reL ws T := (by rw [p3, List.take_of_length_le (by omega)]); have hL := lcmP_le hw g5; have hLp := lcmP_pos hw (Nat.le_refl _); have hLe := hL _ (Nat.le_refl _); have hTL : T.tmod (lcmP ws ws.length) = T % lcmP ws ws.length := Int.tmod_eq_emod_of_nonneg hT.1; have hrn := emod_le hT.1 hLp)
                     refine aw_exit ?_
                     refine then_x ?_
                     refine then_x ?_
                     refine block_hit ?_
                     refine then_n ?_
                     refine aw_seq ?_
                     refine aw_freezeR s7_22 mo_j7_21 (fun m_30 e_30 hm_30 he_30 => ?_)
                     have mo0_30 := m_set_o hm_30 mo0_21 (by omega)
                     have ml_30 := m_set_l hm_30 ml_21
                     have s1_30 : evA e_30 (.tmp 1) = _ := (congrArg (fun q => evA q (.tmp 1)) he_30).trans (up_m rfl s1_22)
                     have s2_30 : evA e_30 (.tmp 2) = _ := (congrArg (fun q => evA q (.tmp 2)) he_30).trans (up_m rfl s2_22)
                     have s3_30 : evA e_30 (.tmp 3) = _ := (congrArg (fun q => evA q (.tmp 3)) he_30).trans (up_m rfl s3_22)
                     have s7_30 : evA e_30 (.tmp 7) = _ := (congrArg (fun q => evA q (.tmp 7)) he_30).trans up_h
                     have s8_30 : evA e_30 (.tmp 8) = _ := (congrArg (fun q => evA q (.tmp 8)) he_30).trans (up_m rfl s8_22)
                     have s49_30 : evA e_30 (.tmp 49) = _ := (congrArg (fun q => evA q (.tmp 49)) he_30).trans (up_m rfl s49_22)
                     clear hm_30 he_30
                     refine aw_text (by kernel_rfl) ?_
                     refine al_ro' (ro_move s7_30) trivial rfl ?_
                     refine al_ro' (ro_call (evL_cons up_h evL_nil) rfl (joined4_ok ws T (by omega) (by omega) hw hL) q9_hcf11) trivial rfl ?_
                     refine al_ro' (ro_move up_h) trivial rfl ?_
                     refine al_ro' (ro_extract up_h rfl) trivial rfl ?_
                     refine al_ro' (ro_extract (up_m rfl up_h) rfl) trivial rfl ?_
                     refine al_stm (st_alloc q9_az32 rfl ml_30) trivial rfl (fun m_31 hm_31 => ?_)
                     have mon_21_31 := m_push hm_31 ml_30
                     (try simp only [packA_t, packA_f, iE, bE, setAt, cellsA, Value.cells, map_vc, map_vn, Nat.reduceAdd, qS, iE, rE, one_rE, app_m] at mon_21_31)
                     have mo0_31 := m_push_o hm_31 mo0_30
                     have ml_31 := m_push_l hm_31 ml_30
                     clear hm_31 mo0_30
                     refine al_stm (st_store up_h (u2 rfl up_h) rfl rfl mon_21_31 q9_sz32 rfl (by first | exact Nat.le_of_ble_eq_true rfl | omega | (simp only [lnS] <;> omega) | (simp <;> omega))) trivial rfl (fun m_32 hm_32 => ?_)
                     have mon_21_32 := m_set hm_32 mon_21_31
                     (try simp only [packA_t, packA_f, iE, bE, setAt, cellsA, Value.cells, map_vc, map_vn, Nat.reduceAdd, qS, iE, rE, one_rE, app_m] at mon_21_32)
                     have mo0_32 := m_set_o hm_32 mo0_31 (by omega)
                     have ml_32 := m_set_l hm_32 ml_31
                     clear hm_32 mon_21_31 mo0_31
                     refine al_ro' (ro_assign (up_n (up_m rfl up_h))) trivial rfl ?_
                     refine al_end (fun e_33 he_33 => ?_)
                     have s1_33 := ef 1 he_33 (up_m rfl (up_n (u2 rfl (u4 rfl s1_30))))
                     have s3_33 := ef 3 he_33 (up_m rfl (up_n (u2 rfl (u4 rfl s3_30))))
                     have s9_33 := ef 9 he_33 (up_m rfl (up_n up_h))
                     have s10_33 := ef 10 he_33 up_h
                     clear he_33 s1_30 s2_30 s3_30 s49_30 s7_30 s8_30
                     refine then_n ?_
                     refine aw_seq ?_
                     refine aw_seq ?_
                     refine aw_cut (fun e mem => (evA e (.tmp 92) = .v (.bool false)) ∧ (evA e (.tmp 1) = evA e_33 (.tmp 1)) ∧ (evA e (.tmp 3) = evA e_33 (.tmp 3)) ∧ (evA e (.tmp 9) = evA e_33 (.tmp 9)) ∧ m_32 = mem) ?_ ?_
                     ·
                       refine aw_draw 16 (by kernel_rfl) (by kernel_rfl) (by kernel_rfl) (by kernel_rfl) ?_
                       refine ds_ro' (ro_move s10_33) trivial rfl ?_
                       refine ds_ro' (ro_neq up_h ev_c) trivial rfl ?_
                       refine ds_ro' (ro_move up_h) trivial rfl ?_
                       refine ds_case up_h (fun hb_35 hq_35 => ?_) (fun hb_35 hq_35 => ?_)
                       · (first | replace hq_35 := bnt hq_35 | replace hq_35 := bnf hq_35 | replace hq_35 := bt hq_35 | replace hq_35 := bf hq_35 | replace hq_35 := bt' hq_35 | replace hq_35 := bf' hq_35 | skip)
                         first
                         | (cases hq_35; done) | (exfalso; omega)
                         | (
                            refine ds_skip' ⟨_, rfl, .inl hb_35⟩ rfl ?_
                            refine ds_skip' ⟨_, rfl, .inl (up_m rfl hb_35)⟩ rfl ?_
                            refine ds_skip' ⟨_, rfl, .inl (u2 rfl hb_35)⟩ rfl ?_
                            refine ds_ro' (ro_pickT (up_m rfl (u2 rfl hb_35)) ev_c) trivial rfl ?_
                            refine ds_ro' (ro_move up_h) trivial rfl ?_
                            refine ds_skip' ⟨_, rfl, .inl up_h⟩ rfl ?_
                            refine ds_skip' ⟨_, rfl, .inl (up_m rfl up_h)⟩ rfl ?_
                            refine ds_skip' ⟨_, rfl, .inl (u2 rfl up_h)⟩ rfl ?_
                            refine ds_skip' ⟨_, rfl, .inl (up_m rfl (u2 rfl up_h))⟩ rfl ?_
                            refine ds_skip' ⟨_, rfl, .inl (u4 rfl up_h)⟩ rfl ?_
                            refine ds_skip' ⟨_, rfl, .inl (up_m rfl (u4 rfl up_h))⟩ rfl ?_
                            refine ds_skip' ⟨_, rfl, .inl (u2 rfl (u4 rfl up_h))⟩ rfl ?_
                            refine ds_ro' (ro_pickT (up_m rfl (u2 rfl (u4 rfl up_h))) ev_c) trivial rfl ?_
                            refine ds_nil ?_
                            refine al_end (fun e_36 he_36 => ?_)
                            have s1_36 := ef 1 he_36 (u16 rfl s1_33)
                            have s3_36 := ef 3 he_36 (u16 rfl s3_33)
                            have s9_36 := ef 9 he_36 (u16 rfl s9_33)
                            have s92_36 := ef 92 he_36 up_h
                            clear he_36
                            refine then_n ⟨(s92_36).trans (by (first | rfl | (refine avb ?_; simp [hTL]; omega) | (refine avb ?_; simp [hTL]; done))), (s1_36).trans (s1_33).symm, (s3_36).trans (s3_33).symm, (s9_36).trans (s9_33).symm, rfl⟩)
                       · (first | replace hq_35 := bnt hq_35 | replace hq_35 := bnf hq_35 | replace hq_35 := bt hq_35 | replace hq_35 := bf hq_35 | replace hq_35 := bt' hq_35 | replace hq_35 := bf' hq_35 | skip)
                         first
                         | (cases hq_35; done) | (exfalso; omega)
                         | (
                            refine ds_ro' (ro_fld_ptr q9_fl32_0 rfl (up_m rfl (u2 rfl s9_33))) ⟨_, rfl, hb_35⟩ rfl ?_
                            refine ds_ro' (ro_eq (ro_ld_ptr q9_ty3 rfl mon_21_32 up_h (by first | exact Nat.le_of_ble_eq_true rfl | omega | (simp only [lnS] <;> omega) | (simp <;> omega))) (by first | (simp only [packA_t, packA_f, iE, bE, setAt, cellsA, Value.cells, map_vc, map_vn, Nat.reduceAdd, qS, iE, rE, one_rE, app_m] <;> rfl) | rfl)) ⟨_, rfl, (up_m rfl hb_35)⟩ rfl ?_
                            refine ds_ro' (ro_lss up_h ev_c) ⟨_, rfl, (u2 rfl hb_35)⟩ rfl ?_
                            refine ds_ro' (ro_pickF (up_m rfl (u2 rfl hb_35)) up_h) trivial rfl ?_
                            refine ds_ro' (ro_move up_h) trivial rfl ?_
                            refine ds_case up_h (fun hb_37 hq_37 => ?_) (fun hb_37 hq_37 => ?_)
                            · (first | replace hq_37 := bnt hq_37 | replace hq_37 := bnf hq_37 | replace hq_37 := bt hq_37 | replace hq_37 := bf hq_37 | replace hq_37 := bt' hq_37 | replace hq_37 := bf' hq_37 | skip)
                              first
                              | (cases hq_37; done) | (exfalso; omega)
                              | (
                                 refine ds_skip' ⟨_, rfl, .inl hb_37⟩ rfl ?_
                                 refine ds_skip' ⟨_, rfl, .inl (up_m rfl hb_37)⟩ rfl ?_
                                 refine ds_skip' ⟨_, rfl, .inl (u2 rfl hb_37)⟩ rfl ?_
                                 refine ds_skip' ⟨_, rfl, .inl (up_m rfl (u2 rfl hb_37))⟩ rfl ?_
                                 refine ds_skip' ⟨_, rfl, .inl (u4 rfl hb_37)⟩ rfl ?_
                                 refine ds_skip' ⟨_, rfl, .inl (up_m rfl (u4 rfl hb_37))⟩ rfl ?_
                                 refine ds_skip' ⟨_, rfl, .inl (u2 rfl (u4 rfl hb_37))⟩ rfl ?_
                                 refine ds_ro' (ro_pickT (up_m rfl (u2 rfl (u4 rfl hb_37))) ev_c) trivial rfl ?_
                                 refine ds_nil ?_
                                 refine al_end (fun e_38 he_38 => ?_)
                                 have s1_38 := ef 1 he_38 (u16 rfl s1_33)
                                 have s3_38 := ef 3 he_38 (u16 rfl s3_33)
                                 have s9_38 := ef 9 he_38 (u16 rfl s9_33)
                                 have s92_38 := ef 92 he_38 up_h
                                 clear he_38
                                 refine then_n ⟨(s92_38).trans (by (first | rfl | (refine avb ?_; simp [hTL]; omega) | (refine avb ?_; simp [hTL]; done))), (s1_38).trans (s1_33).symm, (s3_38).trans (s3_33).symm, (s9_38).trans (s9_33).symm, rfl⟩)
                            · (first | replace hq_37 := bnt hq_37 | replace hq_37 := bnf hq_37 | replace hq_37 := bt hq_37 | replace hq_37 := bf hq_37 | replace hq_37 := bt' hq_37 | replace hq_37 := bf' hq_37 | skip)
                              first
                              | (cases hq_37; done) | (exfalso; omega)
                              | (
                                 refine ds_ro' (ro_move (u8 rfl s1_33)) ⟨_, rfl, hb_37⟩ rfl ?_
                                 refine ds_ro' (ro_fld_ptr q9_fl32_0 rfl (up_m rfl (u8 rfl s9_33))) ⟨_, rfl, (up_m rfl hb_37)⟩ rfl ?_
                                 refine ds_ro' (ro_eq (ro_ld_ptr q9_ty3 rfl mon_21_32 up_h (by first | exact Nat.le_of_ble_eq_true rfl | omega | (simp only [lnS] <;> omega) | (simp <;> omega))) (by first | (simp only [packA_t, packA_f, iE, bE, setAt, cellsA, Value.cells, map_vc, map_vn, Nat.reduceAdd, qS, iE, rE, one_rE, app_m] <;> rfl) | rfl)) ⟨_, rfl, (u2 rfl hb_37)⟩ rfl ?_
                                 refine ds_ro' (ro_rem (u2 rfl up_h) up_h (by first | decide | omega)) ⟨_, rfl, (up_m rfl (u2 rfl hb_37))⟩ rfl ?_
                                 refine ds_ro' (ro_fld_ptr q9_fl32_1 rfl (u4 rfl (u8 rfl s9_33))) ⟨_, rfl, (u4 rfl hb_37)⟩ rfl ?_
                                 refine ds_ro' (ro_eq (ro_ld_ptr q9_ty3 rfl mon_21_32 up_h (by first | exact Nat.le_of_ble_eq_true rfl | omega | (simp only [lnS] <;> omega) | (simp <;> omega))) (by first | (simp only [packA_t, packA_f, iE, bE, setAt, cellsA, Value.cells, map_vc, map_vn, Nat.reduceAdd, qS, iE, rE, one_rE, app_m] <;> rfl) | rfl)) ⟨_, rfl, (up_m rfl (u4 rfl hb_37))⟩ rfl ?_
                                 refine ds_ro' (ro_neq (u2 rfl up_h) up_h) ⟨_, rfl, (u2 rfl (u4 rfl hb_37))⟩ rfl ?_
                                 refine ds_ro' (ro_pickF (up_m rfl (u2 rfl (u4 rfl hb_37))) up_h) trivial rfl ?_
                                 refine ds_nil ?_
                                 refine al_end (fun e_39 he_39 => ?_)
                                 have s1_39 := ef 1 he_39 (u16 rfl s1_33)
                                 have s3_39 := ef 3 he_39 (u16 rfl s3_33)
                                 have s9_39 := ef 9 he_39 (u16 rfl s9_33)
                                 have s92_39 := ef 92 he_39 up_h
                                 clear he_39
                                 refine then_n ⟨(s92_39).trans (by (first | rfl | (refine avb ?_; simp [hTL]; omega) | (refine avb ?_; simp [hTL]; done))), (s1_39).trans (s1_33).symm, (s3_39).trans (s3_33).symm, (s9_39).trans (s9_33).symm, rfl⟩))
                     · rintro e_34 _ ⟨s92_34, k1_34, k3_34, k9_34, rfl⟩
                       have s1_34 := k1_34.trans s1_33
                       have s3_34 := k3_34.trans s3_33
                       have s9_34 := k9_34.trans s9_33
                       refine aw_case s92_34 (fun hq_40 => ?_) (fun hq_40 => ?_)
                       · (first | replace hq_40 := bnt hq_40 | replace hq_40 := bnf hq_40 | replace hq_40 := bt hq_40 | replace hq_40 := bf hq_40 | replace hq_40 := bt' hq_40 | replace hq_40 := bf' hq_40 | skip)
                         first
                         | (cases hq_40; done) | (exfalso; omega)
                         | (
                            refine aw_seq ?_
                            refine aw_text (by kernel_rfl) ?_
                            refine al_ro' (ro_assign ev_c) trivial rfl ?_
                            refine al_end (fun e_41 he_41 => ?_)
                            have s6_41 := ef 6 he_41 up_h
                            clear he_41 s1_34 s3_34 s92_34 s9_34
                            refine then_n ?_
                            refine aw_ret ?_
                            refine then_r ?_
                            refine ret1 (.inr rfl) (by kernel_rfl) (resV_tmp s6_41) (.ro _ rfl) ?_
                            clear s6_41 mon_21_32 mo0_32 ml_32
                            (first | rfl | (simp; done) | (exfalso; omega)))
                       · (first | replace hq_40 := bnt hq_40 | replace hq_40 := bnf hq_40 | replace hq_40 := bt hq_40 | replace hq_40 := bf hq_40 | replace hq_40 := bt' hq_40 | replace hq_40 := bf' hq_40 | skip)
                         first
                         | (cases hq_40; done) | (exfalso; omega)
                         | (
                            refine aw_skip ?_
                            refine then_n ?_
                            refine aw_seq ?_
                            refine aw_text (by kernel_rfl) ?_
                            refine al_ro' (ro_eq (ro_ld_ptr q9_ty24 rfl mo0_32 s3_34 (by first | exact Nat.le_of_ble_eq_true rfl | omega | (simp only [lnS] <;> omega) | (simp <;> omega))) (by first | (simp only [packA_t, packA_f, iE, bE, setAt, cellsA, Value.cells, map_vc, map_vn, Nat.reduceAdd, qS, iE, rE, one_rE, app_m] <;> rfl) | rfl)) trivial rfl ?_
                            first | refine al_ro' (ro_call (evL_cons up_h evL_nil) rfl (rqCopy_ok t (by omega)) q9_hcf13) trivial rfl ?_ | refine al_ro' (ro_call (evL_cons up_h evL_nil) rfl (rqCopy_ok (ownT t (lcmP ws ws.length)) (by show t.van.length ≤ 1000; omega)) q9_hcf13) trivial rfl ?_
                            refine al_ro' (ro_call (evL_cons up_h evL_nil) rfl (teethOf_ok t hR) q9_hcf12) trivial rfl ?_
                            refine al_ro' (ro_move up_h) trivial rfl ?_
                            refine al_ro' (ro_extract up_h rfl) trivial rfl ?_
                            refine al_ro' (ro_extract (up_m rfl up_h) rfl) trivial rfl ?_
                            refine al_ro' (ro_assign (up_m rfl up_h)) trivial rfl ?_
                            refine al_ro' (ro_assign (up_m rfl up_h)) trivial rfl ?_
                            refine al_end (fun e_42 he_42 => ?_)
                            have s1_42 := ef 1 he_42 (u8 rfl s1_34)
                            have s3_42 := ef 3 he_42 (u8 rfl s3_34)
                            have s9_42 := ef 9 he_42 (u8 rfl s9_34)
                            have s11_42 := ef 11 he_42 (up_m rfl up_h)
                            have s12_42 := ef 12 he_42 up_h
                            clear he_42 s1_34 s3_34 s92_34 s9_34
                            refine then_n ?_
                            refine aw_seq ?_
                            refine aw_seq ?_
                            refine aw_text (by kernel_rfl) ?_
                            refine al_ro' (ro_move s12_42) trivial rfl ?_
                            refine al_ro' (ro_neq up_h ev_c) trivial rfl ?_
                            refine al_end (fun e_43 he_43 => ?_)
                            have s1_43 := ef 1 he_43 (u2 rfl s1_42)
                            have s3_43 := ef 3 he_43 (u2 rfl s3_42)
                            have s9_43 := ef 9 he_43 (u2 rfl s9_42)
                            have s11_43 := ef 11 he_43 (u2 rfl s11_42)
                            have s100_43 := ef 100 he_43 up_h
                            clear he_43 s11_42 s12_42 s1_42 s3_42 s9_42
                            refine then_n ?_
                            refine aw_case s100_43 (fun hq_44 => ?_) (fun hq_44 => ?_)
                            · (first | replace hq_44 := bnt hq_44 | replace hq_44 := bnf hq_44 | replace hq_44 := bt hq_44 | replace hq_44 := bf hq_44 | replace hq_44 := bt' hq_44 | replace hq_44 := bf' hq_44 | skip)
                              first
                              | (cases hq_44; done) | (exfalso; omega)
                              | (
                                 refine aw_seq ?_
                                 refine aw_text (by kernel_rfl) ?_
                                 refine al_ro' (ro_assign ev_c) trivial rfl ?_
                                 refine al_end (fun e_45 he_45 => ?_)
                                 have s6_45 := ef 6 he_45 up_h
                                 clear he_45 s100_43 s11_43 s1_43 s3_43 s9_43
                                 refine then_n ?_
                                 refine aw_ret ?_
                                 refine then_r ?_
                                 refine ret1 (.inr rfl) (by kernel_rfl) (resV_tmp s6_45) (.ro _ rfl) ?_
                                 clear s6_45 mon_21_32 mo0_32 ml_32
                                 (first | rfl | (simp; done) | (exfalso; omega)))
                            · (first | replace hq_44 := bnt hq_44 | replace hq_44 := bnf hq_44 | replace hq_44 := bt hq_44 | replace hq_44 := bf hq_44 | replace hq_44 := bt' hq_44 | replace hq_44 := bf' hq_44 | skip)
                              first
                              | (cases hq_44; done) | (exfalso; omega)
                              | (
                                 refine aw_skip ?_
                                 refine then_n ?_
                                 refine aw_seq ?_
                                 refine aw_seq ?_
                                 refine aw_text (by kernel_rfl) ?_
                                 refine al_ro' (ro_fld_ptr q9_fl32_0 rfl s9_43) trivial rfl ?_
                                 refine al_ro' (ro_eq (ro_ld_ptr q9_ty3 rfl mon_21_32 up_h (by first | exact Nat.le_of_ble_eq_true rfl | omega | (simp only [lnS] <;> omega) | (simp <;> omega))) (by first | (simp only [packA_t, packA_f, iE, bE, setAt, cellsA, Value.cells, map_vc, map_vn, Nat.reduceAdd, qS, iE, rE, one_rE, app_m] <;> rfl) | rfl)) trivial rfl ?_
                                 refine al_ro' (ro_move (u2 rfl s11_43)) trivial rfl ?_
                                 refine al_ro' (ro_lss (up_m rfl up_h) up_h) trivial rfl ?_
                                 refine al_end (fun e_46 he_46 => ?_)
                                 have s1_46 := ef 1 he_46 (u4 rfl s1_43)
                                 have s3_46 := ef 3 he_46 (u4 rfl s3_43)
                                 have s9_46 := ef 9 he_46 (u4 rfl s9_43)
                                 have s104_46 := ef 104 he_46 up_h
                                 clear he_46 s100_43 s11_43 s1_43 s3_43 s9_43
                                 refine then_n ?_
                                 refine aw_case s104_46 (fun hq_47 => ?_) (fun hq_47 => ?_)
                                 · (first | replace hq_47 := bnt hq_47 | replace hq_47 := bnf hq_47 | replace hq_47 := bt hq_47 | replace hq_47 := bf hq_47 | replace hq_47 := bt' hq_47 | replace hq_47 := bf' hq_47 | skip)
                                   first
                                   | (cases hq_47; done) | (exfalso; omega)
                                   | (
                                      refine aw_seq ?_
                                      refine aw_text (by kernel_rfl) ?_
                                      refine al_ro' (ro_assign ev_c) trivial rfl ?_
                                      refine al_end (fun e_48 he_48 => ?_)
                                      have s6_48 := ef 6 he_48 up_h
                                      clear he_48 s104_46 s1_46 s3_46 s9_46
                                      refine then_n ?_
                                      refine aw_ret ?_
                                      refine then_r ?_
                                      refine ret1 (.inr rfl) (by kernel_rfl) (resV_tmp s6_48) (.ro _ rfl) ?_
                                      clear s6_48 mon_21_32 mo0_32 ml_32
                                      (first | rfl | (simp; done) | (exfalso; omega)))
                                 · (first | replace hq_47 := bnt hq_47 | replace hq_47 := bnf hq_47 | replace hq_47 := bt hq_47 | replace hq_47 := bf hq_47 | replace hq_47 := bt' hq_47 | replace hq_47 := bf' hq_47 | skip)
                                   first
                                   | (cases hq_47; done) | (exfalso; omega)
                                   | (
                                      (have hTe : T % lcmP ws ws.length = T := Int.emod_eq_of_lt hT.1 (by omega))
                                      refine aw_skip ?_
                                      refine then_n ?_
                                      refine aw_seq ?_
                                      refine aw_seq ?_
                                      refine aw_text (by kernel_rfl) ?_
                                      refine al_ro' (ro_fld_ptr q9_fl32_1 rfl s9_46) trivial rfl ?_
                                      refine al_ro' (ro_eq (ro_ld_ptr q9_ty3 rfl mon_21_32 up_h (by first | exact Nat.le_of_ble_eq_true rfl | omega | (simp only [lnS] <;> omega) | (simp <;> omega))) (by first | (simp only [packA_t, packA_f, iE, bE, setAt, cellsA, Value.cells, map_vc, map_vn, Nat.reduceAdd, qS, iE, rE, one_rE, app_m] <;> rfl) | rfl)) trivial rfl ?_
                                      refine al_ro' (ro_move (u2 rfl s1_46)) trivial rfl ?_
                                      refine al_ro' (ro_neq (up_m rfl up_h) up_h) trivial rfl ?_
                                      refine al_end (fun e_49 he_49 => ?_)
                                      have s1_49 := ef 1 he_49 (u4 rfl s1_46)
                                      have s3_49 := ef 3 he_49 (u4 rfl s3_46)
                                      have s9_49 := ef 9 he_49 (u4 rfl s9_46)
                                      have s108_49 := ef 108 he_49 up_h
                                      clear he_49 s104_46 s1_46 s3_46 s9_46
                                      refine then_n ?_
                                      refine aw_case s108_49 (fun hq_50 => ?_) (fun hq_50 => ?_)
                                      · (first | replace hq_50 := bnt hq_50 | replace hq_50 := bnf hq_50 | replace hq_50 := bt hq_50 | replace hq_50 := bf hq_50 | replace hq_50 := bt' hq_50 | replace hq_50 := bf' hq_50 | skip)
                                        first
                                        | (cases hq_50; done) | (exfalso; omega)
                                        | (
                                           refine aw_seq ?_
                                           refine aw_text (by kernel_rfl) ?_
                                           refine al_ro' (ro_assign ev_c) trivial rfl ?_
                                           refine al_end (fun e_51 he_51 => ?_)
                                           have s6_51 := ef 6 he_51 up_h
                                           clear he_51 s108_49 s1_49 s3_49 s9_49
                                           refine then_n ?_
                                           refine aw_ret ?_
                                           refine then_r ?_
                                           refine ret1 (.inr rfl) (by kernel_rfl) (resV_tmp s6_51) (.ro _ rfl) ?_
                                           clear s6_51 mon_21_32 mo0_32 ml_32
                                           (first | rfl | (simp; done) | (exfalso; omega)))
                                      · (first | replace hq_50 := bnt hq_50 | replace hq_50 := bnf hq_50 | replace hq_50 := bt hq_50 | replace hq_50 := bf hq_50 | replace hq_50 := bt' hq_50 | replace hq_50 := bf' hq_50 | skip)
                                        first
                                        | (cases hq_50; done) | (exfalso; omega)
                                        | (
                                           refine aw_skip ?_
                                           refine then_n ?_
                                           refine aw_seq ?_
                                           refine aw_text (by kernel_rfl) ?_
                                           refine al_ro' (ro_eq (ro_ld_ptr q9_ty24 rfl mo0_32 s3_49 (by first | exact Nat.le_of_ble_eq_true rfl | omega | (simp only [lnS] <;> omega) | (simp <;> omega))) (by first | (simp only [packA_t, packA_f, iE, bE, setAt, cellsA, Value.cells, map_vc, map_vn, Nat.reduceAdd, qS, iE, rE, one_rE, app_m] <;> rfl) | rfl)) trivial rfl ?_
                                           first | refine al_ro' (ro_call (evL_cons up_h evL_nil) rfl (rqCopy_ok t (by omega)) q9_hcf13) trivial rfl ?_ | refine al_ro' (ro_call (evL_cons up_h evL_nil) rfl (rqCopy_ok (ownT t (lcmP ws ws.length)) (by show t.van.length ≤ 1000; omega)) q9_hcf13) trivial rfl ?_
                                           refine al_stm (st_alloc q9_az24 rfl ml_32) trivial rfl (fun m_52 hm_52 => ?_)
                                           have mon_21_1_52 := m_push hm_52 ml_32
                                           (try simp only [packA_t, packA_f, iE, bE, setAt, cellsA, Value.cells, map_vc, map_vn, Nat.reduceAdd, qS, iE, rE, one_rE, app_m] at mon_21_1_52)
                                           have mon_21_52 := m_push_o hm_52 mon_21_32
                                           have mo0_52 := m_push_o hm_52 mo0_32
                                           have ml_52 := m_push_l hm_52 ml_32
                                           clear hm_52 mon_21_32 mo0_32
                                           refine al_stm (st_store up_h (up_m rfl up_h) rfl rfl mon_21_1_52 q9_sz24 rfl (by first | exact Nat.le_of_ble_eq_true rfl | omega | (simp only [lnS] <;> omega) | (simp <;> omega))) trivial rfl (fun m_53 hm_53 => ?_)
                                           have mon_21_1_53 := m_set hm_53 mon_21_1_52
                                           (try simp only [packA_t, packA_f, iE, bE, setAt, cellsA, Value.cells, map_vc, map_vn, Nat.reduceAdd, qS, iE, rE, one_rE, app_m] at mon_21_1_53)
                                           have mon_21_53 := m_set_o hm_53 mon_21_52 (by omega)
                                           have mo0_53 := m_set_o hm_53 mo0_52 (by omega)
                                           have ml_53 := m_set_l hm_53 ml_52
                                           clear hm_53 mon_21_1_52 mon_21_52 mo0_52
                                           refine al_end (fun e_54 he_54 => ?_)
                                           have s1_54 := ef 1 he_54 (up_n (up_m rfl (u2 rfl s1_49)))
                                           have s3_54 := ef 3 he_54 (up_n (up_m rfl (u2 rfl s3_49)))
                                           have s9_54 := ef 9 he_54 (up_n (up_m rfl (u2 rfl s9_49)))
                                           have s13_54 := ef 13 he_54 (up_n up_h)
                                           clear he_54 s108_49 s1_49 s3_49 s9_49
                                           refine then_n ?_
                                           refine aw_seq ?_
                                           refine aw_seq ?_
                                           refine aw_text (by kernel_rfl) ?_
                                           refine al_ro' (ro_fld_ptr q9_fl32_0 rfl s9_54) trivial rfl ?_
                                           refine al_ro' (ro_eq (ro_ld_ptr q9_ty3 rfl mon_21_53 up_h (by first | exact Nat.le_of_ble_eq_true rfl | omega | (simp only [lnS] <;> omega) | (simp <;> omega))) (by first | (simp only [packA_t, packA_f, iE, bE, setAt, cellsA, Value.cells, map_vc, map_vn, Nat.reduceAdd, qS, iE, rE, one_rE, app_m] <;> rfl) | rfl)) trivial rfl ?_
                                           refine al_ro' (ro_gtr up_h ev_c) trivial rfl ?_
                                           refine al_end (fun e_55 he_55 => ?_)
                                           have s1_55 := ef 1 he_55 (up_m rfl (u2 rfl s1_54))
                                           have s3_55 := ef 3 he_55 (up_m rfl (u2 rfl s3_54))
                                           have s9_55 := ef 9 he_55 (up_m rfl (u2 rfl s9_54))
                                           have s13_55 := ef 13 he_55 (up_m rfl (u2 rfl s13_54))
                                           have s113_55 := ef 113 he_55 up_h
                                           clear he_55 s13_54 s1_54 s3_54 s9_54
                                           refine then_n ?_
                                           refine aw_case s113_55 (fun hq_56 => ?_) (fun hq_56 => ?_)
                                           · (first | replace hq_56 := bnt hq_56 | replace hq_56 := bnf hq_56 | replace hq_56 := bt hq_56 | replace hq_56 := bf hq_56 | replace hq_56 := bt' hq_56 | replace hq_56 := bf' hq_56 | skip)
                                             first
                                             | (cases hq_56; done) | (exfalso; omega)
                                             | (
                                                refine aw_seq ?_
                                                refine aw_text (by kernel_rfl) ?_
                                                refine al_ro' (ro_assign ev_c) trivial rfl ?_
                                                refine al_end (fun e_57 he_57 => ?_)
                                                have s6_57 := ef 6 he_57 up_h
                                                clear he_57 s113_55 s13_55 s1_55 s3_55 s9_55
                                                refine then_n ?_
                                                refine aw_ret ?_
                                                refine then_r ?_
                                                refine ret1 (.inr rfl) (by kernel_rfl) (resV_tmp s6_57) (.ro _ rfl) ?_
                                                clear s6_57 mon_21_1_53 mon_21_53 mo0_53 ml_53
                                                (first | rfl | (simp; done) | (exfalso; omega)))
                                           · (first | replace hq_56 := bnt hq_56 | replace hq_56 := bnf hq_56 | replace hq_56 := bt hq_56 | replace hq_56 := bf hq_56 | replace hq_56 := bt' hq_56 | replace hq_56 := bf' hq_56 | skip)
                                             first
                                             | (cases hq_56; done) | (exfalso; omega)
                                             | (
                                                (have hLb : 1 ≤ lcmP ws ws.length ∧ lcmP ws ws.length ≤ 1000 := (by omega); have hown := own_right hR hLb; have hdv : T.tdiv t.per = T / t.per := Int.tdiv_eq_ediv_of_nonneg hT.1; have hper := hR.per; have htd := tdivQ hT.1 hper.1; have hwi : 0 ≤ T.tdiv t.per ∧ T.tdiv t.per < wnd (ownT t (lcmP ws ws.length)) := (by rw [hdv]; exact ⟨Int.ediv_nonneg hT.1 (by omega), (Int.ediv_lt_iff_lt_mul (by omega)).2 hT.2⟩); have hcnt : 0 ≤ T % lcmP ws ws.length ∧ T % lcmP ws ws.length < (ownT t (lcmP ws ws.length)).mod := ⟨hrn.1, hrn.2.2⟩; have hO : OneT (ownT t (lcmP ws ws.length)) (seeW (ownT t (lcmP ws ws.length)) (T.tdiv t.per)) (T % lcmP ws ws.length) T := (by rw [hTe, hdv]; exact own_one hR hLb hT (by omega)))
                                                refine aw_skip ?_
                                                refine then_n ?_
                                                refine aw_seq ?_
                                                refine aw_text (by kernel_rfl) ?_
                                                refine al_ro' (ro_fld_ptr q9_fl32_0 rfl s9_55) trivial rfl ?_
                                                refine al_ro' (ro_eq (ro_ld_ptr q9_ty3 rfl mon_21_53 up_h (by first | exact Nat.le_of_ble_eq_true rfl | omega | (simp only [lnS] <;> omega) | (simp <;> omega))) (by first | (simp only [packA_t, packA_f, iE, bE, setAt, cellsA, Value.cells, map_vc, map_vn, Nat.reduceAdd, qS, iE, rE, one_rE, app_m] <;> rfl) | rfl)) trivial rfl ?_
                                                refine al_ro' (ro_fld_ptr q9_fl24_5 rfl (u2 rfl s13_55)) trivial rfl ?_
                                                refine al_stm (st_store up_h (up_m rfl up_h) rfl rfl mon_21_1_53 q9_sz3 rfl (by first | exact Nat.le_of_ble_eq_true rfl | omega | (simp only [lnS] <;> omega) | (simp <;> omega))) trivial rfl (fun m_58 hm_58 => ?_)
                                                have mon_21_1_58 := m_set hm_58 mon_21_1_53
                                                (try simp only [packA_t, packA_f, iE, bE, setAt, cellsA, Value.cells, map_vc, map_vn, Nat.reduceAdd, qS, iE, rE, one_rE, app_m] at mon_21_1_58)
                                                have mon_21_58 := m_set_o hm_58 mon_21_53 (by omega)
                                                have mo0_58 := m_set_o hm_58 mo0_53 (by omega)
                                                have ml_58 := m_set_l hm_58 ml_53
                                                clear hm_58 mon_21_1_53 mon_21_53 mo0_53
                                                refine al_ro' (ro_fld_ptr q9_fl24_6 rfl (up_n (up_m rfl (u2 rfl s13_55)))) trivial rfl ?_
                                                refine al_stm (st_store up_h ev_c rfl rfl mon_21_1_58 q9_sz3 rfl (by first | exact Nat.le_of_ble_eq_true rfl | omega | (simp only [lnS] <;> omega) | (simp <;> omega))) trivial rfl (fun m_59 hm_59 => ?_)
                                                have mon_21_1_59 := m_set hm_59 mon_21_1_58
                                                (try simp only [packA_t, packA_f, iE, bE, setAt, cellsA, Value.cells, map_vc, map_vn, Nat.reduceAdd, qS, iE, rE, one_rE, app_m] at mon_21_1_59)
                                                have mon_21_59 := m_set_o hm_59 mon_21_58 (by omega)
                                                have mo0_59 := m_set_o hm_59 mo0_58 (by omega)
                                                have ml_59 := m_set_l hm_59 ml_58
                                                clear hm_59 mon_21_1_58 mon_21_58 mo0_58
                                                refine al_end (fun e_60 he_60 => ?_)
                                                have s1_60 := ef 1 he_60 (up_n (up_m rfl (up_n (up_m rfl (u2 rfl s1_55)))))
                                                have s3_60 := ef 3 he_60 (up_n (up_m rfl (up_n (up_m rfl (u2 rfl s3_55)))))
                                                have s9_60 := ef 9 he_60 (up_n (up_m rfl (up_n (up_m rfl (u2 rfl s9_55)))))
                                                have s13_60 := ef 13 he_60 (up_n (up_m rfl (up_n (up_m rfl (u2 rfl s13_55)))))
                                                clear he_60 s113_55 s13_55 s1_55 s3_55 s9_55
                                                refine then_n ?_
                                                refine aw_seq ?_
                                                refine aw_draw 12 (by kernel_rfl) (by kernel_rfl) (by kernel_rfl) (by kernel_rfl) ?_
                                                refine ds_ro' (ro_eq (ro_ld_ptr q9_ty24 rfl mon_21_1_59 s13_60 (by first | exact Nat.le_of_ble_eq_true rfl | omega | (simp only [lnS] <;> omega) | (simp <;> omega))) (by first | (simp only [packA_t, packA_f, iE, bE, setAt, cellsA, Value.cells, map_vc, map_vn, Nat.reduceAdd, qS, iE, rE, one_rE, app_m] <;> rfl) | rfl)) trivial rfl ?_
                                                first | refine ds_ro' (ro_call (evL_cons up_h evL_nil) rfl (rqCopy_ok t (by omega)) q9_hcf13) trivial rfl ?_ | refine ds_ro' (ro_call (evL_cons up_h evL_nil) rfl (rqCopy_ok (ownT t (lcmP ws ws.length)) (by show t.van.length ≤ 1000; omega)) q9_hcf13) trivial rfl ?_
                                                refine ds_ro' (ro_move (u2 rfl s1_60)) trivial rfl ?_
                                                refine ds_ro' (ro_fld_ptr q9_fl24_3 rfl (up_m rfl (u2 rfl s3_60))) trivial rfl ?_
                                                refine ds_ro' (ro_eq (ro_ld_ptr q9_ty3 rfl mo0_59 up_h (by first | exact Nat.le_of_ble_eq_true rfl | omega | (simp only [lnS] <;> omega) | (simp <;> omega))) (by first | (simp only [packA_t, packA_f, iE, bE, setAt, cellsA, Value.cells, map_vc, map_vn, Nat.reduceAdd, qS, iE, rE, one_rE, app_m] <;> rfl) | rfl)) trivial rfl ?_
                                                first | (refine ds_ro' (ro_quo' (u2 rfl up_h) up_h (by first | decide | omega) ?_) trivial rfl ?_; · (unfold In64; omega)) | refine ds_ro' (ro_quo (u2 rfl up_h) up_h (by first | decide | omega)) trivial rfl ?_
                                                refine ds_ro' (ro_call (evL_cons (u4 rfl up_h) (evL_cons up_h evL_nil)) rfl (windowAt_ok (ownT t (lcmP ws ws.length)) hown (T.tdiv t.per) hwi) q9_hcf14) trivial rfl ?_
                                                refine ds_ro' (ro_move up_h) trivial rfl ?_
                                                refine ds_ro' (ro_extract up_h rfl) trivial rfl ?_
                                                refine ds_ro' (ro_extract (up_m rfl up_h) rfl) trivial rfl ?_
                                                refine ds_ro' (ro_assign (up_m rfl up_h)) trivial rfl ?_
                                                refine ds_ro' (ro_assign (up_m rfl up_h)) trivial rfl ?_
                                                refine ds_nil ?_
                                                refine al_end (fun e_61 he_61 => ?_)
                                                have s1_61 := ef 1 he_61 (u4 rfl (u8 rfl s1_60))
                                                have s9_61 := ef 9 he_61 (u4 rfl (u8 rfl s9_60))
                                                have s13_61 := ef 13 he_61 (u4 rfl (u8 rfl s13_60))
                                                have s14_61 := ef 14 he_61 (up_m rfl up_h)
                                                have s15_61 := ef 15 he_61 up_h
                                                clear he_61 s13_60 s1_60 s3_60 s9_60
                                                refine then_n ?_
                                                refine aw_seq ?_
                                                refine aw_drawK 12 1 ml_59 (by kernel_rfl) (by kernel_rfl) (by kernel_rfl) (by kernel_rfl) (fun m_62 hm_62 => ?_)
                                                have mon_21_1_62 := m_room_o hm_62 mon_21_1_59
                                                have mon_21_62 := m_room_o hm_62 mon_21_59
                                                have mo0_62 := m_room_o hm_62 mo0_59
                                                have mon_21_1_1_62 : m_62[n_21 + 1 + 1]? = _ := m_room_g hm_62 ml_59 0 rfl rfl
                                                have ml_62 : _ = n_21 + 1 + 1 + 1 := m_room_l hm_62 ml_59
                                                clear hm_62 mon_21_1_59 mon_21_59 mo0_59 ml_59
                                                refine dh_ld (n_21 + 1) (fun M_ hM_ => (ro_eq (ro_ld_ptr q9_ty24 rfl (agr hM_ mon_21_1_62 (by simp)) s13_61 (by first | exact Nat.le_of_ble_eq_true rfl | omega | (simp only [lnS] <;> omega) | (simp <;> omega))) (by first | (simp only [packA_t, packA_f, iE, bE, setAt, cellsA, Value.cells, map_vc, map_vn, Nat.reduceAdd, qS, iE, rE, one_rE, app_m] <;> rfl) | rfl))) trivial trivial ?_
                                                first | refine dh_ro (fun M_ hM_ => (ro_call (evL_cons up_h evL_nil) rfl (rqCopy_ok t (by omega)) q9_hcf13)) trivial ?_ | refine dh_ro (fun M_ hM_ => (ro_call (evL_cons up_h evL_nil) rfl (rqCopy_ok (ownT t (lcmP ws ws.length)) (by show t.van.length ≤ 1000; omega)) q9_hcf13)) trivial ?_
                                                refine dh_ro (fun M_ hM_ => (ro_move (u2 rfl s14_61))) trivial ?_
                                                refine dh_ro (fun M_ hM_ => (ro_fld_ptr q9_fl32_1 rfl (up_m rfl (u2 rfl s9_61)))) trivial ?_
                                                refine dh_ld (n_21) (fun M_ hM_ => (ro_eq (ro_ld_ptr q9_ty3 rfl (agr hM_ mon_21_62 (by simp)) up_h (by first | exact Nat.le_of_ble_eq_true rfl | omega | (simp only [lnS] <;> omega) | (simp <;> omega))) (by first | (simp only [packA_t, packA_f, iE, bE, setAt, cellsA, Value.cells, map_vc, map_vn, Nat.reduceAdd, qS, iE, rE, one_rE, app_m] <;> rfl) | rfl))) trivial trivial ?_
                                                refine dh_ro (fun M_ hM_ => (ro_build (evP_cons (u2 rfl up_h) (evP_cons up_h evP_nil)) q9_bz46 q9_bu46 q9_bp46 rfl)) trivial ?_
                                                refine dh_ro (fun M_ hM_ => (ro_call (evL_cons (u4 rfl up_h) (evL_cons up_h evL_nil)) rfl (placeOf_ok (ownT t (lcmP ws ws.length)) hown (seeW (ownT t (lcmP ws ws.length)) (T.tdiv t.per)) (seeW_len hown _) (seeW_see hown _) (T % lcmP ws ws.length) T hcnt hO) q9_hcf15)) trivial ?_
                                                refine dh_ro (fun M_ hM_ => (ro_move up_h)) trivial ?_
                                                refine dh_ro (fun M_ hM_ => (ro_extract up_h rfl)) trivial ?_
                                                refine dh_ro (fun M_ hM_ => (ro_extract (up_m rfl up_h) rfl)) trivial ?_
                                                refine dh_nw (n_21 + 1 + 1) (fun M_ hM_ => (nw_alloc q9_az42 rfl)) trivial mon_21_1_1_62 rfl trivial ⟨.inl (by simp <;> omega), ⟨.inl (by simp <;> omega), trivial⟩⟩ (fun m_63 hm_63 => ?_)
                                                have mon_21_1_1_63 := m_set hm_63 mon_21_1_1_62
                                                (try simp only [packA_t, packA_f, iE, bE, setAt, cellsA, Value.cells, map_vc, map_vn, Nat.reduceAdd, qS, iE, rE, one_rE, app_m] at mon_21_1_1_63)
                                                have mon_21_1_63 := m_set_o hm_63 mon_21_1_62 (by omega)
                                                have mon_21_63 := m_set_o hm_63 mon_21_62 (by omega)
                                                have mo0_63 := m_set_o hm_63 mo0_62 (by omega)
                                                have ml_63 := m_set_l hm_63 ml_62
                                                clear hm_63 mon_21_1_62 mon_21_62 mo0_62 mon_21_1_1_62
                                                refine dh_set (n_21 + 1 + 1) (fun M_ hM_ => (se_store up_h (u2 rfl up_h) rfl rfl (agr hM_ mon_21_1_1_63 (by simp)) q9_sz42 rfl (by first | exact Nat.le_of_ble_eq_true rfl | omega | (simp only [lnS] <;> omega) | (simp <;> omega)))) trivial ⟨.inr (wt_one 11 10 (by kernel_rfl)), trivial⟩ ⟨.inl (by simp <;> omega), ⟨.inl (by simp <;> omega), ⟨.inr (wt_one 11 10 (by kernel_rfl)), trivial⟩⟩⟩ (fun m_64 hm_64 => ?_)
                                                have mon_21_1_1_64 := m_set hm_64 mon_21_1_1_63
                                                (try simp only [packA_t, packA_f, iE, bE, setAt, cellsA, Value.cells, map_vc, map_vn, Nat.reduceAdd, qS, iE, rE, one_rE, app_m] at mon_21_1_1_64)
                                                have mon_21_1_64 := m_set_o hm_64 mon_21_1_63 (by omega)
                                                have mon_21_64 := m_set_o hm_64 mon_21_63 (by omega)
                                                have mo0_64 := m_set_o hm_64 mo0_63 (by omega)
                                                have ml_64 := m_set_l hm_64 ml_63
                                                clear hm_64 mon_21_1_1_63 mon_21_1_63 mon_21_63 mo0_63
                                                refine dh_nil rfl ?_
                                                refine al_ro' (ro_assign (up_n (up_m rfl up_h))) trivial rfl ?_
                                                refine al_end (fun e_65 he_65 => ?_)
                                                have s1_65 := ef 1 he_65 (up_m rfl (up_n (up_m rfl (u2 rfl (u8 rfl s1_61)))))
                                                have s13_65 := ef 13 he_65 (up_m rfl (up_n (up_m rfl (u2 rfl (u8 rfl s13_61)))))
                                                have s15_65 := ef 15 he_65 (up_m rfl (up_n (up_m rfl (u2 rfl (u8 rfl s15_61)))))
                                                have s16_65 := ef 16 he_65 (up_m rfl (up_n up_h))
                                                have s17_65 := ef 17 he_65 up_h
                                                clear he_65 s13_61 s14_61 s15_61 s1_61 s9_61
                                                refine then_n ?_
                                                refine aw_seq ?_
                                                refine aw_text (by kernel_rfl) ?_
                                                refine al_ro' (ro_eq (ro_ld_ptr q9_ty24 rfl mon_21_1_64 s13_65 (by first | exact Nat.le_of_ble_eq_true rfl | omega | (simp only [lnS] <;> omega) | (simp <;> omega))) (by first | (simp only [packA_t, packA_f, iE, bE, setAt, cellsA, Value.cells, map_vc, map_vn, Nat.reduceAdd, qS, iE, rE, one_rE, app_m] <;> rfl) | rfl)) trivial rfl ?_
                                                first | refine al_ro' (ro_call (evL_cons up_h evL_nil) rfl (rqCopy_ok t (by omega)) q9_hcf13) trivial rfl ?_ | refine al_ro' (ro_call (evL_cons up_h evL_nil) rfl (rqCopy_ok (ownT t (lcmP ws ws.length)) (by show t.van.length ≤ 1000; omega)) q9_hcf13) trivial rfl ?_
                                                refine al_ro' (ro_move (u2 rfl s1_65)) trivial rfl ?_
                                                refine al_ro' (ro_call (evL_cons (up_m rfl up_h) (evL_cons up_h evL_nil)) rfl (placesOf_ok (ownT t (lcmP ws ws.length)) hown T hT) q9_hcf16) trivial rfl ?_
                                                refine al_ro' (ro_move up_h) trivial rfl ?_
                                                refine al_ro' (ro_extract up_h rfl) trivial rfl ?_
                                                refine al_ro' (ro_extract (up_m rfl up_h) rfl) trivial rfl ?_
                                                refine al_stm (st_alloc q9_az42 rfl ml_64) trivial rfl (fun m_66 hm_66 => ?_)
                                                have mon_21_1_1_1_66 := m_push hm_66 ml_64
                                                (try simp only [packA_t, packA_f, iE, bE, setAt, cellsA, Value.cells, map_vc, map_vn, Nat.reduceAdd, qS, iE, rE, one_rE, app_m] at mon_21_1_1_1_66)
                                                have mon_21_1_1_66 := m_push_o hm_66 mon_21_1_1_64
                                                have mon_21_1_66 := m_push_o hm_66 mon_21_1_64
                                                have mon_21_66 := m_push_o hm_66 mon_21_64
                                                have mo0_66 := m_push_o hm_66 mo0_64
                                                have ml_66 := m_push_l hm_66 ml_64
                                                clear hm_66 mon_21_1_1_64 mon_21_1_64 mon_21_64 mo0_64
                                                refine al_stm (st_store up_h (u2 rfl up_h) rfl rfl mon_21_1_1_1_66 q9_sz42 rfl (by first | exact Nat.le_of_ble_eq_true rfl | omega | (simp only [lnS] <;> omega) | (simp <;> omega))) trivial rfl (fun m_67 hm_67 => ?_)
                                                have mon_21_1_1_1_67 := m_set hm_67 mon_21_1_1_1_66
                                                (try simp only [packA_t, packA_f, iE, bE, setAt, cellsA, Value.cells, map_vc, map_vn, Nat.reduceAdd, qS, iE, rE, one_rE, app_m] at mon_21_1_1_1_67)
                                                have mon_21_1_1_67 := m_set_o hm_67 mon_21_1_1_66 (by omega)
                                                have mon_21_1_67 := m_set_o hm_67 mon_21_1_66 (by omega)
                                                have mon_21_67 := m_set_o hm_67 mon_21_66 (by omega)
                                                have mo0_67 := m_set_o hm_67 mo0_66 (by omega)
                                                have ml_67 := m_set_l hm_67 ml_66
                                                clear hm_67 mon_21_1_1_1_66 mon_21_1_1_66 mon_21_1_66 mon_21_66 mo0_66
                                                refine al_ro' (ro_assign (up_n (up_m rfl up_h))) trivial rfl ?_
                                                refine al_end (fun e_68 he_68 => ?_)
                                                have s15_68 := ef 15 he_68 (up_m rfl (up_n (u8 rfl s15_65)))
                                                have s16_68 := ef 16 he_68 (up_m rfl (up_n (u8 rfl s16_65)))
                                                have s17_68 := ef 17 he_68 (up_m rfl (up_n (u8 rfl s17_65)))
                                                have s18_68 := ef 18 he_68 (up_m rfl (up_n up_h))
                                                have s19_68 := ef 19 he_68 up_h
                                                clear he_68 s13_65 s15_65 s16_65 s17_65 s1_65
                                                refine then_n ?_
                                                refine aw_seq ?_
                                                refine aw_text (by kernel_rfl) ?_
                                                refine al_ro' (ro_move s15_68) trivial rfl ?_
                                                refine al_ro' (ro_eql up_h ev_c) trivial rfl ?_
                                                refine al_ro' (ro_move up_h) trivial rfl ?_
                                                refine al_case up_h (fun hb_69 hq_69 => ?_) (fun hb_69 hq_69 => ?_)
                                                · (first | replace hq_69 := bnt hq_69 | replace hq_69 := bnf hq_69 | replace hq_69 := bt hq_69 | replace hq_69 := bf hq_69 | replace hq_69 := bt' hq_69 | replace hq_69 := bf' hq_69 | skip)
                                                  first
                                                  | (cases hq_69; done) | (exfalso; omega)
                                                  | (
                                                     refine al_ro' (ro_move (up_m rfl (u2 rfl s17_68))) ⟨_, rfl, hb_69⟩ rfl ?_
                                                     refine al_ro' (ro_eql up_h ev_c) ⟨_, rfl, (up_m rfl hb_69)⟩ rfl ?_
                                                     refine al_ro' (ro_pickT (u2 rfl hb_69) up_h) trivial rfl ?_
                                                     refine al_ro' (ro_move up_h) trivial rfl ?_
                                                     refine al_case up_h (fun hb_70 hq_70 => ?_) (fun hb_70 hq_70 => ?_)
                                                     · (first | replace hq_70 := bnt hq_70 | replace hq_70 := bnf hq_70 | replace hq_70 := bt hq_70 | replace hq_70 := bf hq_70 | replace hq_70 := bt' hq_70 | replace hq_70 := bf' hq_70 | skip)
                                                       first
                                                       | (cases hq_70; done) | (exfalso; omega)
                                                       | (
                                                          refine al_ro' (ro_move (up_m rfl (u2 rfl (u4 rfl s19_68)))) ⟨_, rfl, hb_70⟩ rfl ?_
                                                          refine al_ro' (ro_eql up_h ev_c) ⟨_, rfl, (up_m rfl hb_70)⟩ rfl ?_
                                                          refine al_ro' (ro_pickT (u2 rfl hb_70) up_h) trivial rfl ?_
                                                          refine al_ro' (ro_move up_h) trivial rfl ?_
                                                          refine al_case up_h (fun hb_71 hq_71 => ?_) (fun hb_71 hq_71 => ?_)
                                                          · (first | replace hq_71 := bnt hq_71 | replace hq_71 := bnf hq_71 | replace hq_71 := bt hq_71 | replace hq_71 := bf hq_71 | replace hq_71 := bt' hq_71 | replace hq_71 := bf' hq_71 | skip)
                                                            first
                                                            | (cases hq_71; done) | (exfalso; omega)
                                                            | (
                                                               refine al_ro' (ro_eq (ro_ld_ptr q9_ty42 rfl mon_21_1_1_67 (up_m rfl (u2 rfl (u8 rfl s16_68))) (by first | exact Nat.le_of_ble_eq_true rfl | omega | (simp only [lnS] <;> omega) | (simp <;> omega))) (by first | (simp only [packA_t, packA_f, iE, bE, setAt, cellsA, Value.cells, map_vc, map_vn, Nat.reduceAdd, qS, iE, rE, one_rE, app_m] <;> rfl) | rfl)) ⟨_, rfl, hb_71⟩ rfl ?_
                                                               refine al_ro' (ro_eq (ro_ld_ptr q9_ty42 rfl mon_21_1_1_1_67 (u4 rfl (u8 rfl s18_68)) (by first | exact Nat.le_of_ble_eq_true rfl | omega | (simp only [lnS] <;> omega) | (simp <;> omega))) (by first | (simp only [packA_t, packA_f, iE, bE, setAt, cellsA, Value.cells, map_vc, map_vn, Nat.reduceAdd, qS, iE, rE, one_rE, app_m] <;> rfl) | rfl)) ⟨_, rfl, (up_m rfl hb_71)⟩ rfl ?_
                                                               refine al_ro' (ro_sqeql (up_m rfl up_h) up_h rfl rfl q9_gq42 q9_sq42 (by decide)) ⟨_, rfl, (u2 rfl hb_71)⟩ rfl ?_
                                                               refine al_ro' (ro_pickT (up_m rfl (u2 rfl hb_71)) up_h) trivial rfl ?_
                                                               refine al_ro' (ro_assign up_h) trivial rfl ?_
                                                               refine al_end (fun e_72 he_72 => ?_)
                                                               have s6_72 := ef 6 he_72 up_h
                                                               clear he_72 hb_69 hb_70 hb_71 s15_68 s16_68 s17_68 s18_68 s19_68
                                                               refine then_n ?_
                                                               refine aw_ret ?_
                                                               refine ret1 (.inr rfl) (by kernel_rfl) (resV_tmp s6_72) (.ro _ rfl) ?_
                                                               clear s6_72 mon_21_1_1_1_67 mon_21_1_1_67 mon_21_1_67 mon_21_67 mo0_67 ml_67
                                                               (first | rfl | (simp; done) | (exfalso; omega)))
                                                          · (first | replace hq_71 := bnt hq_71 | replace hq_71 := bnf hq_71 | replace hq_71 := bt hq_71 | replace hq_71 := bf hq_71 | replace hq_71 := bt' hq_71 | replace hq_71 := bf' hq_71 | skip)
                                                            first
                                                            | (cases hq_71; done) | (exfalso; omega)
                                                            | (
                                                               refine al_skip' ⟨_, rfl, .inl hb_71⟩ rfl ?_
                                                               refine al_skip' ⟨_, rfl, .inl (up_m rfl hb_71)⟩ rfl ?_
                                                               refine al_skip' ⟨_, rfl, .inl (u2 rfl hb_71)⟩ rfl ?_
                                                               refine al_ro' (ro_pickF (up_m rfl (u2 rfl hb_71)) ev_c) trivial rfl ?_
                                                               refine al_ro' (ro_assign up_h) trivial rfl ?_
                                                               refine al_end (fun e_73 he_73 => ?_)
                                                               have s6_73 := ef 6 he_73 up_h
                                                               clear he_73 hb_69 hb_70 hb_71 s15_68 s16_68 s17_68 s18_68 s19_68
                                                               refine then_n ?_
                                                               refine aw_ret ?_
                                                               refine ret1 (.inr rfl) (by kernel_rfl) (resV_tmp s6_73) (.ro _ rfl) ?_
                                                               clear s6_73 mon_21_1_1_1_67 mon_21_1_1_67 mon_21_1_67 mon_21_67 mo0_67 ml_67
                                                               (first | rfl | (simp; done) | (exfalso; omega))))
                                                     · (first | replace hq_70 := bnt hq_70 | replace hq_70 := bnf hq_70 | replace hq_70 := bt hq_70 | replace hq_70 := bf hq_70 | replace hq_70 := bt' hq_70 | replace hq_70 := bf' hq_70 | skip)
                                                       first
                                                       | (cases hq_70; done) | (exfalso; omega)
                                                       | (
                                                          refine al_skip' ⟨_, rfl, .inl hb_70⟩ rfl ?_
                                                          refine al_skip' ⟨_, rfl, .inl (up_m rfl hb_70)⟩ rfl ?_
                                                          refine al_ro' (ro_pickF (u2 rfl hb_70) ev_c) trivial rfl ?_
                                                          refine al_ro' (ro_move up_h) trivial rfl ?_
                                                          refine al_skip' ⟨_, rfl, .inl up_h⟩ rfl ?_
                                                          refine al_skip' ⟨_, rfl, .inl (up_m rfl up_h)⟩ rfl ?_
                                                          refine al_skip' ⟨_, rfl, .inl (u2 rfl up_h)⟩ rfl ?_
                                                          refine al_ro' (ro_pickF (up_m rfl (u2 rfl up_h)) ev_c) trivial rfl ?_
                                                          refine al_ro' (ro_assign up_h) trivial rfl ?_
                                                          refine al_end (fun e_74 he_74 => ?_)
                                                          have s6_74 := ef 6 he_74 up_h
                                                          clear he_74 hb_69 hb_70 s15_68 s16_68 s17_68 s18_68 s19_68
                                                          refine then_n ?_
                                                          refine aw_ret ?_
                                                          refine ret1 (.inr rfl) (by kernel_rfl) (resV_tmp s6_74) (.ro _ rfl) ?_
                                                          clear s6_74 mon_21_1_1_1_67 mon_21_1_1_67 mon_21_1_67 mon_21_67 mo0_67 ml_67
                                                          (first | rfl | (simp; done) | (exfalso; omega))))
                                                · (first | replace hq_69 := bnt hq_69 | replace hq_69 := bnf hq_69 | replace hq_69 := bt hq_69 | replace hq_69 := bf hq_69 | replace hq_69 := bt' hq_69 | replace hq_69 := bf' hq_69 | skip)
                                                  first
                                                  | (cases hq_69; done) | (exfalso; omega)
                                                  | (
                                                     refine al_skip' ⟨_, rfl, .inl hb_69⟩ rfl ?_
                                                     refine al_skip' ⟨_, rfl, .inl (up_m rfl hb_69)⟩ rfl ?_
                                                     refine al_ro' (ro_pickF (u2 rfl hb_69) ev_c) trivial rfl ?_
                                                     refine al_ro' (ro_move up_h) trivial rfl ?_
                                                     refine al_skip' ⟨_, rfl, .inl up_h⟩ rfl ?_
                                                     refine al_skip' ⟨_, rfl, .inl (up_m rfl up_h)⟩ rfl ?_
                                                     refine al_ro' (ro_pickF (u2 rfl up_h) ev_c) trivial rfl ?_
                                                     refine al_ro' (ro_move up_h) trivial rfl ?_
                                                     refine al_skip' ⟨_, rfl, .inl up_h⟩ rfl ?_
                                                     refine al_skip' ⟨_, rfl, .inl (up_m rfl up_h)⟩ rfl ?_
                                                     refine al_skip' ⟨_, rfl, .inl (u2 rfl up_h)⟩ rfl ?_
                                                     refine al_ro' (ro_pickF (up_m rfl (u2 rfl up_h)) ev_c) trivial rfl ?_
                                                     refine al_ro' (ro_assign up_h) trivial rfl ?_
                                                     refine al_end (fun e_75 he_75 => ?_)
                                                     have s6_75 := ef 6 he_75 up_h
                                                     clear he_75 hb_69 s15_68 s16_68 s17_68 s18_68 s19_68
                                                     refine then_n ?_
                                                     refine aw_ret ?_
                                                     refine ret1 (.inr rfl) (by kernel_rfl) (resV_tmp s6_75) (.ro _ rfl) ?_
                                                     clear s6_75 mon_21_1_1_1_67 mon_21_1_1_67 mon_21_1_67 mon_21_67 mo0_67 ml_67
                                                     (first | rfl | (simp; done) | (exfalso; omega)))))))))))
end Go.Proofs.Ytgiiedpambimoaa
