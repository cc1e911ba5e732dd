/- Contracts of chapter 4: the document's tracks of vanes. No conditions on a program. -/
import Derived.Test.YtgiiedpambimoaaK1
import Derived.Test.YtgiiedpambimoaaA18
namespace Go.Proofs.Ytgiiedpambimoaa
open Go Go.RowKit Go.Proofs
set_option linter.unusedSimpArgs false
set_option linter.unusedVariables false
theorem q1_az24 : (Try.prog.info? 24).bind (·.zero) = some (.agg #[.slice none 0 0, .int .i64 0, .int .i64 0, .int .i64 0, .int .i64 0, .int .i64 0, .int .i64 0, .int .i64 0, .bool false]) := by kernel_rfl
theorem q1_bz24 : (Try.prog.info? 24).bind (·.zero) = some (.agg #[.slice none 0 0, .int .i64 0, .int .i64 0, .int .i64 0, .int .i64 0, .int .i64 0, .int .i64 0, .int .i64 0, .bool false]) := by kernel_rfl
theorem q1_bu24 : Try.prog.underlying 24 = some (.struct (fsOf Try.prog 24)) := by kernel_rfl
theorem q1_bp24 : ∀ w, ((fsOf Try.prog 24).mapM fun f => Prod.mk f.offset <$> sizeOf f.type : Sem (Array (Nat × Nat))).run Try.prog w = .ok (#[(0, 1), (1, 1), (2, 1), (3, 1), (4, 1), (5, 1), (6, 1), (7, 1), (8, 1)]) w := fun _ => by kernel_rfl
theorem q1_fl24_0 : FldIs Try.prog 24 0 0 false 1 := by unfold FldIs; kernel_rfl
theorem q1_fl24_1 : FldIs Try.prog 24 1 1 false 1 := by unfold FldIs; kernel_rfl
theorem q1_fl24_2 : FldIs Try.prog 24 2 2 false 1 := by unfold FldIs; kernel_rfl
theorem q1_fl24_3 : FldIs Try.prog 24 3 3 false 1 := by unfold FldIs; kernel_rfl
theorem q1_fl24_4 : FldIs Try.prog 24 4 4 false 1 := by unfold FldIs; kernel_rfl
theorem q1_fl24_5 : FldIs Try.prog 24 5 5 false 1 := by unfold FldIs; kernel_rfl
theorem q1_fl24_6 : FldIs Try.prog 24 6 6 false 1 := by unfold FldIs; kernel_rfl
theorem q1_fl24_7 : FldIs Try.prog 24 7 7 false 1 := by unfold FldIs; kernel_rfl
theorem q1_fl24_8 : FldIs Try.prog 24 8 8 false 1 := by unfold FldIs; kernel_rfl
theorem q1_hcf10 : ∀ args w, (callFunc 10 args).run Try.prog w = .ok (.enter 10 args) w := fun _ _ => by kernel_rfl
theorem q1_hcf23 : ∀ args w, (callFunc 23 args).run Try.prog w = .ok (.enter 23 args) w := fun _ _ => by kernel_rfl
theorem q1_hcf38 : ∀ args w, (callFunc 38 args).run Try.prog w = .ok (.enter 38 args) w := fun _ _ => by kernel_rfl
theorem q1_hcf39 : ∀ args w, (callFunc 39 args).run Try.prog w = .ok (.enter 39 args) w := fun _ _ => by kernel_rfl
theorem q1_hcf74 : ∀ args w, (callFunc 74 args).run Try.prog w = .ok (.enter 74 args) w := fun _ _ => by kernel_rfl
theorem q1_sl22 : SlIs Try.prog 22 3 1 8 (.int .i64 0) := ⟨by kernel_rfl, by kernel_rfl, by kernel_rfl⟩
theorem q1_sz22 : (Try.prog.info? 22).map (·.size) = some 1 := by kernel_rfl
theorem q1_sz24 : (Try.prog.info? 24).map (·.size) = some 9 := by kernel_rfl
theorem q1_ty22 : TyIs Try.prog 22 false 1 := ⟨by kernel_rfl, by kernel_rfl⟩
theorem q1_ty24 : TyIs Try.prog 24 true 9 := ⟨by kernel_rfl, by kernel_rfl⟩
theorem q1_ty3 : TyIs Try.prog 3 false 1 := ⟨by kernel_rfl, by kernel_rfl⟩
theorem q1_ty4 : TyIs Try.prog 4 false 1 := ⟨by kernel_rfl, by kernel_rfl⟩

/-- A track of vanes. -/
structure Trk where
  van : List Int
  win : Int
  too : Int
  per : Int
  fst : Int
  mod : Int
  sla : Int
  err : Int
  rnd : Bool
abbrev qA (t : Trk) : AV := .agg [.row 1 (t.van.map iE), .v (.int .i64 t.win), .v (.int .i64 t.too), .v (.int .i64 t.per), .v (.int .i64 t.fst), .v (.int .i64 t.mod), .v (.int .i64 t.sla), .v (.int .i64 t.err), .v (.bool t.rnd)]
abbrev zA (n : Int) : AV := .v (.int .i64 n)
abbrev yA (b : Bool) : AV := .v (.bool b)
def vanB (n : Int) : Bool := withinB n 0 1
def restB (t : Trk) : Bool := withinB t.too 1 1000 && withinB t.per 1 12 && withinB t.fst 0 999000000 && withinB t.mod 1 1000 && withinB t.sla 0 t.mod && withinB t.err 0 t.win
def tkE (t : Trk) : Int := if withinB t.win 1 12 then (if (t.van.length : Int) < t.win then 10 else if 40 < t.van.length then 8 else if t.van.all vanB then (if restB t then 0 else 2) else 15) else 2
def badN' (l : List Int) : Int := match l.findIdx? fun n => !vanB n with | some i => i | none => 0
def tkN (t : Trk) : Int := if withinB t.win 1 12 then (if (t.van.length : Int) < t.win then 0 else if 40 < t.van.length then 0 else badN' t.van) else 0
theorem van_hit {l : List Int} {i : Nat} (hi : i < l.length) (h : vanB (l.getD i default) = false) (hn : ∀ j : Nat, j < i → vanB (l.getD j default) = true) : badN' l = i ∧ l.all vanB = false := by
  have g : ∀ j, (hj : j < l.length) → l.getD j default = l[j] := fun j hj => by simp [List.getD_eq_getElem?_getD, hj]
  constructor
  · unfold badN'
    rw [show l.findIdx? (fun n => !vanB n) = some i from List.findIdx?_eq_some_iff_getElem.2 ⟨hi, by rw [← g i hi, h]; rfl, fun j hj => by rw [← g j (by omega), hn j hj]; decide⟩]
  · rw [List.all_eq_false]
    exact ⟨_, List.getElem_mem hi, by rw [← g i hi, h]; decide⟩
theorem van_miss {l : List Int} (hn : ∀ j : Nat, j < l.length → vanB (l.getD j default) = true) : badN' l = 0 ∧ l.all vanB = true := by
  have ha : ∀ x ∈ l, vanB x = true := fun x hx => by
    obtain ⟨j, hj, rfl⟩ := List.getElem_of_mem hx
    have := hn j hj
    rwa [List.getD_eq_getElem?_getD, List.getElem?_eq_getElem hj] at this
  refine ⟨?_, List.all_eq_true.2 ha⟩
  unfold badN'
  rw [List.findIdx?_eq_none_iff.2 fun x hx => by rw [ha x hx]; rfl]
set_option maxRecDepth 100000 in
set_option maxHeartbeats 4000000 in
theorem rqCheckTrack_ok (t : Trk) (hl : t.van.length ≤ 1000) : FnOk Try.prog 38 [qA t] (fun q => q = .tuple [zA (tkN t), zA (tkE t)]) := by
  refine fnOk_of (fn := Try.f38) 72 (by kernel_rfl) rfl (by kernel_rfl) (Nat.le_of_ble_eq_true rfl) ?_
  intro e_0 m_0 hA hm_0
  have s0_0 : evA e_0 (.tmp 0) = _ := hA 0 _ rfl
  have ml_0 : m_0.length = 0 := by rw [hm_0]; rfl
  clear hA hm_0
  refine aw_seq ?_
  refine aw_text (by kernel_rfl) ?_
  refine al_stm (st_box s0_0 rfl ml_0) trivial rfl (fun m_1 hm_1 => ?_)
  have mo0_1 := m_push hm_1 ml_0
  (try simp only [packA_t, packA_f, iE, bE, setAt, cellsA, Value.cells, map_vc, map_vn, Nat.reduceAdd, qS] at mo0_1)
  have ml_1 := m_push_l hm_1 ml_0
  have ml_1 : _ = 1 := ml_1
  clear hm_1
  refine al_ro' (ro_assign ev_c) trivial rfl ?_
  refine al_ro' (ro_assign ev_c) trivial rfl ?_
  refine al_end (fun e_2 he_2 => ?_)
  have s1_2 := ef 1 he_2 (u2 rfl up_h)
  clear he_2 s0_0
  refine then_n ?_
  refine aw_seq ?_
  refine aw_seq ?_
  refine aw_text (by kernel_rfl) ?_
  refine al_ro' (ro_fld_ptr q1_fl24_1 rfl s1_2) trivial rfl ?_
  refine al_ro' (ro_eq (ro_ld_ptr q1_ty3 rfl mo0_1 up_h (by first | exact Nat.le_of_ble_eq_true rfl | omega | (simp only [lnS] <;> omega) | (simp <;> omega))) (by first | (simp only [packA_t, packA_f, iE, bE, setAt, cellsA, Value.cells, map_vc, map_vn, Nat.reduceAdd, qS] <;> rfl) | rfl)) trivial rfl ?_
  refine al_ro' (ro_call (evL_cons up_h (evL_cons ev_c (evL_cons ev_c evL_nil))) rfl (bWithin_ok _ _ _) q1_hcf10) trivial rfl ?_
  refine al_ro' (ro_not up_h) trivial rfl ?_
  refine al_end (fun e_3 he_3 => ?_)
  have s1_3 := ef 1 he_3 (u4 rfl s1_2)
  have s8_3 := ef 8 he_3 up_h
  clear he_3 s1_2
  refine then_n ?_
  refine aw_case s8_3 (fun hq_4 => ?_) (fun hq_4 => ?_)
  · (first | replace hq_4 := bnt hq_4 | replace hq_4 := bnf hq_4 | replace hq_4 := bt hq_4 | replace hq_4 := bf hq_4 | replace hq_4 := bt' hq_4 | replace hq_4 := bf' hq_4 | skip)
    first
    | (cases hq_4; done) | (exfalso; omega)
    | (
       refine aw_seq ?_
       refine aw_text (by kernel_rfl) ?_
       refine al_ro' (ro_assign ev_c) trivial rfl ?_
       refine al_ro' (ro_assign ev_c) trivial rfl ?_
       refine al_end (fun e_5 he_5 => ?_)
       have s2_5 := ef 2 he_5 (up_m rfl up_h)
       have s3_5 := ef 3 he_5 up_h
       clear he_5 s1_3 s8_3
       refine then_n ?_
       refine aw_ret ?_
       refine then_r ?_
       refine ret2 (.inr rfl) (by kernel_rfl) (resV_tmp s2_5) (resV_tmp s3_5) (.ro _ rfl) (.ro _ rfl) ?_
       clear s2_5 s3_5 mo0_1 ml_1
       (have hw : withinB t.win 1 12 = false := (by assumption); rw [tkN, tkE, hw]; rfl))
  · (first | replace hq_4 := bnt hq_4 | replace hq_4 := bnf hq_4 | replace hq_4 := bt hq_4 | replace hq_4 := bf hq_4 | replace hq_4 := bt' hq_4 | replace hq_4 := bf' hq_4 | skip)
    first
    | (cases hq_4; done) | (exfalso; omega)
    | (
       refine aw_skip ?_
       refine then_n ?_
       refine aw_seq ?_
       refine aw_seq ?_
       refine aw_text (by kernel_rfl) ?_
       refine al_ro' (ro_fld_ptr q1_fl24_0 rfl s1_3) trivial rfl ?_
       refine al_ro' (ro_eq (ro_ld_ptr q1_ty22 rfl mo0_1 up_h (by first | exact Nat.le_of_ble_eq_true rfl | omega | (simp only [lnS] <;> omega) | (simp <;> omega))) (by first | (simp only [packA_t, packA_f, iE, bE, setAt, cellsA, Value.cells, map_vc, map_vn, Nat.reduceAdd, qS] <;> rfl) | rfl)) trivial rfl ?_
       refine al_ro' (ro_eq (ro_len_row up_h rfl q1_sl22.1) (by first | (simp only [lnS] <;> rfl) | rfl)) trivial rfl ?_
       refine al_ro' (ro_fld_ptr q1_fl24_1 rfl (up_m rfl (u2 rfl s1_3))) trivial rfl ?_
       refine al_ro' (ro_eq (ro_ld_ptr q1_ty3 rfl mo0_1 up_h (by first | exact Nat.le_of_ble_eq_true rfl | omega | (simp only [lnS] <;> omega) | (simp <;> omega))) (by first | (simp only [packA_t, packA_f, iE, bE, setAt, cellsA, Value.cells, map_vc, map_vn, Nat.reduceAdd, qS] <;> rfl) | rfl)) trivial rfl ?_
       refine al_ro' (ro_lss (u2 rfl up_h) up_h) trivial rfl ?_
       refine al_end (fun e_6 he_6 => ?_)
       have s1_6 := ef 1 he_6 (u2 rfl (u4 rfl s1_3))
       have s14_6 := ef 14 he_6 up_h
       clear he_6 s1_3 s8_3
       refine then_n ?_
       refine aw_case s14_6 (fun hq_7 => ?_) (fun hq_7 => ?_)
       · (first | replace hq_7 := bnt hq_7 | replace hq_7 := bnf hq_7 | replace hq_7 := bt hq_7 | replace hq_7 := bf hq_7 | replace hq_7 := bt' hq_7 | replace hq_7 := bf' hq_7 | skip)
         first
         | (cases hq_7; done) | (exfalso; omega)
         | (
            refine aw_seq ?_
            refine aw_text (by kernel_rfl) ?_
            refine al_ro' (ro_assign ev_c) trivial rfl ?_
            refine al_ro' (ro_assign ev_c) trivial rfl ?_
            refine al_end (fun e_8 he_8 => ?_)
            have s2_8 := ef 2 he_8 (up_m rfl up_h)
            have s3_8 := ef 3 he_8 up_h
            clear he_8 s14_6 s1_6
            refine then_n ?_
            refine aw_ret ?_
            refine then_r ?_
            refine ret2 (.inr rfl) (by kernel_rfl) (resV_tmp s2_8) (resV_tmp s3_8) (.ro _ rfl) (.ro _ rfl) ?_
            clear s2_8 s3_8 mo0_1 ml_1
            (have hw : withinB t.win 1 12 = true := (by assumption); have h1 : (t.van.length : Int) < t.win := (by omega); simp only [tkN, tkE, hw, h1, if_true]))
       · (first | replace hq_7 := bnt hq_7 | replace hq_7 := bnf hq_7 | replace hq_7 := bt hq_7 | replace hq_7 := bf hq_7 | replace hq_7 := bt' hq_7 | replace hq_7 := bf' hq_7 | skip)
         first
         | (cases hq_7; done) | (exfalso; omega)
         | (
            refine aw_skip ?_
            refine then_n ?_
            refine aw_seq ?_
            refine aw_seq ?_
            refine aw_text (by kernel_rfl) ?_
            refine al_ro' (ro_fld_ptr q1_fl24_0 rfl s1_6) trivial rfl ?_
            refine al_ro' (ro_eq (ro_ld_ptr q1_ty22 rfl mo0_1 up_h (by first | exact Nat.le_of_ble_eq_true rfl | omega | (simp only [lnS] <;> omega) | (simp <;> omega))) (by first | (simp only [packA_t, packA_f, iE, bE, setAt, cellsA, Value.cells, map_vc, map_vn, Nat.reduceAdd, qS] <;> rfl) | rfl)) trivial rfl ?_
            refine al_ro' (ro_eq (ro_len_row up_h rfl q1_sl22.1) (by first | (simp only [lnS] <;> rfl) | rfl)) trivial rfl ?_
            refine al_ro' (ro_gtr up_h ev_c) trivial rfl ?_
            refine al_end (fun e_9 he_9 => ?_)
            have s1_9 := ef 1 he_9 (u4 rfl s1_6)
            have s18_9 := ef 18 he_9 up_h
            clear he_9 s14_6 s1_6
            refine then_n ?_
            refine aw_case s18_9 (fun hq_10 => ?_) (fun hq_10 => ?_)
            · (first | replace hq_10 := bnt hq_10 | replace hq_10 := bnf hq_10 | replace hq_10 := bt hq_10 | replace hq_10 := bf hq_10 | replace hq_10 := bt' hq_10 | replace hq_10 := bf' hq_10 | skip)
              first
              | (cases hq_10; done) | (exfalso; omega)
              | (
                 refine aw_seq ?_
                 refine aw_text (by kernel_rfl) ?_
                 refine al_ro' (ro_assign ev_c) trivial rfl ?_
                 refine al_ro' (ro_assign ev_c) trivial rfl ?_
                 refine al_end (fun e_11 he_11 => ?_)
                 have s2_11 := ef 2 he_11 (up_m rfl up_h)
                 have s3_11 := ef 3 he_11 up_h
                 clear he_11 s18_9 s1_9
                 refine then_n ?_
                 refine aw_ret ?_
                 refine then_r ?_
                 refine ret2 (.inr rfl) (by kernel_rfl) (resV_tmp s2_11) (resV_tmp s3_11) (.ro _ rfl) (.ro _ rfl) ?_
                 clear s2_11 s3_11 mo0_1 ml_1
                 (have hw : withinB t.win 1 12 = true := (by assumption); have h1 : ¬ (t.van.length : Int) < t.win := (by omega); have h2 : 40 < t.van.length := (by omega); simp only [tkN, tkE, hw, h1, h2, if_true, if_false]))
            · (first | replace hq_10 := bnt hq_10 | replace hq_10 := bnf hq_10 | replace hq_10 := bt hq_10 | replace hq_10 := bf hq_10 | replace hq_10 := bt' hq_10 | replace hq_10 := bf' hq_10 | skip)
              first
              | (cases hq_10; done) | (exfalso; omega)
              | (
                 refine aw_skip ?_
                 refine then_n ?_
                 refine aw_seq ?_
                 refine aw_seq ?_
                 refine aw_text (by kernel_rfl) ?_
                 refine al_ro' (ro_assign ev_c) trivial rfl ?_
                 refine al_end (fun e_12 he_12 => ?_)
                 have s1_12 := ef 1 he_12 (up_m rfl s1_9)
                 have s4_12 := ef 4 he_12 up_h
                 clear he_12 s18_9 s1_9
                 refine then_n ?_
                 refine aw_block ?_
                 refine aw_loop (S := Int) (fun i e mem => (evA e (.tmp 4) = .v (.int .i64 i)) ∧ (evA e (.tmp 1) = evA e_12 (.tmp 1)) ∧ (mem[0]? = m_1[0]?) ∧ (mem.length = 1) ∧ ((0 ≤ i ∧ i ≤ t.van.length ∧ ∀ j : Nat, j < i.toNat → vanB (t.van.getD j default) = true))) (fun i => (t.van.length - i).toNat) _ ⟨s4_12, rfl, rfl, ml_1, ?_⟩ ?_
                 · (exact ⟨by omega, by omega, fun j h => absurd h (by omega)⟩)
                 · rintro i e_13 m_13 ⟨s4_13, k1_13, mk0_13, ml_13, hinv⟩
                   have s1_13 := k1_13.trans s1_12
                   have mo0_13 := mk0_13.trans mo0_1
                   (obtain ⟨p1, p2, p3⟩ := hinv)
                   refine aw_seq ?_
                   refine aw_seq ?_
                   refine aw_text (by kernel_rfl) ?_
                   refine al_ro' (ro_move s4_13) trivial rfl ?_
                   refine al_ro' (ro_fld_ptr q1_fl24_0 rfl (up_m rfl s1_13)) trivial rfl ?_
                   refine al_ro' (ro_eq (ro_ld_ptr q1_ty22 rfl mo0_13 up_h (by first | exact Nat.le_of_ble_eq_true rfl | omega | (simp only [lnS] <;> omega) | (simp <;> omega))) (by first | (simp only [packA_t, packA_f, iE, bE, setAt, cellsA, Value.cells, map_vc, map_vn, Nat.reduceAdd, qS] <;> rfl) | rfl)) trivial rfl ?_
                   refine al_ro' (ro_eq (ro_len_row up_h rfl q1_sl22.1) (by first | (simp only [lnS] <;> rfl) | rfl)) trivial rfl ?_
                   refine al_ro' (ro_lss (up_m rfl (u2 rfl up_h)) up_h) trivial rfl ?_
                   refine al_end (fun e_14 he_14 => ?_)
                   have s1_14 := ef 1 he_14 (up_m rfl (u4 rfl s1_13))
                   have s4_14 := ef 4 he_14 (up_m rfl (u4 rfl s4_13))
                   have s23_14 := ef 23 he_14 up_h
                   clear he_14 s1_13 s4_13
                   refine then_n ?_
                   refine aw_case s23_14 (fun hq_15 => ?_) (fun hq_15 => ?_)
                   · (first | replace hq_15 := bnt hq_15 | replace hq_15 := bnf hq_15 | replace hq_15 := bt hq_15 | replace hq_15 := bf hq_15 | replace hq_15 := bt' hq_15 | replace hq_15 := bf' hq_15 | skip)
                     first
                     | (cases hq_15; done) | (exfalso; omega)
                     | (
                        refine aw_skip ?_
                        refine then_n ?_
                        refine aw_seq ?_
                        refine aw_block ?_
                        refine aw_seq ?_
                        refine aw_text (by kernel_rfl) ?_
                        refine al_ro' (ro_fld_ptr q1_fl24_0 rfl s1_14) trivial rfl ?_
                        refine al_ro' (ro_eq (ro_ld_ptr q1_ty22 rfl mo0_13 up_h (by first | exact Nat.le_of_ble_eq_true rfl | omega | (simp only [lnS] <;> omega) | (simp <;> omega))) (by first | (simp only [packA_t, packA_f, iE, bE, setAt, cellsA, Value.cells, map_vc, map_vn, Nat.reduceAdd, qS] <;> rfl) | rfl)) trivial rfl ?_
                        refine al_ro' (ro_move (u2 rfl s4_14)) trivial rfl ?_
                        refine al_ro' (ro_eq (ro_ix q1_sl22 (up_m rfl up_h) up_h (by first | decide | omega | (simp <;> omega)) (by first | (refine idx_map ?_; first | omega | (simp only [lnS]; omega)) | (refine idx_mapI ?_; first | omega | (simp only [lnS]; omega)) | (refine idx_mapN ?_; first | omega | (simp only [lnS]; omega)) | rfl)) (by first | (simp only [packA_t, packA_f, iE, bE, setAt, cellsA, Value.cells, map_vc, map_vn, Nat.reduceAdd, qS] <;> rfl) | rfl)) trivial rfl ?_
                        refine al_ro' (ro_eq (ro_ld_ref q1_ty3 rfl up_h (by first | exact Nat.le_of_ble_eq_true rfl | omega | (simp only [lnS] <;> omega) | (simp <;> omega))) (by first | (simp only [packA_t, packA_f, iE, bE, setAt, cellsA, Value.cells, map_vc, map_vn, Nat.reduceAdd, qS] <;> rfl) | rfl)) trivial rfl ?_
                        refine al_ro' (ro_call (evL_cons up_h (evL_cons ev_c (evL_cons ev_c evL_nil))) rfl (bWithin_ok _ _ _) q1_hcf10) trivial rfl ?_
                        refine al_ro' (ro_not up_h) trivial rfl ?_
                        refine al_end (fun e_16 he_16 => ?_)
                        have s1_16 := ef 1 he_16 (up_m rfl (u2 rfl (u4 rfl s1_14)))
                        have s4_16 := ef 4 he_16 (up_m rfl (u2 rfl (u4 rfl s4_14)))
                        have s32_16 := ef 32 he_16 up_h
                        clear he_16 s1_14 s23_14 s4_14
                        refine then_n ?_
                        refine aw_case s32_16 (fun hq_17 => ?_) (fun hq_17 => ?_)
                        · (first | replace hq_17 := bnt hq_17 | replace hq_17 := bnf hq_17 | replace hq_17 := bt hq_17 | replace hq_17 := bf hq_17 | replace hq_17 := bt' hq_17 | replace hq_17 := bf' hq_17 | skip)
                          first
                          | (cases hq_17; done) | (exfalso; omega)
                          | (
                             refine aw_seq ?_
                             refine aw_text (by kernel_rfl) ?_
                             refine al_ro' (ro_move s4_16) trivial rfl ?_
                             refine al_ro' (ro_assign up_h) trivial rfl ?_
                             refine al_ro' (ro_assign ev_c) trivial rfl ?_
                             refine al_end (fun e_18 he_18 => ?_)
                             have s2_18 := ef 2 he_18 (up_m rfl up_h)
                             have s3_18 := ef 3 he_18 up_h
                             clear he_18 s1_16 s32_16 s4_16
                             refine then_n ?_
                             refine aw_ret ?_
                             refine block_r ?_
                             refine then_r ?_
                             refine then_r ?_
                             refine block_r ?_
                             refine then_r ?_
                             refine ret2 (.inr rfl) (by kernel_rfl) (resV_tmp s2_18) (resV_tmp s3_18) (.ro _ rfl) (.ro _ rfl) ?_
                             clear s2_18 s3_18 mo0_13 ml_13
                             (have hw : withinB t.win 1 12 = true := (by assumption); have hv := van_hit (i := i.toNat) (by omega) (by unfold vanB; assumption) p3; have h1 : ¬ (t.van.length : Int) < t.win := (by omega); have h2 : ¬ 40 < t.van.length := (by omega); simp only [tkN, tkE, hw, h1, h2, if_true, if_false, hv.1, hv.2, Int.toNat_of_nonneg p1]; rfl))
                        · (first | replace hq_17 := bnt hq_17 | replace hq_17 := bnf hq_17 | replace hq_17 := bt hq_17 | replace hq_17 := bf hq_17 | replace hq_17 := bt' hq_17 | replace hq_17 := bf' hq_17 | skip)
                          first
                          | (cases hq_17; done) | (exfalso; omega)
                          | (
                             refine aw_skip ?_
                             refine block_n ?_
                             refine then_n ?_
                             refine aw_text (by kernel_rfl) ?_
                             refine al_ro' (ro_move s4_16) trivial rfl ?_
                             first | (refine al_ro' (ro_add' up_h ev_c ?_) trivial rfl ?_; · (unfold In64; omega)) | refine al_ro' (ro_add up_h ev_c) trivial rfl ?_
                             refine al_ro' (ro_assign up_h) trivial rfl ?_
                             refine al_end (fun e_19 he_19 => ?_)
                             have s1_19 := ef 1 he_19 (up_m rfl (u2 rfl s1_16))
                             have s4_19 := ef 4 he_19 up_h
                             clear he_19 s1_16 s32_16 s4_16
                             refine then_n ?_
                             refine ⟨_, ⟨s4_19, (s1_19.trans s1_12.symm), (mo0_13.trans mo0_1.symm), ml_13, ?_⟩, ?_⟩
                             · (refine ⟨by omega, by omega, fun j hj => ?_⟩; by_cases hji : j < i.toNat; (exact p3 j hji); (rw [show j = i.toNat by omega]; unfold vanB; assumption))
                             · ((try dsimp only); omega)))
                   · (first | replace hq_15 := bnt hq_15 | replace hq_15 := bnf hq_15 | replace hq_15 := bt hq_15 | replace hq_15 := bf hq_15 | replace hq_15 := bt' hq_15 | replace hq_15 := bf' hq_15 | skip)
                     first
                     | (cases hq_15; done) | (exfalso; omega)
                     | (
                        refine aw_exit ?_
                        refine then_x ?_
                        refine then_x ?_
                        refine block_hit ?_
                        refine then_n ?_
                        refine aw_seq ?_
                        refine aw_seq ?_
                        refine aw_cut (fun e mem => (evA e (.tmp 71) = .v (.bool (!restB t))) ∧ m_13 = mem) ?_ ?_
                        ·
                          refine aw_text (by kernel_rfl) ?_
                          refine al_ro' (ro_fld_ptr q1_fl24_2 rfl s1_14) trivial rfl ?_
                          refine al_ro' (ro_eq (ro_ld_ptr q1_ty3 rfl mo0_13 up_h (by first | exact Nat.le_of_ble_eq_true rfl | omega | (simp only [lnS] <;> omega) | (simp <;> omega))) (by first | (simp only [packA_t, packA_f, iE, bE, setAt, cellsA, Value.cells, map_vc, map_vn, Nat.reduceAdd, qS] <;> rfl) | rfl)) trivial rfl ?_
                          refine al_ro' (ro_call (evL_cons up_h (evL_cons ev_c (evL_cons ev_c evL_nil))) rfl (bWithin_ok _ _ _) q1_hcf10) trivial rfl ?_
                          refine al_ro' (ro_not up_h) trivial rfl ?_
                          refine al_ro' (ro_move up_h) trivial rfl ?_
                          refine al_case up_h (fun hb_21 hq_21 => ?_) (fun hb_21 hq_21 => ?_)
                          · (first | replace hq_21 := bnt hq_21 | replace hq_21 := bnf hq_21 | replace hq_21 := bt hq_21 | replace hq_21 := bf hq_21 | replace hq_21 := bt' hq_21 | replace hq_21 := bf' hq_21 | skip)
                            first
                            | (cases hq_21; done) | (exfalso; omega)
                            | (
                               refine al_skip' ⟨_, rfl, .inl hb_21⟩ rfl ?_
                               refine al_skip' ⟨_, rfl, .inl (up_m rfl hb_21)⟩ rfl ?_
                               refine al_skip' ⟨_, rfl, .inl (u2 rfl hb_21)⟩ rfl ?_
                               refine al_skip' ⟨_, rfl, .inl (up_m rfl (u2 rfl hb_21))⟩ rfl ?_
                               refine al_ro' (ro_pickT (u4 rfl hb_21) ev_c) trivial rfl ?_
                               refine al_ro' (ro_move up_h) trivial rfl ?_
                               refine al_skip' ⟨_, rfl, .inl up_h⟩ rfl ?_
                               refine al_skip' ⟨_, rfl, .inl (up_m rfl up_h)⟩ rfl ?_
                               refine al_skip' ⟨_, rfl, .inl (u2 rfl up_h)⟩ rfl ?_
                               refine al_skip' ⟨_, rfl, .inl (up_m rfl (u2 rfl up_h))⟩ rfl ?_
                               refine al_ro' (ro_pickT (u4 rfl up_h) ev_c) trivial rfl ?_
                               refine al_ro' (ro_move up_h) trivial rfl ?_
                               refine al_skip' ⟨_, rfl, .inl up_h⟩ rfl ?_
                               refine al_skip' ⟨_, rfl, .inl (up_m rfl up_h)⟩ rfl ?_
                               refine al_skip' ⟨_, rfl, .inl (u2 rfl up_h)⟩ rfl ?_
                               refine al_skip' ⟨_, rfl, .inl (up_m rfl (u2 rfl up_h))⟩ rfl ?_
                               refine al_ro' (ro_pickT (u4 rfl up_h) ev_c) trivial rfl ?_
                               refine al_ro' (ro_move up_h) trivial rfl ?_
                               refine al_skip' ⟨_, rfl, .inl up_h⟩ rfl ?_
                               refine al_skip' ⟨_, rfl, .inl (up_m rfl up_h)⟩ rfl ?_
                               refine al_skip' ⟨_, rfl, .inl (u2 rfl up_h)⟩ rfl ?_
                               refine al_skip' ⟨_, rfl, .inl (up_m rfl (u2 rfl up_h))⟩ rfl ?_
                               refine al_skip' ⟨_, rfl, .inl (u4 rfl up_h)⟩ rfl ?_
                               refine al_skip' ⟨_, rfl, .inl (up_m rfl (u4 rfl up_h))⟩ rfl ?_
                               refine al_ro' (ro_pickT (u2 rfl (u4 rfl up_h)) ev_c) trivial rfl ?_
                               refine al_ro' (ro_move up_h) trivial rfl ?_
                               refine al_skip' ⟨_, rfl, .inl up_h⟩ rfl ?_
                               refine al_skip' ⟨_, rfl, .inl (up_m rfl up_h)⟩ rfl ?_
                               refine al_skip' ⟨_, rfl, .inl (u2 rfl up_h)⟩ rfl ?_
                               refine al_skip' ⟨_, rfl, .inl (up_m rfl (u2 rfl up_h))⟩ rfl ?_
                               refine al_skip' ⟨_, rfl, .inl (u4 rfl up_h)⟩ rfl ?_
                               refine al_skip' ⟨_, rfl, .inl (up_m rfl (u4 rfl up_h))⟩ rfl ?_
                               refine al_ro' (ro_pickT (u2 rfl (u4 rfl up_h)) ev_c) trivial rfl ?_
                               refine al_end (fun e_22 he_22 => ?_)
                               have s71_22 := ef 71 he_22 up_h
                               clear he_22
                               refine then_n ⟨(s71_22).trans (by (refine avb ?_; simp only [restB]; simp_all)), rfl⟩)
                          · (first | replace hq_21 := bnt hq_21 | replace hq_21 := bnf hq_21 | replace hq_21 := bt hq_21 | replace hq_21 := bf hq_21 | replace hq_21 := bt' hq_21 | replace hq_21 := bf' hq_21 | skip)
                            first
                            | (cases hq_21; done) | (exfalso; omega)
                            | (
                               refine al_ro' (ro_fld_ptr q1_fl24_3 rfl (up_m rfl (u4 rfl s1_14))) ⟨_, rfl, hb_21⟩ rfl ?_
                               refine al_ro' (ro_eq (ro_ld_ptr q1_ty3 rfl mo0_13 up_h (by first | exact Nat.le_of_ble_eq_true rfl | omega | (simp only [lnS] <;> omega) | (simp <;> omega))) (by first | (simp only [packA_t, packA_f, iE, bE, setAt, cellsA, Value.cells, map_vc, map_vn, Nat.reduceAdd, qS] <;> rfl) | rfl)) ⟨_, rfl, (up_m rfl hb_21)⟩ rfl ?_
                               refine al_ro' (ro_call (evL_cons up_h (evL_cons ev_c (evL_cons ev_c evL_nil))) rfl (bWithin_ok _ _ _) q1_hcf10) ⟨_, rfl, (u2 rfl hb_21)⟩ rfl ?_
                               refine al_ro' (ro_not up_h) ⟨_, rfl, (up_m rfl (u2 rfl hb_21))⟩ rfl ?_
                               refine al_ro' (ro_pickF (u4 rfl hb_21) up_h) trivial rfl ?_
                               refine al_ro' (ro_move up_h) trivial rfl ?_
                               refine al_case up_h (fun hb_23 hq_23 => ?_) (fun hb_23 hq_23 => ?_)
                               · (first | replace hq_23 := bnt hq_23 | replace hq_23 := bnf hq_23 | replace hq_23 := bt hq_23 | replace hq_23 := bf hq_23 | replace hq_23 := bt' hq_23 | replace hq_23 := bf' hq_23 | skip)
                                 first
                                 | (cases hq_23; done) | (exfalso; omega)
                                 | (
                                    refine al_skip' ⟨_, rfl, .inl hb_23⟩ rfl ?_
                                    refine al_skip' ⟨_, rfl, .inl (up_m rfl hb_23)⟩ rfl ?_
                                    refine al_skip' ⟨_, rfl, .inl (u2 rfl hb_23)⟩ rfl ?_
                                    refine al_skip' ⟨_, rfl, .inl (up_m rfl (u2 rfl hb_23))⟩ rfl ?_
                                    refine al_ro' (ro_pickT (u4 rfl hb_23) ev_c) trivial rfl ?_
                                    refine al_ro' (ro_move up_h) trivial rfl ?_
                                    refine al_skip' ⟨_, rfl, .inl up_h⟩ rfl ?_
                                    refine al_skip' ⟨_, rfl, .inl (up_m rfl up_h)⟩ rfl ?_
                                    refine al_skip' ⟨_, rfl, .inl (u2 rfl up_h)⟩ rfl ?_
                                    refine al_skip' ⟨_, rfl, .inl (up_m rfl (u2 rfl up_h))⟩ rfl ?_
                                    refine al_ro' (ro_pickT (u4 rfl up_h) ev_c) trivial rfl ?_
                                    refine al_ro' (ro_move up_h) trivial rfl ?_
                                    refine al_skip' ⟨_, rfl, .inl up_h⟩ rfl ?_
                                    refine al_skip' ⟨_, rfl, .inl (up_m rfl up_h)⟩ rfl ?_
                                    refine al_skip' ⟨_, rfl, .inl (u2 rfl up_h)⟩ rfl ?_
                                    refine al_skip' ⟨_, rfl, .inl (up_m rfl (u2 rfl up_h))⟩ rfl ?_
                                    refine al_skip' ⟨_, rfl, .inl (u4 rfl up_h)⟩ rfl ?_
                                    refine al_skip' ⟨_, rfl, .inl (up_m rfl (u4 rfl up_h))⟩ rfl ?_
                                    refine al_ro' (ro_pickT (u2 rfl (u4 rfl up_h)) ev_c) trivial rfl ?_
                                    refine al_ro' (ro_move up_h) trivial rfl ?_
                                    refine al_skip' ⟨_, rfl, .inl up_h⟩ rfl ?_
                                    refine al_skip' ⟨_, rfl, .inl (up_m rfl up_h)⟩ rfl ?_
                                    refine al_skip' ⟨_, rfl, .inl (u2 rfl up_h)⟩ rfl ?_
                                    refine al_skip' ⟨_, rfl, .inl (up_m rfl (u2 rfl up_h))⟩ rfl ?_
                                    refine al_skip' ⟨_, rfl, .inl (u4 rfl up_h)⟩ rfl ?_
                                    refine al_skip' ⟨_, rfl, .inl (up_m rfl (u4 rfl up_h))⟩ rfl ?_
                                    refine al_ro' (ro_pickT (u2 rfl (u4 rfl up_h)) ev_c) trivial rfl ?_
                                    refine al_end (fun e_24 he_24 => ?_)
                                    have s71_24 := ef 71 he_24 up_h
                                    clear he_24
                                    refine then_n ⟨(s71_24).trans (by (refine avb ?_; simp only [restB]; simp_all)), rfl⟩)
                               · (first | replace hq_23 := bnt hq_23 | replace hq_23 := bnf hq_23 | replace hq_23 := bt hq_23 | replace hq_23 := bf hq_23 | replace hq_23 := bt' hq_23 | replace hq_23 := bf' hq_23 | skip)
                                 first
                                 | (cases hq_23; done) | (exfalso; omega)
                                 | (
                                    refine al_ro' (ro_fld_ptr q1_fl24_4 rfl (up_m rfl (u2 rfl (u8 rfl s1_14)))) ⟨_, rfl, hb_23⟩ rfl ?_
                                    refine al_ro' (ro_eq (ro_ld_ptr q1_ty3 rfl mo0_13 up_h (by first | exact Nat.le_of_ble_eq_true rfl | omega | (simp only [lnS] <;> omega) | (simp <;> omega))) (by first | (simp only [packA_t, packA_f, iE, bE, setAt, cellsA, Value.cells, map_vc, map_vn, Nat.reduceAdd, qS] <;> rfl) | rfl)) ⟨_, rfl, (up_m rfl hb_23)⟩ rfl ?_
                                    refine al_ro' (ro_call (evL_cons up_h (evL_cons ev_c (evL_cons ev_c evL_nil))) rfl (bWithin_ok _ _ _) q1_hcf10) ⟨_, rfl, (u2 rfl hb_23)⟩ rfl ?_
                                    refine al_ro' (ro_not up_h) ⟨_, rfl, (up_m rfl (u2 rfl hb_23))⟩ rfl ?_
                                    refine al_ro' (ro_pickF (u4 rfl hb_23) up_h) trivial rfl ?_
                                    refine al_ro' (ro_move up_h) trivial rfl ?_
                                    refine al_case up_h (fun hb_25 hq_25 => ?_) (fun hb_25 hq_25 => ?_)
                                    · (first | replace hq_25 := bnt hq_25 | replace hq_25 := bnf hq_25 | replace hq_25 := bt hq_25 | replace hq_25 := bf hq_25 | replace hq_25 := bt' hq_25 | replace hq_25 := bf' hq_25 | skip)
                                      first
                                      | (cases hq_25; done) | (exfalso; omega)
                                      | (
                                         refine al_skip' ⟨_, rfl, .inl hb_25⟩ rfl ?_
                                         refine al_skip' ⟨_, rfl, .inl (up_m rfl hb_25)⟩ rfl ?_
                                         refine al_skip' ⟨_, rfl, .inl (u2 rfl hb_25)⟩ rfl ?_
                                         refine al_skip' ⟨_, rfl, .inl (up_m rfl (u2 rfl hb_25))⟩ rfl ?_
                                         refine al_ro' (ro_pickT (u4 rfl hb_25) ev_c) trivial rfl ?_
                                         refine al_ro' (ro_move up_h) trivial rfl ?_
                                         refine al_skip' ⟨_, rfl, .inl up_h⟩ rfl ?_
                                         refine al_skip' ⟨_, rfl, .inl (up_m rfl up_h)⟩ rfl ?_
                                         refine al_skip' ⟨_, rfl, .inl (u2 rfl up_h)⟩ rfl ?_
                                         refine al_skip' ⟨_, rfl, .inl (up_m rfl (u2 rfl up_h))⟩ rfl ?_
                                         refine al_skip' ⟨_, rfl, .inl (u4 rfl up_h)⟩ rfl ?_
                                         refine al_skip' ⟨_, rfl, .inl (up_m rfl (u4 rfl up_h))⟩ rfl ?_
                                         refine al_ro' (ro_pickT (u2 rfl (u4 rfl up_h)) ev_c) trivial rfl ?_
                                         refine al_ro' (ro_move up_h) trivial rfl ?_
                                         refine al_skip' ⟨_, rfl, .inl up_h⟩ rfl ?_
                                         refine al_skip' ⟨_, rfl, .inl (up_m rfl up_h)⟩ rfl ?_
                                         refine al_skip' ⟨_, rfl, .inl (u2 rfl up_h)⟩ rfl ?_
                                         refine al_skip' ⟨_, rfl, .inl (up_m rfl (u2 rfl up_h))⟩ rfl ?_
                                         refine al_skip' ⟨_, rfl, .inl (u4 rfl up_h)⟩ rfl ?_
                                         refine al_skip' ⟨_, rfl, .inl (up_m rfl (u4 rfl up_h))⟩ rfl ?_
                                         refine al_ro' (ro_pickT (u2 rfl (u4 rfl up_h)) ev_c) trivial rfl ?_
                                         refine al_end (fun e_26 he_26 => ?_)
                                         have s71_26 := ef 71 he_26 up_h
                                         clear he_26
                                         refine then_n ⟨(s71_26).trans (by (refine avb ?_; simp only [restB]; simp_all)), rfl⟩)
                                    · (first | replace hq_25 := bnt hq_25 | replace hq_25 := bnf hq_25 | replace hq_25 := bt hq_25 | replace hq_25 := bf hq_25 | replace hq_25 := bt' hq_25 | replace hq_25 := bf' hq_25 | skip)
                                      first
                                      | (cases hq_25; done) | (exfalso; omega)
                                      | (
                                         refine al_ro' (ro_fld_ptr q1_fl24_5 rfl (up_m rfl (u16 rfl s1_14))) ⟨_, rfl, hb_25⟩ rfl ?_
                                         refine al_ro' (ro_eq (ro_ld_ptr q1_ty3 rfl mo0_13 up_h (by first | exact Nat.le_of_ble_eq_true rfl | omega | (simp only [lnS] <;> omega) | (simp <;> omega))) (by first | (simp only [packA_t, packA_f, iE, bE, setAt, cellsA, Value.cells, map_vc, map_vn, Nat.reduceAdd, qS] <;> rfl) | rfl)) ⟨_, rfl, (up_m rfl hb_25)⟩ rfl ?_
                                         refine al_ro' (ro_call (evL_cons up_h (evL_cons ev_c (evL_cons ev_c evL_nil))) rfl (bWithin_ok _ _ _) q1_hcf10) ⟨_, rfl, (u2 rfl hb_25)⟩ rfl ?_
                                         refine al_ro' (ro_not up_h) ⟨_, rfl, (up_m rfl (u2 rfl hb_25))⟩ rfl ?_
                                         refine al_ro' (ro_pickF (u4 rfl hb_25) up_h) trivial rfl ?_
                                         refine al_ro' (ro_move up_h) trivial rfl ?_
                                         refine al_case up_h (fun hb_27 hq_27 => ?_) (fun hb_27 hq_27 => ?_)
                                         · (first | replace hq_27 := bnt hq_27 | replace hq_27 := bnf hq_27 | replace hq_27 := bt hq_27 | replace hq_27 := bf hq_27 | replace hq_27 := bt' hq_27 | replace hq_27 := bf' hq_27 | skip)
                                           first
                                           | (cases hq_27; done) | (exfalso; omega)
                                           | (
                                              refine al_skip' ⟨_, rfl, .inl hb_27⟩ rfl ?_
                                              refine al_skip' ⟨_, rfl, .inl (up_m rfl hb_27)⟩ rfl ?_
                                              refine al_skip' ⟨_, rfl, .inl (u2 rfl hb_27)⟩ rfl ?_
                                              refine al_skip' ⟨_, rfl, .inl (up_m rfl (u2 rfl hb_27))⟩ rfl ?_
                                              refine al_skip' ⟨_, rfl, .inl (u4 rfl hb_27)⟩ rfl ?_
                                              refine al_skip' ⟨_, rfl, .inl (up_m rfl (u4 rfl hb_27))⟩ rfl ?_
                                              refine al_ro' (ro_pickT (u2 rfl (u4 rfl hb_27)) ev_c) trivial rfl ?_
                                              refine al_ro' (ro_move up_h) trivial rfl ?_
                                              refine al_skip' ⟨_, rfl, .inl up_h⟩ rfl ?_
                                              refine al_skip' ⟨_, rfl, .inl (up_m rfl up_h)⟩ rfl ?_
                                              refine al_skip' ⟨_, rfl, .inl (u2 rfl up_h)⟩ rfl ?_
                                              refine al_skip' ⟨_, rfl, .inl (up_m rfl (u2 rfl up_h))⟩ rfl ?_
                                              refine al_skip' ⟨_, rfl, .inl (u4 rfl up_h)⟩ rfl ?_
                                              refine al_skip' ⟨_, rfl, .inl (up_m rfl (u4 rfl up_h))⟩ rfl ?_
                                              refine al_ro' (ro_pickT (u2 rfl (u4 rfl up_h)) ev_c) trivial rfl ?_
                                              refine al_end (fun e_28 he_28 => ?_)
                                              have s71_28 := ef 71 he_28 up_h
                                              clear he_28
                                              refine then_n ⟨(s71_28).trans (by (refine avb ?_; simp only [restB]; simp_all)), rfl⟩)
                                         · (first | replace hq_27 := bnt hq_27 | replace hq_27 := bnf hq_27 | replace hq_27 := bt hq_27 | replace hq_27 := bf hq_27 | replace hq_27 := bt' hq_27 | replace hq_27 := bf' hq_27 | skip)
                                           first
                                           | (cases hq_27; done) | (exfalso; omega)
                                           | (
                                              refine al_ro' (ro_fld_ptr q1_fl24_6 rfl (up_m rfl (u2 rfl (u4 rfl (u16 rfl s1_14))))) ⟨_, rfl, hb_27⟩ rfl ?_
                                              refine al_ro' (ro_eq (ro_ld_ptr q1_ty3 rfl mo0_13 up_h (by first | exact Nat.le_of_ble_eq_true rfl | omega | (simp only [lnS] <;> omega) | (simp <;> omega))) (by first | (simp only [packA_t, packA_f, iE, bE, setAt, cellsA, Value.cells, map_vc, map_vn, Nat.reduceAdd, qS] <;> rfl) | rfl)) ⟨_, rfl, (up_m rfl hb_27)⟩ rfl ?_
                                              refine al_ro' (ro_fld_ptr q1_fl24_5 rfl (up_m rfl (u8 rfl (u16 rfl s1_14)))) ⟨_, rfl, (u2 rfl hb_27)⟩ rfl ?_
                                              refine al_ro' (ro_eq (ro_ld_ptr q1_ty3 rfl mo0_13 up_h (by first | exact Nat.le_of_ble_eq_true rfl | omega | (simp only [lnS] <;> omega) | (simp <;> omega))) (by first | (simp only [packA_t, packA_f, iE, bE, setAt, cellsA, Value.cells, map_vc, map_vn, Nat.reduceAdd, qS] <;> rfl) | rfl)) ⟨_, rfl, (up_m rfl (u2 rfl hb_27))⟩ rfl ?_
                                              refine al_ro' (ro_call (evL_cons (u2 rfl up_h) (evL_cons ev_c (evL_cons up_h evL_nil))) rfl (bWithin_ok _ _ _) q1_hcf10) ⟨_, rfl, (u4 rfl hb_27)⟩ rfl ?_
                                              refine al_ro' (ro_not up_h) ⟨_, rfl, (up_m rfl (u4 rfl hb_27))⟩ rfl ?_
                                              refine al_ro' (ro_pickF (u2 rfl (u4 rfl hb_27)) up_h) trivial rfl ?_
                                              refine al_ro' (ro_move up_h) trivial rfl ?_
                                              refine al_case up_h (fun hb_29 hq_29 => ?_) (fun hb_29 hq_29 => ?_)
                                              · (first | replace hq_29 := bnt hq_29 | replace hq_29 := bnf hq_29 | replace hq_29 := bt hq_29 | replace hq_29 := bf hq_29 | replace hq_29 := bt' hq_29 | replace hq_29 := bf' hq_29 | skip)
                                                first
                                                | (cases hq_29; done) | (exfalso; omega)
                                                | (
                                                   refine al_skip' ⟨_, rfl, .inl hb_29⟩ rfl ?_
                                                   refine al_skip' ⟨_, rfl, .inl (up_m rfl hb_29)⟩ rfl ?_
                                                   refine al_skip' ⟨_, rfl, .inl (u2 rfl hb_29)⟩ rfl ?_
                                                   refine al_skip' ⟨_, rfl, .inl (up_m rfl (u2 rfl hb_29))⟩ rfl ?_
                                                   refine al_skip' ⟨_, rfl, .inl (u4 rfl hb_29)⟩ rfl ?_
                                                   refine al_skip' ⟨_, rfl, .inl (up_m rfl (u4 rfl hb_29))⟩ rfl ?_
                                                   refine al_ro' (ro_pickT (u2 rfl (u4 rfl hb_29)) ev_c) trivial rfl ?_
                                                   refine al_end (fun e_30 he_30 => ?_)
                                                   have s71_30 := ef 71 he_30 up_h
                                                   clear he_30
                                                   refine then_n ⟨(s71_30).trans (by (refine avb ?_; simp only [restB]; simp_all)), rfl⟩)
                                              · (first | replace hq_29 := bnt hq_29 | replace hq_29 := bnf hq_29 | replace hq_29 := bt hq_29 | replace hq_29 := bf hq_29 | replace hq_29 := bt' hq_29 | replace hq_29 := bf' hq_29 | skip)
                                                first
                                                | (cases hq_29; done) | (exfalso; omega)
                                                | (
                                                   refine al_ro' (ro_fld_ptr q1_fl24_7 rfl (up_m rfl (u2 rfl (u4 rfl (u8 rfl (u16 rfl s1_14)))))) ⟨_, rfl, hb_29⟩ rfl ?_
                                                   refine al_ro' (ro_eq (ro_ld_ptr q1_ty3 rfl mo0_13 up_h (by first | exact Nat.le_of_ble_eq_true rfl | omega | (simp only [lnS] <;> omega) | (simp <;> omega))) (by first | (simp only [packA_t, packA_f, iE, bE, setAt, cellsA, Value.cells, map_vc, map_vn, Nat.reduceAdd, qS] <;> rfl) | rfl)) ⟨_, rfl, (up_m rfl hb_29)⟩ rfl ?_
                                                   refine al_ro' (ro_fld_ptr q1_fl24_1 rfl (up_m rfl (u16 rfl (u16 rfl s1_14)))) ⟨_, rfl, (u2 rfl hb_29)⟩ rfl ?_
                                                   refine al_ro' (ro_eq (ro_ld_ptr q1_ty3 rfl mo0_13 up_h (by first | exact Nat.le_of_ble_eq_true rfl | omega | (simp only [lnS] <;> omega) | (simp <;> omega))) (by first | (simp only [packA_t, packA_f, iE, bE, setAt, cellsA, Value.cells, map_vc, map_vn, Nat.reduceAdd, qS] <;> rfl) | rfl)) ⟨_, rfl, (up_m rfl (u2 rfl hb_29))⟩ rfl ?_
                                                   refine al_ro' (ro_call (evL_cons (u2 rfl up_h) (evL_cons ev_c (evL_cons up_h evL_nil))) rfl (bWithin_ok _ _ _) q1_hcf10) ⟨_, rfl, (u4 rfl hb_29)⟩ rfl ?_
                                                   refine al_ro' (ro_not up_h) ⟨_, rfl, (up_m rfl (u4 rfl hb_29))⟩ rfl ?_
                                                   refine al_ro' (ro_pickF (u2 rfl (u4 rfl hb_29)) up_h) trivial rfl ?_
                                                   refine al_end (fun e_31 he_31 => ?_)
                                                   have s71_31 := ef 71 he_31 up_h
                                                   clear he_31
                                                   refine then_n ⟨(s71_31).trans (by (refine avb ?_; simp only [restB]; simp_all)), rfl⟩)))))
                        · rintro e_20 _ ⟨s71_20, rfl⟩
                          refine aw_case s71_20 (fun hq_32 => ?_) (fun hq_32 => ?_)
                          · (first | replace hq_32 := bnt hq_32 | replace hq_32 := bnf hq_32 | replace hq_32 := bt hq_32 | replace hq_32 := bf hq_32 | replace hq_32 := bt' hq_32 | replace hq_32 := bf' hq_32 | skip)
                            first
                            | (cases hq_32; done) | (exfalso; omega)
                            | (
                               refine aw_seq ?_
                               refine aw_text (by kernel_rfl) ?_
                               refine al_ro' (ro_assign ev_c) trivial rfl ?_
                               refine al_ro' (ro_assign ev_c) trivial rfl ?_
                               refine al_end (fun e_33 he_33 => ?_)
                               have s2_33 := ef 2 he_33 (up_m rfl up_h)
                               have s3_33 := ef 3 he_33 up_h
                               clear he_33 s71_20
                               refine then_n ?_
                               refine aw_ret ?_
                               refine then_r ?_
                               refine ret2 (.inr rfl) (by kernel_rfl) (resV_tmp s2_33) (resV_tmp s3_33) (.ro _ rfl) (.ro _ rfl) ?_
                               clear s2_33 s3_33 mo0_13 ml_13
                               (have hw : withinB t.win 1 12 = true := (by assumption); have hv := van_miss (fun j hj => p3 j (by omega)); have hb : restB t = false := (by simp_all); have h1 : ¬ (t.van.length : Int) < t.win := (by omega); have h2 : ¬ 40 < t.van.length := (by omega); simp only [tkN, tkE, hw, h1, h2, if_true, if_false, hv.1, hv.2, hb]; try rfl))
                          · (first | replace hq_32 := bnt hq_32 | replace hq_32 := bnf hq_32 | replace hq_32 := bt hq_32 | replace hq_32 := bf hq_32 | replace hq_32 := bt' hq_32 | replace hq_32 := bf' hq_32 | skip)
                            first
                            | (cases hq_32; done) | (exfalso; omega)
                            | (
                               refine aw_skip ?_
                               refine then_n ?_
                               refine aw_seq ?_
                               refine aw_text (by kernel_rfl) ?_
                               refine al_ro' (ro_assign ev_c) trivial rfl ?_
                               refine al_ro' (ro_assign ev_c) trivial rfl ?_
                               refine al_end (fun e_34 he_34 => ?_)
                               have s2_34 := ef 2 he_34 (up_m rfl up_h)
                               have s3_34 := ef 3 he_34 up_h
                               clear he_34 s71_20
                               refine then_n ?_
                               refine aw_ret ?_
                               refine ret2 (.inr rfl) (by kernel_rfl) (resV_tmp s2_34) (resV_tmp s3_34) (.ro _ rfl) (.ro _ rfl) ?_
                               clear s2_34 s3_34 mo0_13 ml_13
                               (have hw : withinB t.win 1 12 = true := (by assumption); have hv := van_miss (fun j hj => p3 j (by omega)); have hb : restB t = true := (by simp_all); have h1 : ¬ (t.van.length : Int) < t.win := (by omega); have h2 : ¬ 40 < t.van.length := (by omega); simp only [tkN, tkE, hw, h1, h2, if_true, if_false, hv.1, hv.2, hb]; try rfl))))))
set_option maxRecDepth 100000 in
set_option maxHeartbeats 1000000 in
theorem rqTrackErr_ok (t : Trk) (hl : t.van.length ≤ 1000) : FnOk Try.prog 8 [qA t] (fun q => q = zA (tkE t)) := by
  refine fnOk_of (fn := Try.f8) 11 (by kernel_rfl) rfl (by kernel_rfl) (Nat.le_of_ble_eq_true rfl) ?_
  intro e_0 m_0 hA hm_0
  have s0_0 : evA e_0 (.tmp 0) = _ := hA 0 _ rfl
  have ml_0 : m_0.length = 0 := by rw [hm_0]; rfl
  clear hA hm_0
  refine aw_seq ?_
  refine aw_text (by kernel_rfl) ?_
  refine al_stm (st_box s0_0 rfl ml_0) trivial rfl (fun m_1 hm_1 => ?_)
  have mo0_1 := m_push hm_1 ml_0
  (try simp only [packA_t, packA_f, iE, bE, setAt, cellsA, Value.cells, map_vc, map_vn, Nat.reduceAdd, qS] at mo0_1)
  have ml_1 := m_push_l hm_1 ml_0
  have ml_1 : _ = 1 := ml_1
  clear hm_1
  refine al_ro' (ro_assign ev_c) trivial rfl ?_
  refine al_end (fun e_2 he_2 => ?_)
  have s1_2 := ef 1 he_2 (up_m rfl up_h)
  clear he_2 s0_0
  refine then_n ?_
  refine aw_seq ?_
  refine aw_text (by kernel_rfl) ?_
  refine al_ro' (ro_eq (ro_ld_ptr q1_ty24 rfl mo0_1 s1_2 (by first | exact Nat.le_of_ble_eq_true rfl | omega | (simp only [lnS] <;> omega) | (simp <;> omega))) (by first | (simp only [packA_t, packA_f, iE, bE, setAt, cellsA, Value.cells, map_vc, map_vn, Nat.reduceAdd, qS] <;> rfl) | rfl)) trivial rfl ?_
  refine al_ro' (ro_call (evL_cons up_h evL_nil) rfl (rqCheckTrack_ok t hl) q1_hcf38) trivial rfl ?_
  refine al_ro' (ro_move up_h) trivial rfl ?_
  refine al_ro' (ro_extract up_h rfl) trivial rfl ?_
  refine al_ro' (ro_extract (up_m rfl up_h) rfl) trivial rfl ?_
  refine al_ro' (ro_assign (up_m rfl up_h)) trivial rfl ?_
  refine al_ro' (ro_assign (up_m rfl up_h)) trivial rfl ?_
  refine al_end (fun e_3 he_3 => ?_)
  have s4_3 := ef 4 he_3 up_h
  clear he_3 s1_2
  refine then_n ?_
  refine aw_seq ?_
  refine aw_text (by kernel_rfl) ?_
  refine al_ro' (ro_move s4_3) trivial rfl ?_
  refine al_ro' (ro_assign up_h) trivial rfl ?_
  refine al_end (fun e_4 he_4 => ?_)
  have s2_4 := ef 2 he_4 up_h
  clear he_4 s4_3
  refine then_n ?_
  refine aw_ret ?_
  refine ret1 (.inr rfl) (by kernel_rfl) (resV_tmp s2_4) (.ro _ rfl) ?_
  clear s2_4 mo0_1 ml_1
  rfl
def wnd (t : Trk) : Int := if t.rnd then t.van.length else t.van.length - t.win + 1
def tee (t : Trk) : Int := wnd t * t.per
/-- A right track. -/
structure RT (t : Trk) : Prop where
  win : 1 ≤ t.win ∧ t.win ≤ 12
  len : t.win ≤ t.van.length ∧ t.van.length ≤ 40
  van : ∀ j : Nat, 0 ≤ t.van.getD j default ∧ t.van.getD j default ≤ 1
  too : 1 ≤ t.too ∧ t.too ≤ 1000
  per : 1 ≤ t.per ∧ t.per ≤ 12
  fst : 0 ≤ t.fst ∧ t.fst ≤ 999000000
  mod : 1 ≤ t.mod ∧ t.mod ≤ 1000
  sla : 0 ≤ t.sla ∧ t.sla ≤ t.mod
  err : 0 ≤ t.err ∧ t.err ≤ t.win
theorem rt_of {t : Trk} (h : tkE t = 0) : RT t := by
  unfold tkE at h
  split at h
  · rename_i h1
    split at h
    · exact absurd h (by decide)
    · rename_i h2
      split at h
      · exact absurd h (by decide)
      · rename_i h3
        split at h
        · rename_i h4
          split at h
          · rename_i h5
            simp only [restB, withinB, Bool.and_eq_true, decide_eq_true_eq] at h1 h5
            refine ⟨h1, by omega, fun j => ?_, h5.1.1.1.1.1, h5.1.1.1.1.2, h5.1.1.1.2, h5.1.1.2, h5.1.2, h5.2⟩
            rw [List.all_eq_true] at h4
            by_cases hj : j < t.van.length
            · have := h4 _ (List.getElem_mem hj)
              simp only [vanB, withinB, Bool.and_eq_true, decide_eq_true_eq] at this
              rw [List.getD_eq_getElem?_getD, List.getElem?_eq_getElem hj]; exact this
            · rw [List.getD_eq_getElem?_getD, List.getElem?_eq_none (by omega)]; decide
          · exact absurd h (by decide)
        · exact absurd h (by decide)
  · exact absurd h (by decide)
theorem RT.wnd {t : Trk} (h : RT t) : 1 ≤ wnd t ∧ wnd t ≤ 40 := by
  have := h.len; have := h.win
  unfold Go.Proofs.Ytgiiedpambimoaa.wnd; split <;> omega
theorem RT.tee {t : Trk} (h : RT t) : 1 ≤ tee t ∧ tee t ≤ 480 := by
  have h1 := h.wnd; have h2 := h.per
  unfold Go.Proofs.Ytgiiedpambimoaa.tee
  have := Int.mul_le_mul h1.2 h2.2 (by omega) (by omega)
  have := Int.mul_le_mul h1.1 h2.1 (by omega) (by omega)
  omega
set_option maxRecDepth 100000 in
set_option maxHeartbeats 1000000 in
theorem rqWindowsOf_ok (t : Trk) (h : RT t) : FnOk Try.prog 74 [qA t] (fun q => q = zA (wnd t)) := by
  have h1 := h.len
  have h2 := h.win
  refine fnOk_of (fn := Try.f74) 15 (by kernel_rfl) rfl (by kernel_rfl) (Nat.le_of_ble_eq_true rfl) ?_
  intro e_0 m_0 hA hm_0
  have s0_0 : evA e_0 (.tmp 0) = _ := hA 0 _ rfl
  have ml_0 : m_0.length = 0 := by rw [hm_0]; rfl
  clear hA hm_0
  refine aw_seq ?_
  refine aw_text (by kernel_rfl) ?_
  refine al_stm (st_box s0_0 rfl ml_0) trivial rfl (fun m_1 hm_1 => ?_)
  have mo0_1 := m_push hm_1 ml_0
  (try simp only [packA_t, packA_f, iE, bE, setAt, cellsA, Value.cells, map_vc, map_vn, Nat.reduceAdd, qS] at mo0_1)
  have ml_1 := m_push_l hm_1 ml_0
  have ml_1 : _ = 1 := ml_1
  clear hm_1
  refine al_ro' (ro_assign ev_c) trivial rfl ?_
  refine al_end (fun e_2 he_2 => ?_)
  have s1_2 := ef 1 he_2 (up_m rfl up_h)
  clear he_2 s0_0
  refine then_n ?_
  refine aw_seq ?_
  refine aw_seq ?_
  refine aw_text (by kernel_rfl) ?_
  refine al_ro' (ro_fld_ptr q1_fl24_8 rfl s1_2) trivial rfl ?_
  refine al_ro' (ro_eq (ro_ld_ptr q1_ty4 rfl mo0_1 up_h (by first | exact Nat.le_of_ble_eq_true rfl | omega | (simp only [lnS] <;> omega) | (simp <;> omega))) (by first | (simp only [packA_t, packA_f, iE, bE, setAt, cellsA, Value.cells, map_vc, map_vn, Nat.reduceAdd, qS] <;> rfl) | rfl)) trivial rfl ?_
  refine al_end (fun e_3 he_3 => ?_)
  have s1_3 := ef 1 he_3 (u2 rfl s1_2)
  have s4_3 := ef 4 he_3 up_h
  clear he_3 s1_2
  refine then_n ?_
  refine aw_case s4_3 (fun hq_4 => ?_) (fun hq_4 => ?_)
  · (first | replace hq_4 := bnt hq_4 | replace hq_4 := bnf hq_4 | replace hq_4 := bt hq_4 | replace hq_4 := bf hq_4 | replace hq_4 := bt' hq_4 | replace hq_4 := bf' hq_4 | skip)
    first
    | (cases hq_4; done) | (exfalso; omega)
    | (
       refine aw_seq ?_
       refine aw_text (by kernel_rfl) ?_
       refine al_ro' (ro_fld_ptr q1_fl24_0 rfl s1_3) trivial rfl ?_
       refine al_ro' (ro_eq (ro_ld_ptr q1_ty22 rfl mo0_1 up_h (by first | exact Nat.le_of_ble_eq_true rfl | omega | (simp only [lnS] <;> omega) | (simp <;> omega))) (by first | (simp only [packA_t, packA_f, iE, bE, setAt, cellsA, Value.cells, map_vc, map_vn, Nat.reduceAdd, qS] <;> rfl) | rfl)) trivial rfl ?_
       refine al_ro' (ro_eq (ro_len_row up_h rfl q1_sl22.1) (by first | (simp only [lnS] <;> rfl) | rfl)) trivial rfl ?_
       refine al_ro' (ro_assign up_h) trivial rfl ?_
       refine al_end (fun e_5 he_5 => ?_)
       have s2_5 := ef 2 he_5 up_h
       clear he_5 s1_3 s4_3
       refine then_n ?_
       refine aw_ret ?_
       refine then_r ?_
       refine ret1 (.inr rfl) (by kernel_rfl) (resV_tmp s2_5) (.ro _ rfl) ?_
       clear s2_5 mo0_1 ml_1
       (unfold wnd; simp_all))
  · (first | replace hq_4 := bnt hq_4 | replace hq_4 := bnf hq_4 | replace hq_4 := bt hq_4 | replace hq_4 := bf hq_4 | replace hq_4 := bt' hq_4 | replace hq_4 := bf' hq_4 | skip)
    first
    | (cases hq_4; done) | (exfalso; omega)
    | (
       refine aw_skip ?_
       refine then_n ?_
       refine aw_seq ?_
       refine aw_text (by kernel_rfl) ?_
       refine al_ro' (ro_fld_ptr q1_fl24_0 rfl s1_3) trivial rfl ?_
       refine al_ro' (ro_eq (ro_ld_ptr q1_ty22 rfl mo0_1 up_h (by first | exact Nat.le_of_ble_eq_true rfl | omega | (simp only [lnS] <;> omega) | (simp <;> omega))) (by first | (simp only [packA_t, packA_f, iE, bE, setAt, cellsA, Value.cells, map_vc, map_vn, Nat.reduceAdd, qS] <;> rfl) | rfl)) trivial rfl ?_
       refine al_ro' (ro_eq (ro_len_row up_h rfl q1_sl22.1) (by first | (simp only [lnS] <;> rfl) | rfl)) trivial rfl ?_
       refine al_ro' (ro_fld_ptr q1_fl24_1 rfl (up_m rfl (u2 rfl s1_3))) trivial rfl ?_
       refine al_ro' (ro_eq (ro_ld_ptr q1_ty3 rfl mo0_1 up_h (by first | exact Nat.le_of_ble_eq_true rfl | omega | (simp only [lnS] <;> omega) | (simp <;> omega))) (by first | (simp only [packA_t, packA_f, iE, bE, setAt, cellsA, Value.cells, map_vc, map_vn, Nat.reduceAdd, qS] <;> rfl) | rfl)) trivial rfl ?_
       first | (refine al_ro' (ro_sub' (u2 rfl up_h) up_h ?_) trivial rfl ?_; · (unfold In64; omega)) | refine al_ro' (ro_sub (u2 rfl up_h) up_h) trivial rfl ?_
       first | (refine al_ro' (ro_add' up_h ev_c ?_) trivial rfl ?_; · (unfold In64; omega)) | refine al_ro' (ro_add up_h ev_c) trivial rfl ?_
       refine al_ro' (ro_assign up_h) trivial rfl ?_
       refine al_end (fun e_6 he_6 => ?_)
       have s2_6 := ef 2 he_6 up_h
       clear he_6 s1_3 s4_3
       refine then_n ?_
       refine aw_ret ?_
       refine ret1 (.inr rfl) (by kernel_rfl) (resV_tmp s2_6) (.ro _ rfl) ?_
       clear s2_6 mo0_1 ml_1
       (unfold wnd; simp_all))
set_option maxRecDepth 100000 in
set_option maxHeartbeats 1000000 in
theorem rqTeethOf_ok (t : Trk) (h : RT t) : FnOk Try.prog 39 [qA t] (fun q => q = zA (tee t)) := by
  have h1 := h.tee
  have h2 : tee t = wnd t * t.per := rfl
  refine fnOk_of (fn := Try.f39) 8 (by kernel_rfl) rfl (by kernel_rfl) (Nat.le_of_ble_eq_true rfl) ?_
  intro e_0 m_0 hA hm_0
  have s0_0 : evA e_0 (.tmp 0) = _ := hA 0 _ rfl
  have ml_0 : m_0.length = 0 := by rw [hm_0]; rfl
  clear hA hm_0
  refine aw_seq ?_
  refine aw_text (by kernel_rfl) ?_
  refine al_stm (st_box s0_0 rfl ml_0) trivial rfl (fun m_1 hm_1 => ?_)
  have mo0_1 := m_push hm_1 ml_0
  (try simp only [packA_t, packA_f, iE, bE, setAt, cellsA, Value.cells, map_vc, map_vn, Nat.reduceAdd, qS] at mo0_1)
  have ml_1 := m_push_l hm_1 ml_0
  have ml_1 : _ = 1 := ml_1
  clear hm_1
  refine al_ro' (ro_assign ev_c) trivial rfl ?_
  refine al_end (fun e_2 he_2 => ?_)
  have s1_2 := ef 1 he_2 (up_m rfl up_h)
  clear he_2 s0_0
  refine then_n ?_
  refine aw_seq ?_
  refine aw_draw 6 (by kernel_rfl) (by kernel_rfl) (by kernel_rfl) (by kernel_rfl) ?_
  refine ds_ro' (ro_eq (ro_ld_ptr q1_ty24 rfl mo0_1 s1_2 (by first | exact Nat.le_of_ble_eq_true rfl | omega | (simp only [lnS] <;> omega) | (simp <;> omega))) (by first | (simp only [packA_t, packA_f, iE, bE, setAt, cellsA, Value.cells, map_vc, map_vn, Nat.reduceAdd, qS] <;> rfl) | rfl)) trivial rfl ?_
  refine ds_ro' (ro_call (evL_cons up_h evL_nil) rfl (rqWindowsOf_ok t h) q1_hcf74) trivial rfl ?_
  refine ds_ro' (ro_fld_ptr q1_fl24_3 rfl (u2 rfl s1_2)) trivial rfl ?_
  refine ds_ro' (ro_eq (ro_ld_ptr q1_ty3 rfl mo0_1 up_h (by first | exact Nat.le_of_ble_eq_true rfl | omega | (simp only [lnS] <;> omega) | (simp <;> omega))) (by first | (simp only [packA_t, packA_f, iE, bE, setAt, cellsA, Value.cells, map_vc, map_vn, Nat.reduceAdd, qS] <;> rfl) | rfl)) trivial rfl ?_
  first | (refine ds_ro' (ro_mul' (u2 rfl up_h) up_h ?_) trivial rfl ?_; · (unfold In64; omega)) | refine ds_ro' (ro_mul (u2 rfl up_h) up_h) trivial rfl ?_
  refine ds_ro' (ro_assign up_h) trivial rfl ?_
  refine ds_nil ?_
  refine al_end (fun e_3 he_3 => ?_)
  have s2_3 := ef 2 he_3 up_h
  clear he_3 s1_2
  refine then_n ?_
  refine aw_ret ?_
  refine ret1 (.inr rfl) (by kernel_rfl) (resV_tmp s2_3) (.ro _ rfl) ?_
  clear s2_3 mo0_1 ml_1
  rfl
def tooE (t : Trk) (i : Int) : Int := if withinB i 0 (tee t - 1) then 0 else 6
theorem tooE_z {t : Trk} {i : Int} (h : tooE t i = 0) : 0 ≤ i ∧ i < tee t := by
  unfold tooE at h
  split at h
  · rename_i hw; simp only [withinB, Bool.and_eq_true, decide_eq_true_eq] at hw; omega
  · exact absurd h (by decide)
set_option maxRecDepth 100000 in
set_option maxHeartbeats 1000000 in
theorem rqToothErr_ok (t : Trk) (h : RT t) (i : Int) : FnOk Try.prog 9 [qA t, zA i] (fun q => q = zA (tooE t i)) := by
  have h1 := h.tee
  refine fnOk_of (fn := Try.f9) 11 (by kernel_rfl) rfl (by kernel_rfl) (Nat.le_of_ble_eq_true rfl) ?_
  intro e_0 m_0 hA hm_0
  have s0_0 : evA e_0 (.tmp 0) = _ := hA 0 _ rfl
  have s1_0 : evA e_0 (.tmp 1) = _ := hA 1 _ rfl
  have ml_0 : m_0.length = 0 := by rw [hm_0]; rfl
  clear hA hm_0
  refine aw_seq ?_
  refine aw_text (by kernel_rfl) ?_
  refine al_stm (st_box s0_0 rfl ml_0) trivial rfl (fun m_1 hm_1 => ?_)
  have mo0_1 := m_push hm_1 ml_0
  (try simp only [packA_t, packA_f, iE, bE, setAt, cellsA, Value.cells, map_vc, map_vn, Nat.reduceAdd, qS] at mo0_1)
  have ml_1 := m_push_l hm_1 ml_0
  have ml_1 : _ = 1 := ml_1
  clear hm_1
  refine al_ro' (ro_assign ev_c) trivial rfl ?_
  refine al_end (fun e_2 he_2 => ?_)
  have s1_2 := ef 1 he_2 (u2 rfl s1_0)
  have s2_2 := ef 2 he_2 (up_m rfl up_h)
  clear he_2 s0_0 s1_0
  refine then_n ?_
  refine aw_seq ?_
  refine aw_seq ?_
  refine aw_text (by kernel_rfl) ?_
  refine al_ro' (ro_move s1_2) trivial rfl ?_
  refine al_ro' (ro_eq (ro_ld_ptr q1_ty24 rfl mo0_1 (up_m rfl s2_2) (by first | exact Nat.le_of_ble_eq_true rfl | omega | (simp only [lnS] <;> omega) | (simp <;> omega))) (by first | (simp only [packA_t, packA_f, iE, bE, setAt, cellsA, Value.cells, map_vc, map_vn, Nat.reduceAdd, qS] <;> rfl) | rfl)) trivial rfl ?_
  refine al_ro' (ro_call (evL_cons up_h evL_nil) rfl (rqTeethOf_ok t h) q1_hcf39) trivial rfl ?_
  first | (refine al_ro' (ro_sub' up_h ev_c ?_) trivial rfl ?_; · (unfold In64; omega)) | refine al_ro' (ro_sub up_h ev_c) trivial rfl ?_
  refine al_ro' (ro_call (evL_cons (up_m rfl (u2 rfl up_h)) (evL_cons ev_c (evL_cons up_h evL_nil))) rfl (bWithin_ok _ _ _) q1_hcf10) trivial rfl ?_
  refine al_ro' (ro_not up_h) trivial rfl ?_
  refine al_end (fun e_3 he_3 => ?_)
  have s10_3 := ef 10 he_3 up_h
  clear he_3 s1_2 s2_2
  refine then_n ?_
  refine aw_case s10_3 (fun hq_4 => ?_) (fun hq_4 => ?_)
  · (first | replace hq_4 := bnt hq_4 | replace hq_4 := bnf hq_4 | replace hq_4 := bt hq_4 | replace hq_4 := bf hq_4 | replace hq_4 := bt' hq_4 | replace hq_4 := bf' hq_4 | skip)
    first
    | (cases hq_4; done) | (exfalso; omega)
    | (
       refine aw_seq ?_
       refine aw_text (by kernel_rfl) ?_
       refine al_ro' (ro_assign ev_c) trivial rfl ?_
       refine al_end (fun e_5 he_5 => ?_)
       have s4_5 := ef 4 he_5 up_h
       clear he_5 s10_3
       refine then_n ?_
       refine aw_ret ?_
       refine then_r ?_
       refine ret1 (.inr rfl) (by kernel_rfl) (resV_tmp s4_5) (.ro _ rfl) ?_
       clear s4_5 mo0_1 ml_1
       (unfold tooE; simp_all))
  · (first | replace hq_4 := bnt hq_4 | replace hq_4 := bnf hq_4 | replace hq_4 := bt hq_4 | replace hq_4 := bf hq_4 | replace hq_4 := bt' hq_4 | replace hq_4 := bf' hq_4 | skip)
    first
    | (cases hq_4; done) | (exfalso; omega)
    | (
       refine aw_skip ?_
       refine then_n ?_
       refine aw_seq ?_
       refine aw_text (by kernel_rfl) ?_
       refine al_ro' (ro_assign ev_c) trivial rfl ?_
       refine al_end (fun e_6 he_6 => ?_)
       have s4_6 := ef 4 he_6 up_h
       clear he_6 s10_3
       refine then_n ?_
       refine aw_ret ?_
       refine ret1 (.inr rfl) (by kernel_rfl) (resV_tmp s4_6) (.ro _ rfl) ?_
       clear s4_6 mo0_1 ml_1
       (unfold tooE; simp_all))
set_option maxRecDepth 100000 in
set_option maxHeartbeats 1000000 in
theorem qCopyInts_ok (xs : List Int) (hc : xs.length ≤ 1000000) : FnOk Try.prog 23 [.row 1 (xs.map iE)] (fun q => q = .row 1 (xs.map iE)) := by
  refine fnOk_of (fn := Try.f23) 6 (by kernel_rfl) rfl (by kernel_rfl) (Nat.le_of_ble_eq_true rfl) ?_
  intro e_0 m_0 hA hm_0
  have s0_0 : evA e_0 (.tmp 0) = _ := hA 0 _ rfl
  have ml_0 : m_0.length = 0 := by rw [hm_0]; rfl
  clear hA hm_0
  refine aw_seq ?_
  refine aw_text (by kernel_rfl) ?_
  refine al_ro' (ro_assign ev_c) trivial rfl ?_
  refine al_end (fun e_1 he_1 => ?_)
  have s0_1 := ef 0 he_1 (up_m rfl s0_0)
  clear he_1 s0_0
  refine then_n ?_
  refine aw_seq ?_
  refine aw_text (by kernel_rfl) ?_
  refine al_ro' (ro_lit0 q1_sl22) trivial rfl ?_
  refine al_ro' (ro_move (up_m rfl s0_1)) trivial rfl ?_
  refine al_ro' (ro_ape q1_sl22 rfl (up_m rfl up_h) up_h (by first | omega | (simp only [lnS] <;> omega) | (simp <;> omega))) trivial rfl ?_
  refine al_ro' (ro_assign up_h) trivial rfl ?_
  refine al_end (fun e_2 he_2 => ?_)
  have s2_2 := ef 2 he_2 up_h
  clear he_2 s0_1
  refine then_n ?_
  refine aw_ret ?_
  refine ret1 (.inr rfl) (by kernel_rfl) (resV_tmp s2_2) (.ro _ rfl) ?_
  clear s2_2  ml_0
  rfl
set_option maxRecDepth 100000 in
set_option maxHeartbeats 1000000 in
theorem rqCopy_ok (t : Trk) (hl : t.van.length ≤ 1000) : FnOk Try.prog 13 [qA t] (fun q => q = qA t) := by
  refine fnOk_of (fn := Try.f13) 8 (by kernel_rfl) rfl (by kernel_rfl) (Nat.le_of_ble_eq_true rfl) ?_
  intro e_0 m_0 hA hm_0
  have s0_0 : evA e_0 (.tmp 0) = _ := hA 0 _ rfl
  have ml_0 : m_0.length = 0 := by rw [hm_0]; rfl
  clear hA hm_0
  refine aw_seq ?_
  refine aw_text (by kernel_rfl) ?_
  refine al_stm (st_box s0_0 rfl ml_0) trivial rfl (fun m_1 hm_1 => ?_)
  have mo0_1 := m_push hm_1 ml_0
  (try simp only [packA_t, packA_f, iE, bE, setAt, cellsA, Value.cells, map_vc, map_vn, Nat.reduceAdd, qS] at mo0_1)
  have ml_1 := m_push_l hm_1 ml_0
  have ml_1 : _ = 1 := ml_1
  clear hm_1
  refine al_stm (st_alloc q1_az24 rfl ml_1) trivial rfl (fun m_2 hm_2 => ?_)
  have mo1_2 := m_push hm_2 ml_1
  (try simp only [packA_t, packA_f, iE, bE, setAt, cellsA, Value.cells, map_vc, map_vn, Nat.reduceAdd, qS] at mo1_2)
  have mo0_2 := m_push_o hm_2 mo0_1
  have ml_2 := m_push_l hm_2 ml_1
  have ml_2 : _ = 2 := ml_2
  clear hm_2 mo0_1
  refine al_end (fun e_3 he_3 => ?_)
  have s1_3 := ef 1 he_3 (up_m rfl up_h)
  have s2_3 := ef 2 he_3 up_h
  clear he_3 s0_0
  refine then_n ?_
  refine aw_seq ?_
  refine aw_text (by kernel_rfl) ?_
  refine al_ro' (ro_fld_ptr q1_fl24_0 rfl s1_3) trivial rfl ?_
  refine al_ro' (ro_eq (ro_ld_ptr q1_ty22 rfl mo0_2 up_h (by first | exact Nat.le_of_ble_eq_true rfl | omega | (simp only [lnS] <;> omega) | (simp <;> omega))) (by first | (simp only [packA_t, packA_f, iE, bE, setAt, cellsA, Value.cells, map_vc, map_vn, Nat.reduceAdd, qS] <;> rfl) | rfl)) trivial rfl ?_
  refine al_ro' (ro_call (evL_cons up_h evL_nil) rfl (qCopyInts_ok t.van (by omega)) q1_hcf23) trivial rfl ?_
  refine al_ro' (ro_fld_ptr q1_fl24_0 rfl (up_m rfl (u2 rfl s1_3))) trivial rfl ?_
  refine al_stm (st_store up_h (up_m rfl up_h) rfl rfl mo0_2 q1_sz22 rfl (by first | exact Nat.le_of_ble_eq_true rfl | omega | (simp only [lnS] <;> omega) | (simp <;> omega))) trivial rfl (fun m_4 hm_4 => ?_)
  have mo0_4 := m_set hm_4 mo0_2
  (try simp only [packA_t, packA_f, iE, bE, setAt, cellsA, Value.cells, map_vc, map_vn, Nat.reduceAdd, qS] at mo0_4)
  have mo1_4 := m_set_o hm_4 mo1_2 (by decide)
  have ml_4 := m_set_l hm_4 ml_2
  clear hm_4 mo1_2 mo0_2
  refine al_end (fun e_5 he_5 => ?_)
  have s1_5 := ef 1 he_5 (up_n (u4 rfl s1_3))
  have s2_5 := ef 2 he_5 (up_n (u4 rfl s2_3))
  clear he_5 s1_3 s2_3
  refine then_n ?_
  refine aw_seq ?_
  refine aw_text (by kernel_rfl) ?_
  refine al_ro' (ro_eq (ro_ld_ptr q1_ty24 rfl mo0_4 s1_5 (by first | exact Nat.le_of_ble_eq_true rfl | omega | (simp only [lnS] <;> omega) | (simp <;> omega))) (by first | (simp only [packA_t, packA_f, iE, bE, setAt, cellsA, Value.cells, map_vc, map_vn, Nat.reduceAdd, qS] <;> rfl) | rfl)) trivial rfl ?_
  refine al_stm (st_store (up_m rfl s2_5) up_h rfl rfl mo1_4 q1_sz24 rfl (by first | exact Nat.le_of_ble_eq_true rfl | omega | (simp only [lnS] <;> omega) | (simp <;> omega))) trivial rfl (fun m_6 hm_6 => ?_)
  have mo1_6 := m_set hm_6 mo1_4
  (try simp only [packA_t, packA_f, iE, bE, setAt, cellsA, Value.cells, map_vc, map_vn, Nat.reduceAdd, qS] at mo1_6)
  have mo0_6 := m_set_o hm_6 mo0_4 (by decide)
  have ml_6 := m_set_l hm_6 ml_4
  clear hm_6 mo0_4 mo1_4
  refine al_end (fun e_7 he_7 => ?_)
  have s2_7 := ef 2 he_7 (up_n (up_m rfl s2_5))
  clear he_7 s1_5 s2_5
  refine then_n ?_
  refine aw_ret ?_
  refine ret1 (.inr rfl) (by kernel_rfl) (resV_cell s2_7 mo1_6 q1_ty24 (by first | exact Nat.le_of_ble_eq_true rfl | omega | (simp only [lnS] <;> omega) | (simp <;> omega)) (by simp)) (vw_r (.ro _ rfl)) ?_
  clear s2_7 mo1_6 mo0_6 ml_6
  rfl
set_option maxRecDepth 100000 in
set_option maxHeartbeats 1000000 in
theorem lqShort_ok (t : Trk) : FnOk Try.prog 7 [qA t] (fun q => q = yA (decide (t.van.length ≤ 16 ∨ (40 < t.van.length ∧ t.van.length ≤ 42)))) := by
  refine fnOk_of (fn := Try.f7) 19 (by kernel_rfl) rfl (by kernel_rfl) (Nat.le_of_ble_eq_true rfl) ?_
  intro e_0 m_0 hA hm_0
  have s0_0 : evA e_0 (.tmp 0) = _ := hA 0 _ rfl
  have ml_0 : m_0.length = 0 := by rw [hm_0]; rfl
  clear hA hm_0
  refine aw_seq ?_
  refine aw_text (by kernel_rfl) ?_
  refine al_stm (st_box s0_0 rfl ml_0) trivial rfl (fun m_1 hm_1 => ?_)
  have mo0_1 := m_push hm_1 ml_0
  (try simp only [packA_t, packA_f, iE, bE, setAt, cellsA, Value.cells, map_vc, map_vn, Nat.reduceAdd, qS] at mo0_1)
  have ml_1 := m_push_l hm_1 ml_0
  have ml_1 : _ = 1 := ml_1
  clear hm_1
  refine al_ro' (ro_assign ev_c) trivial rfl ?_
  refine al_end (fun e_2 he_2 => ?_)
  have s1_2 := ef 1 he_2 (up_m rfl up_h)
  clear he_2 s0_0
  refine then_n ?_
  refine aw_seq ?_
  refine aw_text (by kernel_rfl) ?_
  refine al_ro' (ro_fld_ptr q1_fl24_0 rfl s1_2) trivial rfl ?_
  refine al_ro' (ro_eq (ro_ld_ptr q1_ty22 rfl mo0_1 up_h (by first | exact Nat.le_of_ble_eq_true rfl | omega | (simp only [lnS] <;> omega) | (simp <;> omega))) (by first | (simp only [packA_t, packA_f, iE, bE, setAt, cellsA, Value.cells, map_vc, map_vn, Nat.reduceAdd, qS] <;> rfl) | rfl)) trivial rfl ?_
  refine al_ro' (ro_eq (ro_len_row up_h rfl q1_sl22.1) (by first | (simp only [lnS] <;> rfl) | rfl)) trivial rfl ?_
  refine al_ro' (ro_leq up_h ev_c) trivial rfl ?_
  refine al_ro' (ro_move up_h) trivial rfl ?_
  refine al_case up_h (fun hb_3 hq_3 => ?_) (fun hb_3 hq_3 => ?_)
  · (first | replace hq_3 := bnt hq_3 | replace hq_3 := bnf hq_3 | replace hq_3 := bt hq_3 | replace hq_3 := bf hq_3 | replace hq_3 := bt' hq_3 | replace hq_3 := bf' hq_3 | skip)
    first
    | (cases hq_3; done) | (exfalso; omega)
    | (
       refine al_skip' ⟨_, rfl, .inl hb_3⟩ rfl ?_
       refine al_skip' ⟨_, rfl, .inl (up_m rfl hb_3)⟩ rfl ?_
       refine al_skip' ⟨_, rfl, .inl (u2 rfl hb_3)⟩ rfl ?_
       refine al_skip' ⟨_, rfl, .inl (up_m rfl (u2 rfl hb_3))⟩ rfl ?_
       refine al_skip' ⟨_, rfl, .inl (u4 rfl hb_3)⟩ rfl ?_
       refine al_skip' ⟨_, rfl, .inr up_h⟩ rfl ?_
       refine al_skip' ⟨_, rfl, .inr (up_m rfl up_h)⟩ rfl ?_
       refine al_skip' ⟨_, rfl, .inr (u2 rfl up_h)⟩ rfl ?_
       refine al_skip' ⟨_, rfl, .inr (up_m rfl (u2 rfl up_h))⟩ rfl ?_
       refine al_skip' ⟨_, rfl, .inl (up_m rfl (u8 rfl hb_3))⟩ rfl ?_
       refine al_ro' (ro_pickT (u2 rfl (u8 rfl hb_3)) ev_c) trivial rfl ?_
       refine al_ro' (ro_assign up_h) trivial rfl ?_
       refine al_end (fun e_4 he_4 => ?_)
       have s2_4 := ef 2 he_4 up_h
       clear he_4 hb_3 s1_2
       refine then_n ?_
       refine aw_ret ?_
       refine ret1 (.inr rfl) (by kernel_rfl) (resV_tmp s2_4) (.ro _ rfl) ?_
       clear s2_4 mo0_1 ml_1
       (refine avb ?_; simp only [decide_eq_true_eq, Bool.false_eq_true, true_iff, false_iff]; omega))
  · (first | replace hq_3 := bnt hq_3 | replace hq_3 := bnf hq_3 | replace hq_3 := bt hq_3 | replace hq_3 := bf hq_3 | replace hq_3 := bt' hq_3 | replace hq_3 := bf' hq_3 | skip)
    first
    | (cases hq_3; done) | (exfalso; omega)
    | (
       refine al_ro' (ro_fld_ptr q1_fl24_0 rfl (up_m rfl (u4 rfl s1_2))) ⟨_, rfl, hb_3⟩ rfl ?_
       refine al_ro' (ro_eq (ro_ld_ptr q1_ty22 rfl mo0_1 up_h (by first | exact Nat.le_of_ble_eq_true rfl | omega | (simp only [lnS] <;> omega) | (simp <;> omega))) (by first | (simp only [packA_t, packA_f, iE, bE, setAt, cellsA, Value.cells, map_vc, map_vn, Nat.reduceAdd, qS] <;> rfl) | rfl)) ⟨_, rfl, (up_m rfl hb_3)⟩ rfl ?_
       refine al_ro' (ro_eq (ro_len_row up_h rfl q1_sl22.1) (by first | (simp only [lnS] <;> rfl) | rfl)) ⟨_, rfl, (u2 rfl hb_3)⟩ rfl ?_
       refine al_ro' (ro_gtr up_h ev_c) ⟨_, rfl, (up_m rfl (u2 rfl hb_3))⟩ rfl ?_
       refine al_ro' (ro_move up_h) ⟨_, rfl, (u4 rfl hb_3)⟩ rfl ?_
       refine al_case up_h (fun hb_5 hq_5 => ?_) (fun hb_5 hq_5 => ?_)
       · (first | replace hq_5 := bnt hq_5 | replace hq_5 := bnf hq_5 | replace hq_5 := bt hq_5 | replace hq_5 := bf hq_5 | replace hq_5 := bt' hq_5 | replace hq_5 := bf' hq_5 | skip)
         first
         | (cases hq_5; done) | (exfalso; omega)
         | (
            refine al_ro' (ro_fld_ptr q1_fl24_0 rfl (u2 rfl (u8 rfl s1_2))) ⟨_, rfl, hb_5⟩ rfl ?_
            refine al_ro' (ro_eq (ro_ld_ptr q1_ty22 rfl mo0_1 up_h (by first | exact Nat.le_of_ble_eq_true rfl | omega | (simp only [lnS] <;> omega) | (simp <;> omega))) (by first | (simp only [packA_t, packA_f, iE, bE, setAt, cellsA, Value.cells, map_vc, map_vn, Nat.reduceAdd, qS] <;> rfl) | rfl)) ⟨_, rfl, (up_m rfl hb_5)⟩ rfl ?_
            refine al_ro' (ro_eq (ro_len_row up_h rfl q1_sl22.1) (by first | (simp only [lnS] <;> rfl) | rfl)) ⟨_, rfl, (u2 rfl hb_5)⟩ rfl ?_
            refine al_ro' (ro_leq up_h ev_c) ⟨_, rfl, (up_m rfl (u2 rfl hb_5))⟩ rfl ?_
            refine al_ro' (ro_pickT (u4 rfl hb_5) up_h) ⟨_, rfl, (up_m rfl (u8 rfl hb_3))⟩ rfl ?_
            refine al_ro' (ro_pickF (u2 rfl (u8 rfl hb_3)) up_h) trivial rfl ?_
            refine al_ro' (ro_assign up_h) trivial rfl ?_
            refine al_end (fun e_6 he_6 => ?_)
            have s2_6 := ef 2 he_6 up_h
            clear he_6 hb_3 hb_5 s1_2
            refine then_n ?_
            refine aw_ret ?_
            refine ret1 (.inr rfl) (by kernel_rfl) (resV_tmp s2_6) (.ro _ rfl) ?_
            clear s2_6 mo0_1 ml_1
            (refine avb ?_; simp only [decide_eq_true_eq, Bool.false_eq_true, true_iff, false_iff]; omega))
       · (first | replace hq_5 := bnt hq_5 | replace hq_5 := bnf hq_5 | replace hq_5 := bt hq_5 | replace hq_5 := bf hq_5 | replace hq_5 := bt' hq_5 | replace hq_5 := bf' hq_5 | skip)
         first
         | (cases hq_5; done) | (exfalso; omega)
         | (
            refine al_skip' ⟨_, rfl, .inl hb_5⟩ rfl ?_
            refine al_skip' ⟨_, rfl, .inl (up_m rfl hb_5)⟩ rfl ?_
            refine al_skip' ⟨_, rfl, .inl (u2 rfl hb_5)⟩ rfl ?_
            refine al_skip' ⟨_, rfl, .inl (up_m rfl (u2 rfl hb_5))⟩ rfl ?_
            refine al_ro' (ro_pickF (u4 rfl hb_5) ev_c) ⟨_, rfl, (up_m rfl (u8 rfl hb_3))⟩ rfl ?_
            refine al_ro' (ro_pickF (u2 rfl (u8 rfl hb_3)) up_h) trivial rfl ?_
            refine al_ro' (ro_assign up_h) trivial rfl ?_
            refine al_end (fun e_7 he_7 => ?_)
            have s2_7 := ef 2 he_7 up_h
            clear he_7 hb_3 hb_5 s1_2
            refine then_n ?_
            refine aw_ret ?_
            refine ret1 (.inr rfl) (by kernel_rfl) (resV_tmp s2_7) (.ro _ rfl) ?_
            clear s2_7 mo0_1 ml_1
            (refine avb ?_; simp only [decide_eq_true_eq, Bool.false_eq_true, true_iff, false_iff]; omega)))
def rdT : Trk := ⟨[0, 0, 1, 1, 1, 0, 1], 3, 100, 2, 1000, 5, 0, 0, true⟩
set_option maxRecDepth 100000 in
set_option maxHeartbeats 1000000 in
theorem lqRound_ok : FnOk Try.prog 37 [] (fun q => q = qA rdT) := by
  refine fnOk_of (fn := Try.f37) 3 (by kernel_rfl) rfl (by kernel_rfl) (Nat.le_of_ble_eq_true rfl) ?_
  intro e_0 m_0 hA hm_0
  have ml_0 : m_0.length = 0 := by rw [hm_0]; rfl
  clear hA hm_0
  refine aw_seq ?_
  refine aw_text (by kernel_rfl) ?_
  refine al_stm (st_alloc q1_az24 rfl ml_0) trivial rfl (fun m_1 hm_1 => ?_)
  have mo0_1 := m_push hm_1 ml_0
  (try simp only [packA_t, packA_f, iE, bE, setAt, cellsA, Value.cells, map_vc, map_vn, Nat.reduceAdd, qS] at mo0_1)
  have ml_1 := m_push_l hm_1 ml_0
  have ml_1 : _ = 1 := ml_1
  clear hm_1
  refine al_end (fun e_2 he_2 => ?_)
  have s0_2 := ef 0 he_2 up_h
  clear he_2
  refine then_n ?_
  refine aw_seq ?_
  refine aw_text (by kernel_rfl) ?_
  refine al_ro' (ro_lit q1_sl22 (evP_cons ev_c (evP_cons ev_c (evP_cons ev_c (evP_cons ev_c (evP_cons ev_c (evP_cons ev_c (evP_cons ev_c evP_nil))))))) rfl rfl rfl rfl) trivial rfl ?_
  refine al_ro' (ro_build (evP_cons up_h (evP_cons ev_c (evP_cons ev_c (evP_cons ev_c (evP_cons ev_c (evP_cons ev_c (evP_cons ev_c evP_nil))))))) q1_bz24 q1_bu24 q1_bp24 rfl) trivial rfl ?_
  refine al_stm (st_store (u2 rfl s0_2) up_h rfl rfl mo0_1 q1_sz24 rfl (by first | exact Nat.le_of_ble_eq_true rfl | omega | (simp only [lnS] <;> omega) | (simp <;> omega))) trivial rfl (fun m_3 hm_3 => ?_)
  have mo0_3 := m_set hm_3 mo0_1
  (try simp only [packA_t, packA_f, iE, bE, setAt, cellsA, Value.cells, map_vc, map_vn, Nat.reduceAdd, qS] at mo0_3)
  have ml_3 := m_set_l hm_3 ml_1
  clear hm_3 mo0_1
  refine al_end (fun e_4 he_4 => ?_)
  have s0_4 := ef 0 he_4 (up_n (u2 rfl s0_2))
  clear he_4 s0_2
  refine then_n ?_
  refine aw_ret ?_
  refine ret1 (.inr rfl) (by kernel_rfl) (resV_cell s0_4 mo0_3 q1_ty24 (by first | exact Nat.le_of_ble_eq_true rfl | omega | (simp only [lnS] <;> omega) | (simp <;> omega)) (by simp)) (vw_r (.ro _ rfl)) ?_
  clear s0_4 mo0_3 ml_3
  rfl
end Go.Proofs.Ytgiiedpambimoaa
