/- Contracts of chapter 5: the exported functions on places, limits, curves. No conditions on a program. -/
import Derived.Test.YtgiiedpambimoaaK6
namespace Go.Proofs.Ytgiiedpambimoaa
open Go Go.RowKit Go.Proofs
set_option linter.unusedSimpArgs false
set_option linter.unusedVariables false
theorem k7_az107 : (Try.prog.info? 107).bind (·.zero) = some (.agg #[.string ByteArray.empty, .slice none 0 0, .int .i64 0, .int .i64 0, .int .i64 0]) := by kernel_rfl
theorem k7_fl105_0 : FldIs Try.prog 105 0 0 true 2 := by unfold FldIs; kernel_rfl
theorem k7_fl107_0 : FldIs Try.prog 107 0 0 true 2 := by unfold FldIs; kernel_rfl
theorem k7_fl118_3 : FldIs Try.prog 118 3 3 false 1 := by unfold FldIs; kernel_rfl
theorem k7_fl51_1 : FldIs Try.prog 51 1 1 false 1 := by unfold FldIs; kernel_rfl
theorem k7_fl68_0 : FldIs Try.prog 68 0 0 false 1 := by unfold FldIs; kernel_rfl
theorem k7_fl68_1 : FldIs Try.prog 68 1 1 false 1 := by unfold FldIs; kernel_rfl
theorem k7_hcf55 : ∀ args w, (callFunc 55 args).run Try.prog w = .ok (.enter 55 args) w := fun _ _ => by kernel_rfl
theorem k7_hcf56 : ∀ args w, (callFunc 56 args).run Try.prog w = .ok (.enter 56 args) w := fun _ _ => by kernel_rfl
theorem k7_hcf57 : ∀ args w, (callFunc 57 args).run Try.prog w = .ok (.enter 57 args) w := fun _ _ => by kernel_rfl
theorem k7_hcf58 : ∀ args w, (callFunc 58 args).run Try.prog w = .ok (.enter 58 args) w := fun _ _ => by kernel_rfl
theorem k7_hcf60 : ∀ args w, (callFunc 60 args).run Try.prog w = .ok (.enter 60 args) w := fun _ _ => by kernel_rfl
theorem k7_hcf61 : ∀ args w, (callFunc 61 args).run Try.prog w = .ok (.enter 61 args) w := fun _ _ => by kernel_rfl
theorem k7_hcf64 : ∀ args w, (callFunc 64 args).run Try.prog w = .ok (.enter 64 args) w := fun _ _ => by kernel_rfl
theorem k7_hcf70 : ∀ args w, (callFunc 70 args).run Try.prog w = .ok (.enter 70 args) w := fun _ _ => by kernel_rfl
theorem k7_hcf71 : ∀ args w, (callFunc 71 args).run Try.prog w = .ok (.enter 71 args) w := fun _ _ => by kernel_rfl
theorem k7_sl126 : SlIs Try.prog 126 33 1 8 (.int .i64 0) := ⟨by kernel_rfl, by kernel_rfl, by kernel_rfl⟩
theorem k7_sl49 : SlIs Try.prog 49 118 4 32 (.agg #[.int .i64 0, .int .i64 0, .int .i64 0, .bool false]) := ⟨by kernel_rfl, by kernel_rfl, by kernel_rfl⟩
theorem k7_sz107 : (Try.prog.info? 107).map (·.size) = some 5 := by kernel_rfl
theorem k7_ty105 : TyIs Try.prog 105 true 2 := ⟨by kernel_rfl, by kernel_rfl⟩
theorem k7_ty107 : TyIs Try.prog 107 true 5 := ⟨by kernel_rfl, by kernel_rfl⟩
theorem k7_ty3 : TyIs Try.prog 3 false 1 := ⟨by kernel_rfl, by kernel_rfl⟩
theorem k7_ty4 : TyIs Try.prog 4 false 1 := ⟨by kernel_rfl, by kernel_rfl⟩
theorem k7_ty49 : TyIs Try.prog 49 false 1 := ⟨by kernel_rfl, by kernel_rfl⟩
theorem k7_ty51 : TyIs Try.prog 51 true 2 := ⟨by kernel_rfl, by kernel_rfl⟩
theorem k7_ty53 : TyIs Try.prog 53 true 3 := ⟨by kernel_rfl, by kernel_rfl⟩

theorem firstE_cons {e : Int} {l : List Int} (h : firstE (e :: l) = 0) : e = 0 ∧ firstE l = 0 := by
  simp only [firstE] at h
  by_cases he : e = 0
  · rw [if_pos he] at h; exact ⟨he, h⟩
  · rw [if_neg he] at h; exact absurd h he
theorem unlessE_zero {ok : Bool} {e : Int} (h : unlessE ok e = 0) (he : e ≠ 0) : ok = true := by
  cases ok
  · exact absurd h he
  · rfl
def trackR (ps : List Piece) : Prop := Ok ps ∧ 1 ≤ ps.length ∧ ps.length ≤ 12
theorem chk_right {nm : ByteArray} {ps : List Piece} (h : (chk nm ps).2 = 0) : trackR ps := by
  unfold chk at h
  by_cases h0 : err0 nm ps ≠ 0
  · rw [if_pos h0] at h; exact absurd h h0
  · rw [if_neg h0] at h
    have h0' : err0 nm ps = 0 := by simpa using h0
    obtain ⟨_, h1⟩ := firstE_cons h0'
    obtain ⟨h2, h3⟩ := firstE_cons h1
    obtain ⟨h4, _⟩ := firstE_cons h3
    have h5 := unlessE_zero h2 (by decide)
    have h6 := unlessE_zero h4 (by decide)
    simp only [decide_eq_true_eq] at h5 h6
    refine ⟨fun p hp => ?_, by omega, by omega⟩
    cases hf : ps.findIdx? fun p => !pieceB p with
    | some i => rw [hf] at h; simp at h
    | none =>
      rw [List.findIdx?_eq_none_iff] at hf
      simpa using hf p hp
def sysR (b d v : Int) : Prop := (1 ≤ b ∧ b ≤ 3000) ∧ (0 ≤ d ∧ d ≤ 500) ∧ (0 ≤ v ∧ v ≤ 2000) ∧ d ≤ b
theorem sys_right {b d v : Int} (h : sysE b d v = 0) : sysR b d v := by
  obtain ⟨h1, h2⟩ := firstE_cons h
  obtain ⟨h3, _⟩ := firstE_cons h2
  have h4 := unlessE_zero h1 (by decide)
  have h5 := unlessE_zero h3 (by decide)
  simp only [sysRight, withinB, Bool.and_eq_true, decide_eq_true_eq] at h4 h5
  exact ⟨by omega, by omega, by omega, by omega⟩
theorem ride_right {nm : ByteArray} {ps : List Piece} {b d v : Int} {l : List Int} (h : firstE (firstE [(chk nm ps).2, sysE b d v] :: l) = 0) : trackR ps ∧ sysR b d v ∧ firstE l = 0 := by
  obtain ⟨h1, h2⟩ := firstE_cons h
  obtain ⟨h3, h4⟩ := firstE_cons h1
  exact ⟨chk_right h3, sys_right (firstE_cons h4).1, h2⟩

def stopE (ps : List Piece) (stop : Int) : Int := if withinB stop 0 (ps.length - 1) then unlessE (ps.getD stop.toNat default).leave 15 else 6
def stateE (ps : List Piece) (post sq : Int) : Int := firstE [unlessE (withinB post 0 ps.length) 6, unlessE (withinB sq 0 20000000000) 2]
theorem stop_right {ps : List Piece} {stop : Int} (h : stopE ps stop = 0) : 0 ≤ stop ∧ stop < ps.length ∧ (ps.getD stop.toNat default).leave = true := by
  unfold stopE at h
  split at h
  · rename_i hw
    simp only [withinB, Bool.and_eq_true, decide_eq_true_eq] at hw
    exact ⟨by omega, by omega, unlessE_zero h (by decide)⟩
  · cases h
section
variable (nm : ByteArray) (ps : List Piece) (hp : ps.length ≤ 1000000000) (b d v : Int)
include hp
set_option maxRecDepth 100000 in
set_option maxHeartbeats 1000000 in
theorem stopErr_ok (stop : Int) : FnOk Try.prog 70 [riA nm ps b d v, iA stop] (fun q => q = iA (stopE ps stop)) := by
  refine fnOk_of (fn := Try.f70) 23 (by kernel_rfl) rfl (by kernel_rfl) (Nat.le_of_ble_eq_true rfl) ?_
  intro e_0 m_0 hA hm_0
  have s0_0 : evA e_0 (.tmp 0) = _ := hA 0 _ rfl
  have s1_0 : evA e_0 (.tmp 1) = _ := hA 1 _ rfl
  have ml_0 : m_0.length = 0 := by rw [hm_0]; rfl
  clear hA hm_0
  refine aw_seq ?_
  refine aw_text (by kernel_rfl) ?_
  refine al_stm (st_box s0_0 rfl ml_0) trivial rfl (fun m_1 hm_1 => ?_)
  have mo0_1 := m_push hm_1 ml_0
  (try simp only [packA_t, packA_f, iE, bE, setAt, cellsA, Value.cells, map_vc, map_vn, Nat.reduceAdd, qS, pE] at mo0_1)
  have ml_1 := m_push_l hm_1 ml_0
  have ml_1 : _ = 1 := ml_1
  clear hm_1
  refine al_ro' (ro_assign ev_c) trivial rfl ?_
  refine al_end (fun e_2 he_2 => ?_)
  have s1_2 := ef 1 he_2 (u2 rfl s1_0)
  have s2_2 := ef 2 he_2 (up_m rfl up_h)
  clear he_2 s0_0 s1_0
  refine then_n ?_
  refine aw_seq ?_
  refine aw_seq ?_
  refine aw_text (by kernel_rfl) ?_
  refine al_ro' (ro_move s1_2) trivial rfl ?_
  refine al_ro' (ro_fld_ptr k7_fl107_0 rfl (up_m rfl s2_2)) trivial rfl ?_
  refine al_ro' (ro_fld_ptr k7_fl105_0 rfl up_h) trivial rfl ?_
  refine al_ro' (ro_fld_ptr k7_fl51_1 rfl up_h) trivial rfl ?_
  refine al_ro' (ro_eq (ro_ld_ptr k7_ty49 rfl mo0_1 up_h (by first | exact Nat.le_of_ble_eq_true rfl | omega | (simp only [lnS] <;> omega) | (simp <;> omega))) (by first | (simp only [packA_t, packA_f, iE, bE, setAt, cellsA, Value.cells, map_vc, map_vn, Nat.reduceAdd, qS, pE] <;> rfl) | rfl)) trivial rfl ?_
  refine al_ro' (ro_eq (ro_len_row up_h rfl k7_sl49.1) (by first | (simp only [lnS] <;> rfl) | rfl)) trivial rfl ?_
  first | (refine al_ro' (ro_sub' up_h ev_c ?_) trivial rfl ?_; · (unfold In64; omega)) | refine al_ro' (ro_sub up_h ev_c) trivial rfl ?_
  refine al_ro' (ro_call (evL_cons (u2 rfl (u4 rfl up_h)) (evL_cons ev_c (evL_cons up_h evL_nil))) rfl (within_ok _ _ _) k7_hcf64) trivial rfl ?_
  refine al_ro' (ro_not up_h) trivial rfl ?_
  refine al_end (fun e_3 he_3 => ?_)
  have s1_3 := ef 1 he_3 (up_m rfl (u8 rfl s1_2))
  have s2_3 := ef 2 he_3 (up_m rfl (u8 rfl s2_2))
  have s13_3 := ef 13 he_3 up_h
  clear he_3 s1_2 s2_2
  refine then_n ?_
  refine aw_case s13_3 (fun hq_4 => ?_) (fun hq_4 => ?_)
  · (first | replace hq_4 := bnt hq_4 | replace hq_4 := bnf hq_4 | replace hq_4 := bt hq_4 | replace hq_4 := bf hq_4 | replace hq_4 := bt' hq_4 | replace hq_4 := bf' hq_4 | skip)
    first
    | (cases hq_4; done) | (exfalso; omega)
    | (
       refine aw_seq ?_
       refine aw_text (by kernel_rfl) ?_
       refine al_ro' (ro_assign ev_c) trivial rfl ?_
       refine al_end (fun e_5 he_5 => ?_)
       have s4_5 := ef 4 he_5 up_h
       clear he_5 s13_3 s1_3 s2_3
       refine then_n ?_
       refine aw_ret ?_
       refine then_r ?_
       refine ret1 (.inr rfl) (by kernel_rfl) (resV_tmp s4_5) (.ro _ rfl) ?_
       clear s4_5 mo0_1 ml_1
       (have hw : withinB stop 0 (ps.length - 1) = false := (by assumption); rw [stopE, if_neg (by simp [hw])]))
  · (first | replace hq_4 := bnt hq_4 | replace hq_4 := bnf hq_4 | replace hq_4 := bt hq_4 | replace hq_4 := bf hq_4 | replace hq_4 := bt' hq_4 | replace hq_4 := bf' hq_4 | skip)
    first
    | (cases hq_4; done) | (exfalso; omega)
    | (
       (have hw : withinB stop 0 (ps.length - 1) = true := (by assumption); simp only [withinB, Bool.and_eq_true, decide_eq_true_eq] at hw)
       refine aw_skip ?_
       refine then_n ?_
       refine aw_seq ?_
       refine aw_text (by kernel_rfl) ?_
       refine al_ro' (ro_fld_ptr k7_fl107_0 rfl s2_3) trivial rfl ?_
       refine al_ro' (ro_fld_ptr k7_fl105_0 rfl up_h) trivial rfl ?_
       refine al_ro' (ro_fld_ptr k7_fl51_1 rfl up_h) trivial rfl ?_
       refine al_ro' (ro_eq (ro_ld_ptr k7_ty49 rfl mo0_1 up_h (by first | exact Nat.le_of_ble_eq_true rfl | omega | (simp only [lnS] <;> omega) | (simp <;> omega))) (by first | (simp only [packA_t, packA_f, iE, bE, setAt, cellsA, Value.cells, map_vc, map_vn, Nat.reduceAdd, qS, pE] <;> rfl) | rfl)) trivial rfl ?_
       refine al_ro' (ro_move (u4 rfl s1_3)) trivial rfl ?_
       refine al_ro' (ro_eq (ro_ix k7_sl49 (up_m rfl up_h) up_h (by first | decide | omega | (simp <;> omega)) (by first | (refine idx_map ?_; first | omega | (simp only [lnS]; omega)) | (refine idx_mapI ?_; first | omega | (simp only [lnS]; omega)) | (refine idx_mapN ?_; first | omega | (simp only [lnS]; omega)) | rfl)) (by first | (simp only [packA_t, packA_f, iE, bE, setAt, cellsA, Value.cells, map_vc, map_vn, Nat.reduceAdd, qS, pE] <;> rfl) | rfl)) trivial rfl ?_
       refine al_ro' (ro_eq (ro_fld_ref k7_fl118_3 rfl up_h) (by first | (simp only [packA_t, packA_f, iE, bE, setAt, cellsA, Value.cells, map_vc, map_vn, Nat.reduceAdd, qS, pE] <;> rfl) | rfl)) trivial rfl ?_
       refine al_ro' (ro_eq (ro_ld_ref k7_ty4 rfl up_h (by first | exact Nat.le_of_ble_eq_true rfl | omega | (simp only [lnS] <;> omega) | (simp <;> omega))) (by first | (simp only [packA_t, packA_f, iE, bE, setAt, cellsA, Value.cells, map_vc, map_vn, Nat.reduceAdd, qS, pE] <;> rfl) | rfl)) trivial rfl ?_
       refine al_ro' (ro_call (evL_cons up_h (evL_cons ev_c evL_nil)) rfl (unless_ok _ _) k7_hcf57) trivial rfl ?_
       refine al_ro' (ro_assign up_h) trivial rfl ?_
       refine al_end (fun e_6 he_6 => ?_)
       have s4_6 := ef 4 he_6 up_h
       clear he_6 s13_3 s1_3 s2_3
       refine then_n ?_
       refine aw_ret ?_
       refine ret1 (.inr rfl) (by kernel_rfl) (resV_tmp s4_6) (.ro _ rfl) ?_
       clear s4_6 mo0_1 ml_1
       (rw [stopE, if_pos (by simp [withinB]; omega)]))
set_option maxRecDepth 100000 in
set_option maxHeartbeats 1000000 in
theorem stateErr_ok (post sq : Int) : FnOk Try.prog 78 [riA nm ps b d v, .agg [iA post, iA sq]] (fun q => q = iA (stateE ps post sq)) := by
  have _hp := hp
  refine fnOk_of (fn := Try.f78) 18 (by kernel_rfl) rfl (by kernel_rfl) (Nat.le_of_ble_eq_true rfl) ?_
  intro e_0 m_0 hA hm_0
  have s0_0 : evA e_0 (.tmp 0) = _ := hA 0 _ rfl
  have s1_0 : evA e_0 (.tmp 1) = _ := hA 1 _ rfl
  have ml_0 : m_0.length = 0 := by rw [hm_0]; rfl
  clear hA hm_0
  refine aw_seq ?_
  refine aw_text (by kernel_rfl) ?_
  refine al_stm (st_box s0_0 rfl ml_0) trivial rfl (fun m_1 hm_1 => ?_)
  have mo0_1 := m_push hm_1 ml_0
  (try simp only [packA_t, packA_f, iE, bE, setAt, cellsA, Value.cells, map_vc, map_vn, Nat.reduceAdd, qS] at mo0_1)
  have ml_1 := m_push_l hm_1 ml_0
  have ml_1 : _ = 1 := ml_1
  clear hm_1
  refine al_stm (st_box (up_m rfl s1_0) rfl ml_1) trivial rfl (fun m_2 hm_2 => ?_)
  have mo1_2 := m_push hm_2 ml_1
  (try simp only [packA_t, packA_f, iE, bE, setAt, cellsA, Value.cells, map_vc, map_vn, Nat.reduceAdd, qS] at mo1_2)
  have mo0_2 := m_push_o hm_2 mo0_1
  have ml_2 := m_push_l hm_2 ml_1
  have ml_2 : _ = 2 := ml_2
  clear hm_2 mo0_1
  refine al_ro' (ro_assign ev_c) trivial rfl ?_
  refine al_end (fun e_3 he_3 => ?_)
  have s2_3 := ef 2 he_3 (u2 rfl up_h)
  have s3_3 := ef 3 he_3 (up_m rfl up_h)
  clear he_3 s0_0 s1_0
  refine then_n ?_
  refine aw_seq ?_
  refine aw_draw 14 (by kernel_rfl) (by kernel_rfl) (by kernel_rfl) (by kernel_rfl) ?_
  refine ds_ro' (ro_fld_ptr k7_fl68_0 rfl s3_3) trivial rfl ?_
  refine ds_ro' (ro_eq (ro_ld_ptr k7_ty3 rfl mo1_2 up_h (by first | exact Nat.le_of_ble_eq_true rfl | omega | (simp only [lnS] <;> omega) | (simp <;> omega))) (by first | (simp only [packA_t, packA_f, iE, bE, setAt, cellsA, Value.cells, map_vc, map_vn, Nat.reduceAdd, qS] <;> rfl) | rfl)) trivial rfl ?_
  refine ds_ro' (ro_fld_ptr k7_fl107_0 rfl (u2 rfl s2_3)) trivial rfl ?_
  refine ds_ro' (ro_eq (ro_ld_ptr k7_ty105 rfl mo0_2 up_h (by first | exact Nat.le_of_ble_eq_true rfl | omega | (simp only [lnS] <;> omega) | (simp <;> omega))) (by first | (simp only [packA_t, packA_f, iE, bE, setAt, cellsA, Value.cells, map_vc, map_vn, Nat.reduceAdd, qS] <;> rfl) | rfl)) trivial rfl ?_
  refine ds_ro' (ro_call (evL_cons up_h evL_nil) rfl (last_ok nm ps) k7_hcf61) trivial rfl ?_
  refine ds_ro' (ro_call (evL_cons (up_m rfl (u2 rfl up_h)) (evL_cons ev_c (evL_cons up_h evL_nil))) rfl (within_ok _ _ _) k7_hcf64) trivial rfl ?_
  refine ds_ro' (ro_call (evL_cons up_h (evL_cons ev_c evL_nil)) rfl (unless_ok _ _) k7_hcf57) trivial rfl ?_
  refine ds_ro' (ro_fld_ptr k7_fl68_1 rfl (up_m rfl (u2 rfl (u4 rfl s3_3)))) trivial rfl ?_
  refine ds_ro' (ro_eq (ro_ld_ptr k7_ty3 rfl mo1_2 up_h (by first | exact Nat.le_of_ble_eq_true rfl | omega | (simp only [lnS] <;> omega) | (simp <;> omega))) (by first | (simp only [packA_t, packA_f, iE, bE, setAt, cellsA, Value.cells, map_vc, map_vn, Nat.reduceAdd, qS] <;> rfl) | rfl)) trivial rfl ?_
  refine ds_ro' (ro_call (evL_cons up_h evL_nil) rfl (isSquare_ok _) k7_hcf58) trivial rfl ?_
  refine ds_ro' (ro_call (evL_cons up_h (evL_cons ev_c evL_nil)) rfl (unless_ok _ _) k7_hcf57) trivial rfl ?_
  refine ds_ro' (ro_lit k7_sl126 (evP_cons (u4 rfl up_h) (evP_cons up_h evP_nil)) rfl rfl rfl rfl) trivial rfl ?_
  refine ds_ro' (ro_call (evL_cons up_h evL_nil) rfl (first_ok [_, _] (by simp)) k7_hcf56) trivial rfl ?_
  refine ds_ro' (ro_assign up_h) trivial rfl ?_
  refine ds_nil ?_
  refine al_end (fun e_4 he_4 => ?_)
  have s4_4 := ef 4 he_4 up_h
  clear he_4 s2_3 s3_3
  refine then_n ?_
  refine aw_ret ?_
  refine ret1 (.inr rfl) (by kernel_rfl) (resV_tmp s4_4) (.ro _ rfl) ?_
  clear s4_4 mo1_2 mo0_2 ml_2
  rfl
end
def curE (nm : ByteArray) (ps : List Piece) (b d v stop : Int) : Int := firstE [firstE [(chk nm ps).2, sysE b d v], stopE ps stop]
section
variable (nm : ByteArray) (ps : List Piece) (hok : trackR ps) (b d v : Int) (hb : sysR b d v)
include hok hb
set_option maxRecDepth 100000 in
set_option maxHeartbeats 1000000 in
theorem curve_ok (stop : Int) (h0 : 0 ≤ stop) (h1 : stop < ps.length) : FnOk Try.prog 71 [riA nm ps b d v, iA stop] (fun q => q = .row 1 ((bwL ps b 0 (stop + 1).toNat).map iE)) := by
  obtain ⟨q1, q2, q3⟩ := hok
  obtain ⟨r1, r2, r3, r4⟩ := hb
  refine fnOk_of (fn := Try.f71) 9 (by kernel_rfl) rfl (by kernel_rfl) (Nat.le_of_ble_eq_true rfl) ?_
  intro e_0 m_0 hA hm_0
  have s0_0 : evA e_0 (.tmp 0) = _ := hA 0 _ rfl
  have s1_0 : evA e_0 (.tmp 1) = _ := hA 1 _ rfl
  have ml_0 : m_0.length = 0 := by rw [hm_0]; rfl
  clear hA hm_0
  refine aw_seq ?_
  refine aw_text (by kernel_rfl) ?_
  refine al_stm (st_box s0_0 rfl ml_0) trivial rfl (fun m_1 hm_1 => ?_)
  have mo0_1 := m_push hm_1 ml_0
  (try simp only [packA_t, packA_f, iE, bE, setAt, cellsA, Value.cells, map_vc, map_vn, Nat.reduceAdd, qS] at mo0_1)
  have ml_1 := m_push_l hm_1 ml_0
  have ml_1 : _ = 1 := ml_1
  clear hm_1
  refine al_ro' (ro_assign ev_c) trivial rfl ?_
  refine al_end (fun e_2 he_2 => ?_)
  have s1_2 := ef 1 he_2 (u2 rfl s1_0)
  have s2_2 := ef 2 he_2 (up_m rfl up_h)
  clear he_2 s0_0 s1_0
  refine then_n ?_
  refine aw_seq ?_
  refine aw_text (by kernel_rfl) ?_
  refine al_ro' (ro_eq (ro_ld_ptr k7_ty107 rfl mo0_1 s2_2 (by first | exact Nat.le_of_ble_eq_true rfl | omega | (simp only [lnS] <;> omega) | (simp <;> omega))) (by first | (simp only [packA_t, packA_f, iE, bE, setAt, cellsA, Value.cells, map_vc, map_vn, Nat.reduceAdd, qS] <;> rfl) | rfl)) trivial rfl ?_
  refine al_ro' (ro_move (up_m rfl s1_2)) trivial rfl ?_
  first | (refine al_ro' (ro_add' up_h ev_c ?_) trivial rfl ?_; · (unfold In64; omega)) | refine al_ro' (ro_add up_h ev_c) trivial rfl ?_
  refine al_ro' (ro_call (evL_cons (u2 rfl up_h) (evL_cons ev_c (evL_cons up_h evL_nil))) rfl (backward_ok nm ps q1 (by omega) (by omega) b d v 0 (stop + 1) (by omega) (by omega) (by omega) (by omega)) k7_hcf60) trivial rfl ?_
  refine al_ro' (ro_assign up_h) trivial rfl ?_
  refine al_end (fun e_3 he_3 => ?_)
  have s4_3 := ef 4 he_3 up_h
  clear he_3 s1_2 s2_2
  refine then_n ?_
  refine aw_ret ?_
  refine ret1 (.inr rfl) (by kernel_rfl) (resV_tmp s4_3) (.ro _ rfl) ?_
  clear s4_3 mo0_1 ml_1
  rfl
end
section
variable (nm : ByteArray) (ps : List Piece) (hs : nm.size ≤ 1000000000) (hp : ps.length ≤ 1000000000) (b d v : Int)
include hs hp
set_option maxRecDepth 100000 in
set_option maxHeartbeats 1000000 in
theorem curveOf_ok (stop : Int) : FnOk Try.prog 34 [trA nm ps, syA b d v, iA stop] (fun q => q = .tuple [.row 1 ((if curE nm ps b d v stop = 0 then bwL ps b 0 (stop + 1).toNat else []).map iE), iA (curE nm ps b d v stop)]) := by
  refine fnOk_of (fn := Try.f34) 28 (by kernel_rfl) rfl (by kernel_rfl) (Nat.le_of_ble_eq_true rfl) ?_
  intro e_0 m_0 hA hm_0
  have s0_0 : evA e_0 (.tmp 0) = _ := hA 0 _ rfl
  have s1_0 : evA e_0 (.tmp 1) = _ := hA 1 _ rfl
  have s2_0 : evA e_0 (.tmp 2) = _ := hA 2 _ rfl
  have ml_0 : m_0.length = 0 := by rw [hm_0]; rfl
  clear hA hm_0
  refine aw_seq ?_
  refine aw_text (by kernel_rfl) ?_
  refine al_stm (st_box s0_0 rfl ml_0) trivial rfl (fun m_1 hm_1 => ?_)
  have mo0_1 := m_push hm_1 ml_0
  (try simp only [packA_t, packA_f, iE, bE, setAt, cellsA, Value.cells, map_vc, map_vn, Nat.reduceAdd, qS] at mo0_1)
  have ml_1 := m_push_l hm_1 ml_0
  have ml_1 : _ = 1 := ml_1
  clear hm_1
  refine al_stm (st_box (up_m rfl s1_0) rfl ml_1) trivial rfl (fun m_2 hm_2 => ?_)
  have mo1_2 := m_push hm_2 ml_1
  (try simp only [packA_t, packA_f, iE, bE, setAt, cellsA, Value.cells, map_vc, map_vn, Nat.reduceAdd, qS] at mo1_2)
  have mo0_2 := m_push_o hm_2 mo0_1
  have ml_2 := m_push_l hm_2 ml_1
  have ml_2 : _ = 2 := ml_2
  clear hm_2 mo0_1
  refine al_ro' (ro_assign ev_c) trivial rfl ?_
  refine al_ro' (ro_assign ev_c) trivial rfl ?_
  refine al_end (fun e_3 he_3 => ?_)
  have s2_3 := ef 2 he_3 (u4 rfl s2_0)
  have s3_3 := ef 3 he_3 (up_m rfl (u2 rfl up_h))
  have s4_3 := ef 4 he_3 (u2 rfl up_h)
  clear he_3 s0_0 s1_0 s2_0
  refine then_n ?_
  refine aw_seq ?_
  refine aw_text (by kernel_rfl) ?_
  refine al_ro' (ro_eq (ro_ld_ptr k7_ty51 rfl mo0_2 s3_3 (by first | exact Nat.le_of_ble_eq_true rfl | omega | (simp only [lnS] <;> omega) | (simp <;> omega))) (by first | (simp only [packA_t, packA_f, iE, bE, setAt, cellsA, Value.cells, map_vc, map_vn, Nat.reduceAdd, qS] <;> rfl) | rfl)) trivial rfl ?_
  refine al_ro' (ro_eq (ro_ld_ptr k7_ty53 rfl mo1_2 (up_m rfl s4_3) (by first | exact Nat.le_of_ble_eq_true rfl | omega | (simp only [lnS] <;> omega) | (simp <;> omega))) (by first | (simp only [packA_t, packA_f, iE, bE, setAt, cellsA, Value.cells, map_vc, map_vn, Nat.reduceAdd, qS] <;> rfl) | rfl)) trivial rfl ?_
  refine al_ro' (ro_call (evL_cons (up_m rfl up_h) (evL_cons up_h evL_nil)) rfl (openRide_ok nm ps hs hp b d v) k7_hcf55) trivial rfl ?_
  refine al_ro' (ro_move up_h) trivial rfl ?_
  refine al_ro' (ro_extract up_h rfl) trivial rfl ?_
  refine al_ro' (ro_extract (up_m rfl up_h) rfl) trivial rfl ?_
  refine al_stm (st_alloc k7_az107 rfl ml_2) trivial rfl (fun m_4 hm_4 => ?_)
  have mo2_4 := m_push hm_4 ml_2
  (try simp only [packA_t, packA_f, iE, bE, setAt, cellsA, Value.cells, map_vc, map_vn, Nat.reduceAdd, qS] at mo2_4)
  have mo1_4 := m_push_o hm_4 mo1_2
  have mo0_4 := m_push_o hm_4 mo0_2
  have ml_4 := m_push_l hm_4 ml_2
  have ml_4 : _ = 3 := ml_4
  clear hm_4 mo1_2 mo0_2
  refine al_stm (st_store up_h (u2 rfl up_h) rfl rfl mo2_4 k7_sz107 rfl (by first | exact Nat.le_of_ble_eq_true rfl | omega | (simp only [lnS] <;> omega) | (simp <;> omega))) trivial rfl (fun m_5 hm_5 => ?_)
  have mo2_5 := m_set hm_5 mo2_4
  (try simp only [packA_t, packA_f, iE, bE, setAt, cellsA, Value.cells, map_vc, map_vn, Nat.reduceAdd, qS] at mo2_5)
  have mo1_5 := m_set_o hm_5 mo1_4 (by decide)
  have mo0_5 := m_set_o hm_5 mo0_4 (by decide)
  have ml_5 := m_set_l hm_5 ml_4
  clear hm_5 mo2_4 mo1_4 mo0_4
  refine al_ro' (ro_assign (up_n (up_m rfl up_h))) trivial rfl ?_
  refine al_end (fun e_6 he_6 => ?_)
  have s2_6 := ef 2 he_6 (up_m rfl (up_n (up_m rfl (u2 rfl (u4 rfl s2_3)))))
  have s8_6 := ef 8 he_6 (up_m rfl (up_n up_h))
  have s9_6 := ef 9 he_6 up_h
  clear he_6 s2_3 s3_3 s4_3
  refine then_n ?_
  refine aw_seq ?_
  refine aw_seq ?_
  refine aw_text (by kernel_rfl) ?_
  refine al_ro' (ro_move s9_6) trivial rfl ?_
  refine al_ro' (ro_eq (ro_ld_ptr k7_ty107 rfl mo2_5 (up_m rfl s8_6) (by first | exact Nat.le_of_ble_eq_true rfl | omega | (simp only [lnS] <;> omega) | (simp <;> omega))) (by first | (simp only [packA_t, packA_f, iE, bE, setAt, cellsA, Value.cells, map_vc, map_vn, Nat.reduceAdd, qS] <;> rfl) | rfl)) trivial rfl ?_
  refine al_ro' (ro_move (u2 rfl s2_6)) trivial rfl ?_
  refine al_ro' (ro_call (evL_cons (up_m rfl up_h) (evL_cons up_h evL_nil)) rfl (stopErr_ok nm ps hp b d v stop) k7_hcf70) trivial rfl ?_
  refine al_ro' (ro_lit k7_sl126 (evP_cons (up_m rfl (u2 rfl up_h)) (evP_cons up_h evP_nil)) rfl rfl rfl rfl) trivial rfl ?_
  refine al_ro' (ro_call (evL_cons up_h evL_nil) rfl (first_ok [_, _] (by simp)) k7_hcf56) trivial rfl ?_
  refine al_ro' (ro_assign up_h) trivial rfl ?_
  refine al_end (fun e_7 he_7 => ?_)
  have s2_7 := ef 2 he_7 (up_m rfl (u2 rfl (u4 rfl s2_6)))
  have s8_7 := ef 8 he_7 (up_m rfl (u2 rfl (u4 rfl s8_6)))
  have s9_7 := ef 9 he_7 up_h
  clear he_7 s2_6 s8_6 s9_6
  refine then_n ?_
  refine aw_seq ?_
  refine aw_text (by kernel_rfl) ?_
  refine al_ro' (ro_move s9_7) trivial rfl ?_
  refine al_ro' (ro_neq up_h ev_c) trivial rfl ?_
  refine al_end (fun e_8 he_8 => ?_)
  have s2_8 := ef 2 he_8 (u2 rfl s2_7)
  have s8_8 := ef 8 he_8 (u2 rfl s8_7)
  have s9_8 := ef 9 he_8 (u2 rfl s9_7)
  have s23_8 := ef 23 he_8 up_h
  clear he_8 s2_7 s8_7 s9_7
  refine then_n ?_
  refine aw_case s23_8 (fun hq_9 => ?_) (fun hq_9 => ?_)
  · (first | replace hq_9 := bnt hq_9 | replace hq_9 := bnf hq_9 | replace hq_9 := bt hq_9 | replace hq_9 := bf hq_9 | replace hq_9 := bt' hq_9 | replace hq_9 := bf' hq_9 | skip)
    first
    | (cases hq_9; done) | (exfalso; omega)
    | (
       refine aw_seq ?_
       refine aw_text (by kernel_rfl) ?_
       refine al_ro' (ro_move s9_8) trivial rfl ?_
       refine al_ro' (ro_assign ev_c) trivial rfl ?_
       refine al_ro' (ro_assign (up_m rfl up_h)) trivial rfl ?_
       refine al_end (fun e_10 he_10 => ?_)
       have s6_10 := ef 6 he_10 (up_m rfl up_h)
       have s7_10 := ef 7 he_10 up_h
       clear he_10 s23_8 s2_8 s8_8 s9_8
       refine then_n ?_
       refine aw_ret ?_
       refine then_r ?_
       refine ret2 (.inr rfl) (by kernel_rfl) (resV_tmp s6_10) (resV_tmp s7_10) (.nil 1) (.ro _ rfl) ?_
       clear s6_10 s7_10 mo2_5 mo1_5 mo0_5 ml_5
       (have hq : ¬ curE nm ps b d v stop = 0 := (by assumption); rw [if_neg hq]; rfl))
  · (first | replace hq_9 := bnt hq_9 | replace hq_9 := bnf hq_9 | replace hq_9 := bt hq_9 | replace hq_9 := bf hq_9 | replace hq_9 := bt' hq_9 | replace hq_9 := bf' hq_9 | skip)
    first
    | (cases hq_9; done) | (exfalso; omega)
    | (
       (have hq : curE nm ps b d v stop = 0 := (by assumption); have hR := ride_right hq; have hS := stop_right (firstE_cons hR.2.2).1)
       refine aw_skip ?_
       refine then_n ?_
       refine aw_seq ?_
       refine aw_text (by kernel_rfl) ?_
       refine al_ro' (ro_eq (ro_ld_ptr k7_ty107 rfl mo2_5 s8_8 (by first | exact Nat.le_of_ble_eq_true rfl | omega | (simp only [lnS] <;> omega) | (simp <;> omega))) (by first | (simp only [packA_t, packA_f, iE, bE, setAt, cellsA, Value.cells, map_vc, map_vn, Nat.reduceAdd, qS] <;> rfl) | rfl)) trivial rfl ?_
       refine al_ro' (ro_move (up_m rfl s2_8)) trivial rfl ?_
       refine al_ro' (ro_call (evL_cons (up_m rfl up_h) (evL_cons up_h evL_nil)) rfl (curve_ok nm ps hR.1 b d v hR.2.1 stop hS.1 hS.2.1) k7_hcf71) trivial rfl ?_
       refine al_ro' (ro_assign up_h) trivial rfl ?_
       refine al_ro' (ro_assign ev_c) trivial rfl ?_
       refine al_end (fun e_11 he_11 => ?_)
       have s6_11 := ef 6 he_11 (up_m rfl up_h)
       have s7_11 := ef 7 he_11 up_h
       clear he_11 s23_8 s2_8 s8_8 s9_8
       refine then_n ?_
       refine aw_ret ?_
       refine ret2 (.inr rfl) (by kernel_rfl) (resV_tmp s6_11) (resV_tmp s7_11) (.ro _ rfl) (.ro _ rfl) ?_
       clear s6_11 s7_11 mo2_5 mo1_5 mo0_5 ml_5
       (rw [hq, if_pos rfl]))
end
end Go.Proofs.Ytgiiedpambimoaa
