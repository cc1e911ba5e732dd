/- Contracts of chapter 5: tracks and systems. No conditions on a program. -/
import Derived.Test.YtgiiedpambimoaaK2
namespace Go.Proofs.Ytgiiedpambimoaa
open Go Go.RowKit Go.Proofs
set_option linter.unusedSimpArgs false
set_option linter.unusedVariables false
theorem k3_az118 : (Try.prog.info? 118).bind (·.zero) = some (.agg #[.int .i64 0, .int .i64 0, .int .i64 0, .bool false]) := by kernel_rfl
theorem k3_fl118_0 : FldIs Try.prog 118 0 0 false 1 := by unfold FldIs; kernel_rfl
theorem k3_fl118_1 : FldIs Try.prog 118 1 1 false 1 := by unfold FldIs; kernel_rfl
theorem k3_fl118_2 : FldIs Try.prog 118 2 2 false 1 := by unfold FldIs; kernel_rfl
theorem k3_fl51_0 : FldIs Try.prog 51 0 0 false 1 := by unfold FldIs; kernel_rfl
theorem k3_fl51_1 : FldIs Try.prog 51 1 1 false 1 := by unfold FldIs; kernel_rfl
theorem k3_hcf10 : ∀ args w, (callFunc 10 args).run Try.prog w = .ok (.enter 10 args) w := fun _ _ => by kernel_rfl
theorem k3_hcf56 : ∀ args w, (callFunc 56 args).run Try.prog w = .ok (.enter 56 args) w := fun _ _ => by kernel_rfl
theorem k3_hcf57 : ∀ args w, (callFunc 57 args).run Try.prog w = .ok (.enter 57 args) w := fun _ _ => by kernel_rfl
theorem k3_hcf58 : ∀ args w, (callFunc 58 args).run Try.prog w = .ok (.enter 58 args) w := fun _ _ => by kernel_rfl
theorem k3_hcf64 : ∀ args w, (callFunc 64 args).run Try.prog w = .ok (.enter 64 args) w := fun _ _ => by kernel_rfl
theorem k3_hcf89 : ∀ args w, (callFunc 89 args).run Try.prog w = .ok (.enter 89 args) w := fun _ _ => by kernel_rfl
theorem k3_hcf98 : ∀ args w, (callFunc 98 args).run Try.prog w = .ok (.enter 98 args) w := fun _ _ => by kernel_rfl
theorem k3_sl126 : SlIs Try.prog 126 33 1 8 (.int .i64 0) := ⟨by kernel_rfl, by kernel_rfl, by kernel_rfl⟩
theorem k3_sl49 : SlIs Try.prog 49 118 4 32 (.agg #[.int .i64 0, .int .i64 0, .int .i64 0, .bool false]) := ⟨by kernel_rfl, by kernel_rfl, by kernel_rfl⟩
theorem k3_sz118 : (Try.prog.info? 118).map (·.size) = some 4 := by kernel_rfl
theorem k3_ty118 : TyIs Try.prog 118 true 4 := ⟨by kernel_rfl, by kernel_rfl⟩
theorem k3_ty3 : TyIs Try.prog 3 false 1 := ⟨by kernel_rfl, by kernel_rfl⟩
theorem k3_ty49 : TyIs Try.prog 49 false 1 := ⟨by kernel_rfl, by kernel_rfl⟩
theorem k3_ty9 : TyIs Try.prog 9 false 1 := ⟨by kernel_rfl, by kernel_rfl⟩

structure Piece where
  len : Int
  grad : Int
  lim : Int
  leave : Bool
  deriving Inhabited
def pE (p : Piece) : List AV := [.v (.int .i64 p.len), .v (.int .i64 p.grad), .v (.int .i64 p.lim), .v (.bool p.leave)]
abbrev trA (nm : ByteArray) (ps : List Piece) : AV := .agg [.v (.string nm), .row 4 (ps.map pE)]
abbrev syA (b d v : Int) : AV := .agg [.v (.int .i64 b), .v (.int .i64 d), .v (.int .i64 v)]
abbrev riA (nm : ByteArray) (ps : List Piece) (b d v : Int) : AV := .agg [.v (.string nm), .row 4 (ps.map pE), .v (.int .i64 b), .v (.int .i64 d), .v (.int .i64 v)]
abbrev iA (n : Int) : AV := .v (.int .i64 n)
abbrev bA (b : Bool) : AV := .v (.bool b)
def pieceB (p : Piece) : Bool := withinB p.len 1 10000000 && withinB p.grad (-100) 100 && withinB p.lim 0 20000000000
def err0 (nm : ByteArray) (ps : List Piece) : Int := firstE [unlessE (isNameB nm) 4, unlessE (decide ((0 : Int) < ps.length)) 10, unlessE (decide ((ps.length : Int) ≤ 12)) 8]
/-- The first wrong piece, and the error. -/
def chk (nm : ByteArray) (ps : List Piece) : Int × Int :=
  if err0 nm ps ≠ 0 then (0, err0 nm ps) else match ps.findIdx? fun p => !pieceB p with
    | some i => ((i : Int), 2)
    | none => (0, 0)
theorem chk_err {nm : ByteArray} {ps : List Piece} (h : err0 nm ps ≠ 0) : chk nm ps = (0, err0 nm ps) := by unfold chk; rw [if_pos h]
theorem chk_bad {nm : ByteArray} {ps : List Piece} {i : Nat} (h : err0 nm ps = 0) (hi : i < ps.length) (hok : ∀ j : Nat, j < i → pieceB (ps.getD j default) = true) (hb : pieceB (ps.getD i default) = false) : chk nm ps = ((i : Int), 2) := by
  unfold chk
  rw [if_neg (by simpa using h)]
  have : ps.findIdx? (fun p => !pieceB p) = some i := by
    rw [List.findIdx?_eq_some_iff_getElem]
    refine ⟨hi, ?_, fun j hj => ?_⟩
    · simp only [List.getD_eq_getElem?_getD, List.getElem?_eq_getElem hi, Option.getD_some] at hb; simp [hb]
    · have := hok j hj
      simp only [List.getD_eq_getElem?_getD, List.getElem?_eq_getElem (Nat.lt_trans hj hi), Option.getD_some] at this; simp [this]
  rw [this]
theorem chk_ok {nm : ByteArray} {ps : List Piece} (h : err0 nm ps = 0) (hok : ∀ j : Nat, j < ps.length → pieceB (ps.getD j default) = true) : chk nm ps = (0, 0) := by
  unfold chk
  rw [if_neg (by simpa using h)]
  have : ps.findIdx? (fun p => !pieceB p) = none := by
    rw [List.findIdx?_eq_none_iff]
    intro p hp
    obtain ⟨j, hj, rfl⟩ := List.getElem_of_mem hp
    have := hok j hj
    simp only [List.getD_eq_getElem?_getD, List.getElem?_eq_getElem hj, Option.getD_some] at this; simp [this]
  rw [this]
set_option maxRecDepth 100000 in
set_option maxHeartbeats 4000000 in
theorem checkTrack_ok (nm : ByteArray) (ps : List Piece) (hs : nm.size ≤ 1000000000) (hp : ps.length ≤ 1000000000) : FnOk Try.prog 86 [trA nm ps] (fun q => q = .tuple [iA (chk nm ps).1, iA (chk nm ps).2]) := by
  refine fnOk_of (fn := Try.f86) 52 (by kernel_rfl) rfl (by kernel_rfl) (Nat.le_of_ble_eq_true rfl) ?_
  intro e_0 m_0 hA hm_0
  have s0_0 : evA e_0 (.tmp 0) = _ := hA 0 _ rfl
  have ml_0 : m_0.length = 0 := by rw [hm_0]; rfl
  clear hA hm_0
  refine aw_seq ?_
  refine aw_text (by kernel_rfl) ?_
  refine al_stm (st_box s0_0 rfl ml_0) trivial rfl (fun m_1 hm_1 => ?_)
  have mo0_1 := m_push hm_1 ml_0
  (try simp only [packA_t, packA_f, iE, bE, setAt, cellsA, Value.cells, map_vc, map_vn, Nat.reduceAdd, qS, pE] at mo0_1)
  have ml_1 := m_push_l hm_1 ml_0
  have ml_1 : _ = 1 := ml_1
  clear hm_1
  refine al_ro' (ro_assign ev_c) trivial rfl ?_
  refine al_ro' (ro_assign ev_c) trivial rfl ?_
  refine al_end (fun e_2 he_2 => ?_)
  have s1_2 := ef 1 he_2 (u2 rfl up_h)
  clear he_2 s0_0
  refine then_n ?_
  refine aw_seq ?_
  refine aw_seq ?_
  refine aw_draw 17 (by kernel_rfl) (by kernel_rfl) (by kernel_rfl) (by kernel_rfl) ?_
  refine ds_ro' (ro_fld_ptr k3_fl51_0 rfl s1_2) trivial rfl ?_
  refine ds_ro' (ro_eq (ro_ld_ptr k3_ty9 rfl mo0_1 up_h (by first | exact Nat.le_of_ble_eq_true rfl | omega | (simp only [lnS] <;> omega) | (simp <;> omega))) (by first | (simp only [packA_t, packA_f, iE, bE, setAt, cellsA, Value.cells, map_vc, map_vn, Nat.reduceAdd, qS, pE] <;> rfl) | rfl)) trivial rfl ?_
  refine ds_ro' (ro_call (evL_cons up_h evL_nil) rfl (isName_ok nm hs) k3_hcf98) trivial rfl ?_
  refine ds_ro' (ro_call (evL_cons up_h (evL_cons ev_c evL_nil)) rfl (unless_ok _ _) k3_hcf57) trivial rfl ?_
  refine ds_ro' (ro_fld_ptr k3_fl51_1 rfl (u4 rfl s1_2)) trivial rfl ?_
  refine ds_ro' (ro_eq (ro_ld_ptr k3_ty49 rfl mo0_1 up_h (by first | exact Nat.le_of_ble_eq_true rfl | omega | (simp only [lnS] <;> omega) | (simp <;> omega))) (by first | (simp only [packA_t, packA_f, iE, bE, setAt, cellsA, Value.cells, map_vc, map_vn, Nat.reduceAdd, qS, pE] <;> rfl) | rfl)) trivial rfl ?_
  refine ds_ro' (ro_eq (ro_len_row up_h rfl k3_sl49.1) (by first | (simp only [lnS] <;> rfl) | rfl)) trivial rfl ?_
  refine ds_ro' (ro_gtr up_h ev_c) trivial rfl ?_
  refine ds_ro' (ro_call (evL_cons up_h (evL_cons ev_c evL_nil)) rfl (unless_ok _ _) k3_hcf57) trivial rfl ?_
  refine ds_ro' (ro_fld_ptr k3_fl51_1 rfl (up_m rfl (u8 rfl s1_2))) trivial rfl ?_
  refine ds_ro' (ro_eq (ro_ld_ptr k3_ty49 rfl mo0_1 up_h (by first | exact Nat.le_of_ble_eq_true rfl | omega | (simp only [lnS] <;> omega) | (simp <;> omega))) (by first | (simp only [packA_t, packA_f, iE, bE, setAt, cellsA, Value.cells, map_vc, map_vn, Nat.reduceAdd, qS, pE] <;> rfl) | rfl)) trivial rfl ?_
  refine ds_ro' (ro_eq (ro_len_row up_h rfl k3_sl49.1) (by first | (simp only [lnS] <;> rfl) | rfl)) trivial rfl ?_
  refine ds_ro' (ro_leq up_h ev_c) trivial rfl ?_
  refine ds_ro' (ro_call (evL_cons up_h (evL_cons ev_c evL_nil)) rfl (unless_ok _ _) k3_hcf57) trivial rfl ?_
  refine ds_ro' (ro_lit k3_sl126 (evP_cons (u2 rfl (u8 rfl up_h)) (evP_cons (up_m rfl (u4 rfl up_h)) (evP_cons up_h evP_nil))) rfl rfl rfl rfl) trivial rfl ?_
  refine ds_ro' (ro_call (evL_cons up_h evL_nil) rfl (first_ok [_, _, _] (by simp)) k3_hcf56) trivial rfl ?_
  refine ds_ro' (ro_assign up_h) trivial rfl ?_
  refine ds_nil ?_
  refine al_end (fun e_3 he_3 => ?_)
  have s1_3 := ef 1 he_3 (up_m rfl (u16 rfl s1_2))
  have s4_3 := ef 4 he_3 up_h
  clear he_3 s1_2
  refine then_n ?_
  refine aw_seq ?_
  refine aw_text (by kernel_rfl) ?_
  refine al_ro' (ro_move s4_3) trivial rfl ?_
  refine al_ro' (ro_neq up_h ev_c) trivial rfl ?_
  refine al_end (fun e_4 he_4 => ?_)
  have s1_4 := ef 1 he_4 (u2 rfl s1_3)
  have s4_4 := ef 4 he_4 (u2 rfl s4_3)
  have s24_4 := ef 24 he_4 up_h
  clear he_4 s1_3 s4_3
  refine then_n ?_
  refine aw_case s24_4 (fun hq_5 => ?_) (fun hq_5 => ?_)
  · (first | replace hq_5 := bnt hq_5 | replace hq_5 := bnf hq_5 | replace hq_5 := bt hq_5 | replace hq_5 := bf hq_5 | replace hq_5 := bt' hq_5 | replace hq_5 := bf' hq_5 | skip)
    first
    | (cases hq_5; done) | (exfalso; omega)
    | (
       refine aw_seq ?_
       refine aw_text (by kernel_rfl) ?_
       refine al_ro' (ro_move s4_4) trivial rfl ?_
       refine al_ro' (ro_assign ev_c) trivial rfl ?_
       refine al_ro' (ro_assign (up_m rfl up_h)) trivial rfl ?_
       refine al_end (fun e_6 he_6 => ?_)
       have s2_6 := ef 2 he_6 (up_m rfl up_h)
       have s3_6 := ef 3 he_6 up_h
       clear he_6 s1_4 s24_4 s4_4
       refine then_n ?_
       refine aw_ret ?_
       refine then_r ?_
       refine ret2 (.inr rfl) (by kernel_rfl) (resV_tmp s2_6) (resV_tmp s3_6) (.ro _ rfl) (.ro _ rfl) ?_
       clear s2_6 s3_6 mo0_1 ml_1
       (rw [chk_err (show err0 nm ps ≠ 0 by assumption)]; rfl))
  · (first | replace hq_5 := bnt hq_5 | replace hq_5 := bnf hq_5 | replace hq_5 := bt hq_5 | replace hq_5 := bf hq_5 | replace hq_5 := bt' hq_5 | replace hq_5 := bf' hq_5 | skip)
    first
    | (cases hq_5; done) | (exfalso; omega)
    | (
       refine aw_skip ?_
       refine then_n ?_
       refine aw_seq ?_
       refine aw_seq ?_
       refine aw_text (by kernel_rfl) ?_
       refine al_ro' (ro_fld_ptr k3_fl51_1 rfl s1_4) trivial rfl ?_
       refine al_ro' (ro_eq (ro_ld_ptr k3_ty49 rfl mo0_1 up_h (by first | exact Nat.le_of_ble_eq_true rfl | omega | (simp only [lnS] <;> omega) | (simp <;> omega))) (by first | (simp only [packA_t, packA_f, iE, bE, setAt, cellsA, Value.cells, map_vc, map_vn, Nat.reduceAdd, qS, pE] <;> rfl) | rfl)) trivial rfl ?_
       refine al_ro' (ro_eq (ro_len_row up_h rfl k3_sl49.1) (by first | (simp only [lnS] <;> rfl) | rfl)) trivial rfl ?_
       refine al_ro' (ro_move ev_c) trivial rfl ?_
       refine al_end (fun e_7 he_7 => ?_)
       have s27_7 := ef 27 he_7 (u2 rfl up_h)
       have s28_7 := ef 28 he_7 (up_m rfl up_h)
       have s29_7 := ef 29 he_7 up_h
       clear he_7 s1_4 s24_4 s4_4
       refine then_n ?_
       refine aw_block ?_
       refine aw_loop (S := Int) (fun i e mem => (evA e (.tmp 29) = .v (.int .i64 i)) ∧ (evA e (.tmp 27) = evA e_7 (.tmp 27)) ∧ (evA e (.tmp 28) = evA e_7 (.tmp 28)) ∧ (mem[0]? = m_1[0]?) ∧ (∃ n, mem.length = n ∧ 1 ≤ n) ∧ ((0 ≤ i ∧ i ≤ ps.length ∧ ∀ j : Nat, j < i.toNat → pieceB (ps.getD j default) = true))) (fun i => (ps.length - i).toNat) _ ⟨s29_7, rfl, rfl, rfl, ⟨_, ml_1, Nat.le_refl _⟩, ?_⟩ ?_
       · exact ⟨by omega, by omega, fun j hj => by omega⟩
       · rintro i e_8 m_8 ⟨s29_8, k27_8, k28_8, mk0_8, ⟨n_8, ml_8, hn_8⟩, hinv⟩
         have s27_8 := k27_8.trans s27_7
         have s28_8 := k28_8.trans s28_7
         have mo0_8 := mk0_8.trans mo0_1
         refine aw_seq ?_
         refine aw_text (by kernel_rfl) ?_
         refine al_ro' (ro_lss s29_8 s28_8) trivial rfl ?_
         refine al_end (fun e_9 he_9 => ?_)
         have s27_9 := ef 27 he_9 (up_m rfl s27_8)
         have s28_9 := ef 28 he_9 (up_m rfl s28_8)
         have s29_9 := ef 29 he_9 (up_m rfl s29_8)
         have s30_9 := ef 30 he_9 up_h
         clear he_9 s27_8 s28_8 s29_8
         refine then_n ?_
         refine aw_seq ?_
         refine aw_case s30_9 (fun hq_10 => ?_) (fun hq_10 => ?_)
         · (first | replace hq_10 := bnt hq_10 | replace hq_10 := bnf hq_10 | replace hq_10 := bt hq_10 | replace hq_10 := bf hq_10 | replace hq_10 := bt' hq_10 | replace hq_10 := bf' hq_10 | skip)
           first
           | (cases hq_10; done) | (exfalso; omega)
           | (
              refine aw_skip ?_
              refine then_n ?_
              refine aw_seq ?_
              refine aw_block ?_
              refine aw_seq ?_
              refine aw_text (by kernel_rfl) ?_
              refine al_ro' (ro_move s29_9) trivial rfl ?_
              refine al_ro' (ro_eq (ro_ix k3_sl49 (up_m rfl s27_9) (up_m rfl s29_9) (by first | decide | omega | (simp <;> omega)) (by first | (refine idx_map ?_; first | omega | (simp only [lnS]; omega)) | (refine idx_mapI ?_; first | omega | (simp only [lnS]; omega)) | (refine idx_mapN ?_; first | omega | (simp only [lnS]; omega)) | rfl)) (by first | (simp only [packA_t, packA_f, iE, bE, setAt, cellsA, Value.cells, map_vc, map_vn, Nat.reduceAdd, qS, pE] <;> rfl) | rfl)) trivial rfl ?_
              refine al_ro' (ro_eq (ro_ld_ref k3_ty118 rfl up_h (by first | exact Nat.le_of_ble_eq_true rfl | omega | (simp only [lnS] <;> omega) | (simp <;> omega))) (by first | (simp only [packA_t, packA_f, iE, bE, setAt, cellsA, Value.cells, map_vc, map_vn, Nat.reduceAdd, qS, pE] <;> rfl) | rfl)) trivial rfl ?_
              refine al_stm (st_alloc k3_az118 rfl ml_8) trivial rfl (fun m_11 hm_11 => ?_)
              have mon_8_11 := m_push hm_11 ml_8
              (try simp only [packA_t, packA_f, iE, bE, setAt, cellsA, Value.cells, map_vc, map_vn, Nat.reduceAdd, qS, pE] at mon_8_11)
              have mo0_11 := m_push_o hm_11 mo0_8
              have ml_11 := m_push_l hm_11 ml_8
              clear hm_11 mo0_8
              refine al_ro' (ro_assign (up_m rfl (u2 rfl up_h))) trivial rfl ?_
              refine al_stm (st_store (up_m rfl up_h) (u2 rfl up_h) rfl rfl mon_8_11 k3_sz118 rfl (by first | exact Nat.le_of_ble_eq_true rfl | omega | (simp only [lnS] <;> omega) | (simp <;> omega))) trivial rfl (fun m_12 hm_12 => ?_)
              have mon_8_12 := m_set hm_12 mon_8_11
              (try simp only [packA_t, packA_f, iE, bE, setAt, cellsA, Value.cells, map_vc, map_vn, Nat.reduceAdd, qS, pE] at mon_8_12)
              have mo0_12 := m_set_o hm_12 mo0_11 (by omega)
              have ml_12 := m_set_l hm_12 ml_11
              clear hm_12 mon_8_11 mo0_11
              refine al_end (fun e_13 he_13 => ?_)
              have s5_13 := ef 5 he_13 (up_n up_h)
              have s6_13 := ef 6 he_13 (up_n (up_m rfl up_h))
              have s27_13 := ef 27 he_13 (up_n (up_m rfl (u4 rfl s27_9)))
              have s28_13 := ef 28 he_13 (up_n (up_m rfl (u4 rfl s28_9)))
              have s29_13 := ef 29 he_13 (up_n (up_m rfl (u4 rfl s29_9)))
              clear he_13 s27_9 s28_9 s29_9 s30_9
              refine then_n ?_
              refine aw_seq ?_
              refine aw_cut (fun e mem => (evA e (.tmp 49) = .v (.bool (!pieceB (ps.getD i.toNat default)))) ∧ (evA e (.tmp 5) = evA e_13 (.tmp 5)) ∧ (evA e (.tmp 27) = evA e_13 (.tmp 27)) ∧ (evA e (.tmp 28) = evA e_13 (.tmp 28)) ∧ (evA e (.tmp 29) = evA e_13 (.tmp 29)) ∧ m_12 = mem) ?_ ?_
              ·
                refine aw_text (by kernel_rfl) ?_
                refine al_ro' (ro_fld_ptr k3_fl118_0 rfl s6_13) trivial rfl ?_
                refine al_ro' (ro_eq (ro_ld_ptr k3_ty3 rfl mon_8_12 up_h (by first | exact Nat.le_of_ble_eq_true rfl | omega | (simp only [lnS] <;> omega) | (simp <;> omega))) (by first | (simp only [packA_t, packA_f, iE, bE, setAt, cellsA, Value.cells, map_vc, map_vn, Nat.reduceAdd, qS, pE] <;> rfl) | rfl)) trivial rfl ?_
                refine al_ro' (ro_call (evL_cons up_h (evL_cons ev_c (evL_cons ev_c evL_nil))) rfl (within_ok _ _ _) k3_hcf64) trivial rfl ?_
                refine al_ro' (ro_not up_h) trivial rfl ?_
                refine al_ro' (ro_move up_h) trivial rfl ?_
                refine al_case up_h (fun hb_15 hq_15 => ?_) (fun hb_15 hq_15 => ?_)
                · (first | replace hq_15 := bnt hq_15 | replace hq_15 := bnf hq_15 | replace hq_15 := bt hq_15 | replace hq_15 := bf hq_15 | replace hq_15 := bt' hq_15 | replace hq_15 := bf' hq_15 | skip)
                  first
                  | (cases hq_15; done) | (exfalso; omega)
                  | (
                     refine al_skip' ⟨_, rfl, .inl hb_15⟩ rfl ?_
                     refine al_skip' ⟨_, rfl, .inl (up_m rfl hb_15)⟩ rfl ?_
                     refine al_skip' ⟨_, rfl, .inl (u2 rfl hb_15)⟩ rfl ?_
                     refine al_skip' ⟨_, rfl, .inl (up_m rfl (u2 rfl hb_15))⟩ rfl ?_
                     refine al_ro' (ro_pickT (u4 rfl hb_15) ev_c) trivial rfl ?_
                     refine al_ro' (ro_move up_h) trivial rfl ?_
                     refine al_skip' ⟨_, rfl, .inl up_h⟩ rfl ?_
                     refine al_skip' ⟨_, rfl, .inl (up_m rfl up_h)⟩ rfl ?_
                     refine al_skip' ⟨_, rfl, .inl (u2 rfl up_h)⟩ rfl ?_
                     refine al_skip' ⟨_, rfl, .inl (up_m rfl (u2 rfl up_h))⟩ rfl ?_
                     refine al_ro' (ro_pickT (u4 rfl up_h) ev_c) trivial rfl ?_
                     refine al_end (fun e_16 he_16 => ?_)
                     have s5_16 := ef 5 he_16 (u16 rfl s5_13)
                     have s27_16 := ef 27 he_16 (u16 rfl s27_13)
                     have s28_16 := ef 28 he_16 (u16 rfl s28_13)
                     have s29_16 := ef 29 he_16 (u16 rfl s29_13)
                     have s49_16 := ef 49 he_16 up_h
                     clear he_16
                     refine then_n ⟨(s49_16).trans (by (refine avb ?_; simp_all [pieceB])), (s5_16).trans (s5_13).symm, (s27_16).trans (s27_13).symm, (s28_16).trans (s28_13).symm, (s29_16).trans (s29_13).symm, rfl⟩)
                · (first | replace hq_15 := bnt hq_15 | replace hq_15 := bnf hq_15 | replace hq_15 := bt hq_15 | replace hq_15 := bf hq_15 | replace hq_15 := bt' hq_15 | replace hq_15 := bf' hq_15 | skip)
                  first
                  | (cases hq_15; done) | (exfalso; omega)
                  | (
                     refine al_ro' (ro_fld_ptr k3_fl118_1 rfl (up_m rfl (u4 rfl s6_13))) ⟨_, rfl, hb_15⟩ rfl ?_
                     refine al_ro' (ro_eq (ro_ld_ptr k3_ty3 rfl mon_8_12 up_h (by first | exact Nat.le_of_ble_eq_true rfl | omega | (simp only [lnS] <;> omega) | (simp <;> omega))) (by first | (simp only [packA_t, packA_f, iE, bE, setAt, cellsA, Value.cells, map_vc, map_vn, Nat.reduceAdd, qS, pE] <;> rfl) | rfl)) ⟨_, rfl, (up_m rfl hb_15)⟩ rfl ?_
                     refine al_ro' (ro_call (evL_cons up_h (evL_cons ev_c (evL_cons ev_c evL_nil))) rfl (within_ok _ _ _) k3_hcf64) ⟨_, rfl, (u2 rfl hb_15)⟩ rfl ?_
                     refine al_ro' (ro_not up_h) ⟨_, rfl, (up_m rfl (u2 rfl hb_15))⟩ rfl ?_
                     refine al_ro' (ro_pickF (u4 rfl hb_15) up_h) trivial rfl ?_
                     refine al_ro' (ro_move up_h) trivial rfl ?_
                     refine al_case up_h (fun hb_17 hq_17 => ?_) (fun hb_17 hq_17 => ?_)
                     · (first | replace hq_17 := bnt hq_17 | replace hq_17 := bnf hq_17 | replace hq_17 := bt hq_17 | replace hq_17 := bf hq_17 | replace hq_17 := bt' hq_17 | replace hq_17 := bf' hq_17 | skip)
                       first
                       | (cases hq_17; done) | (exfalso; omega)
                       | (
                          refine al_skip' ⟨_, rfl, .inl hb_17⟩ rfl ?_
                          refine al_skip' ⟨_, rfl, .inl (up_m rfl hb_17)⟩ rfl ?_
                          refine al_skip' ⟨_, rfl, .inl (u2 rfl hb_17)⟩ rfl ?_
                          refine al_skip' ⟨_, rfl, .inl (up_m rfl (u2 rfl hb_17))⟩ rfl ?_
                          refine al_ro' (ro_pickT (u4 rfl hb_17) ev_c) trivial rfl ?_
                          refine al_end (fun e_18 he_18 => ?_)
                          have s5_18 := ef 5 he_18 (u16 rfl s5_13)
                          have s27_18 := ef 27 he_18 (u16 rfl s27_13)
                          have s28_18 := ef 28 he_18 (u16 rfl s28_13)
                          have s29_18 := ef 29 he_18 (u16 rfl s29_13)
                          have s49_18 := ef 49 he_18 up_h
                          clear he_18
                          refine then_n ⟨(s49_18).trans (by (refine avb ?_; simp_all [pieceB])), (s5_18).trans (s5_13).symm, (s27_18).trans (s27_13).symm, (s28_18).trans (s28_13).symm, (s29_18).trans (s29_13).symm, rfl⟩)
                     · (first | replace hq_17 := bnt hq_17 | replace hq_17 := bnf hq_17 | replace hq_17 := bt hq_17 | replace hq_17 := bf hq_17 | replace hq_17 := bt' hq_17 | replace hq_17 := bf' hq_17 | skip)
                       first
                       | (cases hq_17; done) | (exfalso; omega)
                       | (
                          refine al_ro' (ro_fld_ptr k3_fl118_2 rfl (up_m rfl (u2 rfl (u8 rfl s6_13)))) ⟨_, rfl, hb_17⟩ rfl ?_
                          refine al_ro' (ro_eq (ro_ld_ptr k3_ty3 rfl mon_8_12 up_h (by first | exact Nat.le_of_ble_eq_true rfl | omega | (simp only [lnS] <;> omega) | (simp <;> omega))) (by first | (simp only [packA_t, packA_f, iE, bE, setAt, cellsA, Value.cells, map_vc, map_vn, Nat.reduceAdd, qS, pE] <;> rfl) | rfl)) ⟨_, rfl, (up_m rfl hb_17)⟩ rfl ?_
                          refine al_ro' (ro_call (evL_cons up_h evL_nil) rfl (isSquare_ok _) k3_hcf58) ⟨_, rfl, (u2 rfl hb_17)⟩ rfl ?_
                          refine al_ro' (ro_not up_h) ⟨_, rfl, (up_m rfl (u2 rfl hb_17))⟩ rfl ?_
                          refine al_ro' (ro_pickF (u4 rfl hb_17) up_h) trivial rfl ?_
                          refine al_end (fun e_19 he_19 => ?_)
                          have s5_19 := ef 5 he_19 (u16 rfl s5_13)
                          have s27_19 := ef 27 he_19 (u16 rfl s27_13)
                          have s28_19 := ef 28 he_19 (u16 rfl s28_13)
                          have s29_19 := ef 29 he_19 (u16 rfl s29_13)
                          have s49_19 := ef 49 he_19 up_h
                          clear he_19
                          refine then_n ⟨(s49_19).trans (by (refine avb ?_; simp_all [pieceB])), (s5_19).trans (s5_13).symm, (s27_19).trans (s27_13).symm, (s28_19).trans (s28_13).symm, (s29_19).trans (s29_13).symm, rfl⟩))
              · rintro e_14 _ ⟨s49_14, k5_14, k27_14, k28_14, k29_14, rfl⟩
                have s5_14 := k5_14.trans s5_13
                have s27_14 := k27_14.trans s27_13
                have s28_14 := k28_14.trans s28_13
                have s29_14 := k29_14.trans s29_13
                refine aw_case s49_14 (fun hq_20 => ?_) (fun hq_20 => ?_)
                · (first | replace hq_20 := bnt hq_20 | replace hq_20 := bnf hq_20 | replace hq_20 := bt hq_20 | replace hq_20 := bf hq_20 | replace hq_20 := bt' hq_20 | replace hq_20 := bf' hq_20 | skip)
                  first
                  | (cases hq_20; done) | (exfalso; omega)
                  | (
                     refine aw_seq ?_
                     refine aw_text (by kernel_rfl) ?_
                     refine al_ro' (ro_move s5_14) trivial rfl ?_
                     refine al_ro' (ro_assign up_h) trivial rfl ?_
                     refine al_ro' (ro_assign ev_c) trivial rfl ?_
                     refine al_end (fun e_21 he_21 => ?_)
                     have s2_21 := ef 2 he_21 (up_m rfl up_h)
                     have s3_21 := ef 3 he_21 up_h
                     clear he_21 s27_14 s28_14 s29_14 s49_14 s5_14
                     refine then_n ?_
                     refine aw_ret ?_
                     refine block_r ?_
                     refine then_r ?_
                     refine then_r ?_
                     refine block_r ?_
                     refine then_r ?_
                     refine ret2 (.inr rfl) (by kernel_rfl) (resV_tmp s2_21) (resV_tmp s3_21) (.ro _ rfl) (.ro _ rfl) ?_
                     clear s2_21 s3_21 mon_8_12 mo0_12 ml_12
                     (obtain ⟨h1, h2, h3⟩ := hinv; rw [chk_bad (i := i.toNat) (show err0 nm ps = 0 by assumption) (by omega) h3 (by assumption), Int.toNat_of_nonneg h1]))
                · (first | replace hq_20 := bnt hq_20 | replace hq_20 := bnf hq_20 | replace hq_20 := bt hq_20 | replace hq_20 := bf hq_20 | replace hq_20 := bt' hq_20 | replace hq_20 := bf' hq_20 | skip)
                  first
                  | (cases hq_20; done) | (exfalso; omega)
                  | (
                     refine aw_skip ?_
                     refine block_n ?_
                     refine then_n ?_
                     refine aw_text (by kernel_rfl) ?_
                     first | (refine al_ro' (ro_add' s29_14 ev_c ?_) trivial rfl ?_; · (unfold In64; omega)) | refine al_ro' (ro_add s29_14 ev_c) trivial rfl ?_
                     refine al_ro' (ro_move up_h) trivial rfl ?_
                     refine al_end (fun e_22 he_22 => ?_)
                     have s27_22 := ef 27 he_22 (u2 rfl s27_14)
                     have s28_22 := ef 28 he_22 (u2 rfl s28_14)
                     have s29_22 := ef 29 he_22 up_h
                     clear he_22 s27_14 s28_14 s29_14 s49_14 s5_14
                     refine then_n ?_
                     refine ⟨_, ⟨s29_22, (s27_22.trans s27_7.symm), (s28_22.trans s28_7.symm), (mo0_12.trans mo0_1.symm), ⟨_, ml_12, by omega⟩, ?_⟩, ?_⟩
                     · (obtain ⟨h1, h2, h3⟩ := hinv; refine ⟨by omega, by omega, fun j hj => ?_⟩; by_cases hj' : j < i.toNat; exact h3 j hj'; have hji : j = i.toNat := (by omega); rw [hji]; assumption)
                     · ((try dsimp only); omega)))
         · (first | replace hq_10 := bnt hq_10 | replace hq_10 := bnf hq_10 | replace hq_10 := bt hq_10 | replace hq_10 := bf hq_10 | replace hq_10 := bt' hq_10 | replace hq_10 := bf' hq_10 | skip)
           first
           | (cases hq_10; done) | (exfalso; omega)
           | (
              refine aw_exit ?_
              refine then_x ?_
              refine then_x ?_
              refine block_hit ?_
              refine then_n ?_
              refine aw_seq ?_
              refine aw_text (by kernel_rfl) ?_
              refine al_ro' (ro_assign ev_c) trivial rfl ?_
              refine al_ro' (ro_assign ev_c) trivial rfl ?_
              refine al_end (fun e_23 he_23 => ?_)
              have s2_23 := ef 2 he_23 (up_m rfl up_h)
              have s3_23 := ef 3 he_23 up_h
              clear he_23 s27_9 s28_9 s29_9 s30_9
              refine then_n ?_
              refine aw_ret ?_
              refine ret2 (.inr rfl) (by kernel_rfl) (resV_tmp s2_23) (resV_tmp s3_23) (.ro _ rfl) (.ro _ rfl) ?_
              clear s2_23 s3_23 mo0_8 ml_8
              (obtain ⟨h1, h2, h3⟩ := hinv; rw [chk_ok (show err0 nm ps = 0 by assumption) (fun j hj => h3 j (by omega))])))
set_option maxRecDepth 100000 in
set_option maxHeartbeats 4000000 in
theorem rCheckTrack_ok (nm : ByteArray) (ps : List Piece) (hs : nm.size ≤ 1000000000) (hp : ps.length ≤ 1000000000) : FnOk Try.prog 69 [trA nm ps] (fun q => q = .tuple [iA (chk nm ps).1, iA (chk nm ps).2]) := by
  refine fnOk_of (fn := Try.f69) 47 (by kernel_rfl) rfl (by kernel_rfl) (Nat.le_of_ble_eq_true rfl) ?_
  intro e_0 m_0 hA hm_0
  have s0_0 : evA e_0 (.tmp 0) = _ := hA 0 _ rfl
  have ml_0 : m_0.length = 0 := by rw [hm_0]; rfl
  clear hA hm_0
  refine aw_seq ?_
  refine aw_text (by kernel_rfl) ?_
  refine al_stm (st_box s0_0 rfl ml_0) trivial rfl (fun m_1 hm_1 => ?_)
  have mo0_1 := m_push hm_1 ml_0
  (try simp only [packA_t, packA_f, iE, bE, setAt, cellsA, Value.cells, map_vc, map_vn, Nat.reduceAdd, qS, pE] at mo0_1)
  have ml_1 := m_push_l hm_1 ml_0
  have ml_1 : _ = 1 := ml_1
  clear hm_1
  refine al_ro' (ro_assign ev_c) trivial rfl ?_
  refine al_ro' (ro_assign ev_c) trivial rfl ?_
  refine al_end (fun e_2 he_2 => ?_)
  have s1_2 := ef 1 he_2 (u2 rfl up_h)
  clear he_2 s0_0
  refine then_n ?_
  refine aw_seq ?_
  refine aw_seq ?_
  refine aw_text (by kernel_rfl) ?_
  refine al_ro' (ro_fld_ptr k3_fl51_0 rfl s1_2) trivial rfl ?_
  refine al_ro' (ro_eq (ro_ld_ptr k3_ty9 rfl mo0_1 up_h (by first | exact Nat.le_of_ble_eq_true rfl | omega | (simp only [lnS] <;> omega) | (simp <;> omega))) (by first | (simp only [packA_t, packA_f, iE, bE, setAt, cellsA, Value.cells, map_vc, map_vn, Nat.reduceAdd, qS, pE] <;> rfl) | rfl)) trivial rfl ?_
  refine al_ro' (ro_call (evL_cons up_h evL_nil) rfl (bIsName_ok nm hs) k3_hcf89) trivial rfl ?_
  refine al_ro' (ro_not up_h) trivial rfl ?_
  refine al_end (fun e_3 he_3 => ?_)
  have s1_3 := ef 1 he_3 (u4 rfl s1_2)
  have s9_3 := ef 9 he_3 up_h
  clear he_3 s1_2
  refine then_n ?_
  refine aw_case s9_3 (fun hq_4 => ?_) (fun hq_4 => ?_)
  · (first | replace hq_4 := bnt hq_4 | replace hq_4 := bnf hq_4 | replace hq_4 := bt hq_4 | replace hq_4 := bf hq_4 | replace hq_4 := bt' hq_4 | replace hq_4 := bf' hq_4 | skip)
    first
    | (cases hq_4; done) | (exfalso; omega)
    | (
       refine aw_seq ?_
       refine aw_text (by kernel_rfl) ?_
       refine al_ro' (ro_assign ev_c) trivial rfl ?_
       refine al_ro' (ro_assign ev_c) trivial rfl ?_
       refine al_end (fun e_5 he_5 => ?_)
       have s2_5 := ef 2 he_5 (up_m rfl up_h)
       have s3_5 := ef 3 he_5 up_h
       clear he_5 s1_3 s9_3
       refine then_n ?_
       refine aw_ret ?_
       refine then_r ?_
       refine ret2 (.inr rfl) (by kernel_rfl) (resV_tmp s2_5) (resV_tmp s3_5) (.ro _ rfl) (.ro _ rfl) ?_
       clear s2_5 s3_5 mo0_1 ml_1
       first | (rw [chk_err] <;> simp_all [err0, unlessE, firstE] <;> omega) | (obtain ⟨h1, h2, h3⟩ := hinv; have he : err0 nm ps = 0 := (by simp_all [err0, unlessE, firstE] <;> omega); first | (rw [chk_bad (i := i.toNat) he (by omega) h3 (by assumption), Int.toNat_of_nonneg h1]) | (rw [chk_ok he (fun j hj => h3 j (by omega))])))
  · (first | replace hq_4 := bnt hq_4 | replace hq_4 := bnf hq_4 | replace hq_4 := bt hq_4 | replace hq_4 := bf hq_4 | replace hq_4 := bt' hq_4 | replace hq_4 := bf' hq_4 | skip)
    first
    | (cases hq_4; done) | (exfalso; omega)
    | (
       refine aw_skip ?_
       refine then_n ?_
       refine aw_seq ?_
       refine aw_seq ?_
       refine aw_text (by kernel_rfl) ?_
       refine al_ro' (ro_fld_ptr k3_fl51_1 rfl s1_3) trivial rfl ?_
       refine al_ro' (ro_eq (ro_ld_ptr k3_ty49 rfl mo0_1 up_h (by first | exact Nat.le_of_ble_eq_true rfl | omega | (simp only [lnS] <;> omega) | (simp <;> omega))) (by first | (simp only [packA_t, packA_f, iE, bE, setAt, cellsA, Value.cells, map_vc, map_vn, Nat.reduceAdd, qS, pE] <;> rfl) | rfl)) trivial rfl ?_
       refine al_ro' (ro_eq (ro_len_row up_h rfl k3_sl49.1) (by first | (simp only [lnS] <;> rfl) | rfl)) trivial rfl ?_
       refine al_ro' (ro_eql up_h ev_c) trivial rfl ?_
       refine al_end (fun e_6 he_6 => ?_)
       have s1_6 := ef 1 he_6 (u4 rfl s1_3)
       have s13_6 := ef 13 he_6 up_h
       clear he_6 s1_3 s9_3
       refine then_n ?_
       refine aw_case s13_6 (fun hq_7 => ?_) (fun hq_7 => ?_)
       · (first | replace hq_7 := bnt hq_7 | replace hq_7 := bnf hq_7 | replace hq_7 := bt hq_7 | replace hq_7 := bf hq_7 | replace hq_7 := bt' hq_7 | replace hq_7 := bf' hq_7 | skip)
         first
         | (cases hq_7; done) | (exfalso; omega)
         | (
            refine aw_seq ?_
            refine aw_text (by kernel_rfl) ?_
            refine al_ro' (ro_assign ev_c) trivial rfl ?_
            refine al_ro' (ro_assign ev_c) trivial rfl ?_
            refine al_end (fun e_8 he_8 => ?_)
            have s2_8 := ef 2 he_8 (up_m rfl up_h)
            have s3_8 := ef 3 he_8 up_h
            clear he_8 s13_6 s1_6
            refine then_n ?_
            refine aw_ret ?_
            refine then_r ?_
            refine ret2 (.inr rfl) (by kernel_rfl) (resV_tmp s2_8) (resV_tmp s3_8) (.ro _ rfl) (.ro _ rfl) ?_
            clear s2_8 s3_8 mo0_1 ml_1
            first | (rw [chk_err] <;> simp_all [err0, unlessE, firstE] <;> omega) | (obtain ⟨h1, h2, h3⟩ := hinv; have he : err0 nm ps = 0 := (by simp_all [err0, unlessE, firstE] <;> omega); first | (rw [chk_bad (i := i.toNat) he (by omega) h3 (by assumption), Int.toNat_of_nonneg h1]) | (rw [chk_ok he (fun j hj => h3 j (by omega))])))
       · (first | replace hq_7 := bnt hq_7 | replace hq_7 := bnf hq_7 | replace hq_7 := bt hq_7 | replace hq_7 := bf hq_7 | replace hq_7 := bt' hq_7 | replace hq_7 := bf' hq_7 | skip)
         first
         | (cases hq_7; done) | (exfalso; omega)
         | (
            refine aw_skip ?_
            refine then_n ?_
            refine aw_seq ?_
            refine aw_seq ?_
            refine aw_text (by kernel_rfl) ?_
            refine al_ro' (ro_fld_ptr k3_fl51_1 rfl s1_6) trivial rfl ?_
            refine al_ro' (ro_eq (ro_ld_ptr k3_ty49 rfl mo0_1 up_h (by first | exact Nat.le_of_ble_eq_true rfl | omega | (simp only [lnS] <;> omega) | (simp <;> omega))) (by first | (simp only [packA_t, packA_f, iE, bE, setAt, cellsA, Value.cells, map_vc, map_vn, Nat.reduceAdd, qS, pE] <;> rfl) | rfl)) trivial rfl ?_
            refine al_ro' (ro_eq (ro_len_row up_h rfl k3_sl49.1) (by first | (simp only [lnS] <;> rfl) | rfl)) trivial rfl ?_
            refine al_ro' (ro_gtr up_h ev_c) trivial rfl ?_
            refine al_end (fun e_9 he_9 => ?_)
            have s1_9 := ef 1 he_9 (u4 rfl s1_6)
            have s17_9 := ef 17 he_9 up_h
            clear he_9 s13_6 s1_6
            refine then_n ?_
            refine aw_case s17_9 (fun hq_10 => ?_) (fun hq_10 => ?_)
            · (first | replace hq_10 := bnt hq_10 | replace hq_10 := bnf hq_10 | replace hq_10 := bt hq_10 | replace hq_10 := bf hq_10 | replace hq_10 := bt' hq_10 | replace hq_10 := bf' hq_10 | skip)
              first
              | (cases hq_10; done) | (exfalso; omega)
              | (
                 refine aw_seq ?_
                 refine aw_text (by kernel_rfl) ?_
                 refine al_ro' (ro_assign ev_c) trivial rfl ?_
                 refine al_ro' (ro_assign ev_c) trivial rfl ?_
                 refine al_end (fun e_11 he_11 => ?_)
                 have s2_11 := ef 2 he_11 (up_m rfl up_h)
                 have s3_11 := ef 3 he_11 up_h
                 clear he_11 s17_9 s1_9
                 refine then_n ?_
                 refine aw_ret ?_
                 refine then_r ?_
                 refine ret2 (.inr rfl) (by kernel_rfl) (resV_tmp s2_11) (resV_tmp s3_11) (.ro _ rfl) (.ro _ rfl) ?_
                 clear s2_11 s3_11 mo0_1 ml_1
                 first | (rw [chk_err] <;> simp_all [err0, unlessE, firstE] <;> omega) | (obtain ⟨h1, h2, h3⟩ := hinv; have he : err0 nm ps = 0 := (by simp_all [err0, unlessE, firstE] <;> omega); first | (rw [chk_bad (i := i.toNat) he (by omega) h3 (by assumption), Int.toNat_of_nonneg h1]) | (rw [chk_ok he (fun j hj => h3 j (by omega))])))
            · (first | replace hq_10 := bnt hq_10 | replace hq_10 := bnf hq_10 | replace hq_10 := bt hq_10 | replace hq_10 := bf hq_10 | replace hq_10 := bt' hq_10 | replace hq_10 := bf' hq_10 | skip)
              first
              | (cases hq_10; done) | (exfalso; omega)
              | (
                 refine aw_skip ?_
                 refine then_n ?_
                 refine aw_seq ?_
                 refine aw_seq ?_
                 refine aw_text (by kernel_rfl) ?_
                 refine al_ro' (ro_assign ev_c) trivial rfl ?_
                 refine al_end (fun e_12 he_12 => ?_)
                 have s1_12 := ef 1 he_12 (up_m rfl s1_9)
                 have s4_12 := ef 4 he_12 up_h
                 clear he_12 s17_9 s1_9
                 refine then_n ?_
                 refine aw_block ?_
                 refine aw_loop (S := Int) (fun i e mem => (evA e (.tmp 4) = .v (.int .i64 i)) ∧ (evA e (.tmp 1) = evA e_12 (.tmp 1)) ∧ (mem[0]? = m_1[0]?) ∧ (∃ n, mem.length = n ∧ 1 ≤ n) ∧ ((0 ≤ i ∧ i ≤ ps.length ∧ ∀ j : Nat, j < i.toNat → pieceB (ps.getD j default) = true))) (fun i => (ps.length - i).toNat) _ ⟨s4_12, rfl, rfl, ⟨_, ml_1, Nat.le_refl _⟩, ?_⟩ ?_
                 · exact ⟨by omega, by omega, fun j hj => by omega⟩
                 · rintro i e_13 m_13 ⟨s4_13, k1_13, mk0_13, ⟨n_13, ml_13, hn_13⟩, hinv⟩
                   have s1_13 := k1_13.trans s1_12
                   have mo0_13 := mk0_13.trans mo0_1
                   refine aw_seq ?_
                   refine aw_seq ?_
                   refine aw_text (by kernel_rfl) ?_
                   refine al_ro' (ro_move s4_13) trivial rfl ?_
                   refine al_ro' (ro_fld_ptr k3_fl51_1 rfl (up_m rfl s1_13)) trivial rfl ?_
                   refine al_ro' (ro_eq (ro_ld_ptr k3_ty49 rfl mo0_13 up_h (by first | exact Nat.le_of_ble_eq_true rfl | omega | (simp only [lnS] <;> omega) | (simp <;> omega))) (by first | (simp only [packA_t, packA_f, iE, bE, setAt, cellsA, Value.cells, map_vc, map_vn, Nat.reduceAdd, qS, pE] <;> rfl) | rfl)) trivial rfl ?_
                   refine al_ro' (ro_eq (ro_len_row up_h rfl k3_sl49.1) (by first | (simp only [lnS] <;> rfl) | rfl)) trivial rfl ?_
                   refine al_ro' (ro_lss (up_m rfl (u2 rfl up_h)) up_h) trivial rfl ?_
                   refine al_end (fun e_14 he_14 => ?_)
                   have s1_14 := ef 1 he_14 (up_m rfl (u4 rfl s1_13))
                   have s4_14 := ef 4 he_14 (up_m rfl (u4 rfl s4_13))
                   have s22_14 := ef 22 he_14 up_h
                   clear he_14 s1_13 s4_13
                   refine then_n ?_
                   refine aw_case s22_14 (fun hq_15 => ?_) (fun hq_15 => ?_)
                   · (first | replace hq_15 := bnt hq_15 | replace hq_15 := bnf hq_15 | replace hq_15 := bt hq_15 | replace hq_15 := bf hq_15 | replace hq_15 := bt' hq_15 | replace hq_15 := bf' hq_15 | skip)
                     first
                     | (cases hq_15; done) | (exfalso; omega)
                     | (
                        refine aw_skip ?_
                        refine then_n ?_
                        refine aw_seq ?_
                        refine aw_block ?_
                        refine aw_seq ?_
                        refine aw_text (by kernel_rfl) ?_
                        refine al_ro' (ro_fld_ptr k3_fl51_1 rfl s1_14) trivial rfl ?_
                        refine al_ro' (ro_eq (ro_ld_ptr k3_ty49 rfl mo0_13 up_h (by first | exact Nat.le_of_ble_eq_true rfl | omega | (simp only [lnS] <;> omega) | (simp <;> omega))) (by first | (simp only [packA_t, packA_f, iE, bE, setAt, cellsA, Value.cells, map_vc, map_vn, Nat.reduceAdd, qS, pE] <;> rfl) | rfl)) trivial rfl ?_
                        refine al_ro' (ro_move (u2 rfl s4_14)) trivial rfl ?_
                        refine al_ro' (ro_eq (ro_ix k3_sl49 (up_m rfl up_h) up_h (by first | decide | omega | (simp <;> omega)) (by first | (refine idx_map ?_; first | omega | (simp only [lnS]; omega)) | (refine idx_mapI ?_; first | omega | (simp only [lnS]; omega)) | (refine idx_mapN ?_; first | omega | (simp only [lnS]; omega)) | rfl)) (by first | (simp only [packA_t, packA_f, iE, bE, setAt, cellsA, Value.cells, map_vc, map_vn, Nat.reduceAdd, qS, pE] <;> rfl) | rfl)) trivial rfl ?_
                        refine al_ro' (ro_eq (ro_ld_ref k3_ty118 rfl up_h (by first | exact Nat.le_of_ble_eq_true rfl | omega | (simp only [lnS] <;> omega) | (simp <;> omega))) (by first | (simp only [packA_t, packA_f, iE, bE, setAt, cellsA, Value.cells, map_vc, map_vn, Nat.reduceAdd, qS, pE] <;> rfl) | rfl)) trivial rfl ?_
                        refine al_stm (st_alloc k3_az118 rfl ml_13) trivial rfl (fun m_16 hm_16 => ?_)
                        have mon_13_16 := m_push hm_16 ml_13
                        (try simp only [packA_t, packA_f, iE, bE, setAt, cellsA, Value.cells, map_vc, map_vn, Nat.reduceAdd, qS, pE] at mon_13_16)
                        have mo0_16 := m_push_o hm_16 mo0_13
                        have ml_16 := m_push_l hm_16 ml_13
                        clear hm_16 mo0_13
                        refine al_stm (st_store up_h (up_m rfl up_h) rfl rfl mon_13_16 k3_sz118 rfl (by first | exact Nat.le_of_ble_eq_true rfl | omega | (simp only [lnS] <;> omega) | (simp <;> omega))) trivial rfl (fun m_17 hm_17 => ?_)
                        have mon_13_17 := m_set hm_17 mon_13_16
                        (try simp only [packA_t, packA_f, iE, bE, setAt, cellsA, Value.cells, map_vc, map_vn, Nat.reduceAdd, qS, pE] at mon_13_17)
                        have mo0_17 := m_set_o hm_17 mo0_16 (by omega)
                        have ml_17 := m_set_l hm_17 ml_16
                        clear hm_17 mon_13_16 mo0_16
                        refine al_end (fun e_18 he_18 => ?_)
                        have s1_18 := ef 1 he_18 (up_n (u2 rfl (u4 rfl s1_14)))
                        have s4_18 := ef 4 he_18 (up_n (u2 rfl (u4 rfl s4_14)))
                        have s5_18 := ef 5 he_18 (up_n up_h)
                        clear he_18 s1_14 s22_14 s4_14
                        refine then_n ?_
                        refine aw_seq ?_
                        refine aw_cut (fun e mem => (evA e (.tmp 45) = .v (.bool (!pieceB (ps.getD i.toNat default)))) ∧ (evA e (.tmp 1) = evA e_18 (.tmp 1)) ∧ (evA e (.tmp 4) = evA e_18 (.tmp 4)) ∧ m_17 = mem) ?_ ?_
                        ·
                          refine aw_text (by kernel_rfl) ?_
                          refine al_ro' (ro_fld_ptr k3_fl118_0 rfl s5_18) trivial rfl ?_
                          refine al_ro' (ro_eq (ro_ld_ptr k3_ty3 rfl mon_13_17 up_h (by first | exact Nat.le_of_ble_eq_true rfl | omega | (simp only [lnS] <;> omega) | (simp <;> omega))) (by first | (simp only [packA_t, packA_f, iE, bE, setAt, cellsA, Value.cells, map_vc, map_vn, Nat.reduceAdd, qS, pE] <;> rfl) | rfl)) trivial rfl ?_
                          refine al_ro' (ro_call (evL_cons up_h (evL_cons ev_c (evL_cons ev_c evL_nil))) rfl (bWithin_ok _ _ _) k3_hcf10) trivial rfl ?_
                          refine al_ro' (ro_not up_h) trivial rfl ?_
                          refine al_ro' (ro_move up_h) trivial rfl ?_
                          refine al_case up_h (fun hb_20 hq_20 => ?_) (fun hb_20 hq_20 => ?_)
                          · (first | replace hq_20 := bnt hq_20 | replace hq_20 := bnf hq_20 | replace hq_20 := bt hq_20 | replace hq_20 := bf hq_20 | replace hq_20 := bt' hq_20 | replace hq_20 := bf' hq_20 | skip)
                            first
                            | (cases hq_20; done) | (exfalso; omega)
                            | (
                               refine al_skip' ⟨_, rfl, .inl hb_20⟩ rfl ?_
                               refine al_skip' ⟨_, rfl, .inl (up_m rfl hb_20)⟩ rfl ?_
                               refine al_skip' ⟨_, rfl, .inl (u2 rfl hb_20)⟩ rfl ?_
                               refine al_skip' ⟨_, rfl, .inl (up_m rfl (u2 rfl hb_20))⟩ rfl ?_
                               refine al_ro' (ro_pickT (u4 rfl hb_20) ev_c) trivial rfl ?_
                               refine al_ro' (ro_move up_h) trivial rfl ?_
                               refine al_skip' ⟨_, rfl, .inl up_h⟩ rfl ?_
                               refine al_skip' ⟨_, rfl, .inl (up_m rfl up_h)⟩ rfl ?_
                               refine al_skip' ⟨_, rfl, .inl (u2 rfl up_h)⟩ rfl ?_
                               refine al_skip' ⟨_, rfl, .inl (up_m rfl (u2 rfl up_h))⟩ rfl ?_
                               refine al_ro' (ro_pickT (u4 rfl up_h) ev_c) trivial rfl ?_
                               refine al_end (fun e_21 he_21 => ?_)
                               have s1_21 := ef 1 he_21 (u16 rfl s1_18)
                               have s4_21 := ef 4 he_21 (u16 rfl s4_18)
                               have s45_21 := ef 45 he_21 up_h
                               clear he_21
                               refine then_n ⟨(s45_21).trans (by (refine avb ?_; simp_all [pieceB])), (s1_21).trans (s1_18).symm, (s4_21).trans (s4_18).symm, rfl⟩)
                          · (first | replace hq_20 := bnt hq_20 | replace hq_20 := bnf hq_20 | replace hq_20 := bt hq_20 | replace hq_20 := bf hq_20 | replace hq_20 := bt' hq_20 | replace hq_20 := bf' hq_20 | skip)
                            first
                            | (cases hq_20; done) | (exfalso; omega)
                            | (
                               refine al_ro' (ro_fld_ptr k3_fl118_1 rfl (up_m rfl (u4 rfl s5_18))) ⟨_, rfl, hb_20⟩ rfl ?_
                               refine al_ro' (ro_eq (ro_ld_ptr k3_ty3 rfl mon_13_17 up_h (by first | exact Nat.le_of_ble_eq_true rfl | omega | (simp only [lnS] <;> omega) | (simp <;> omega))) (by first | (simp only [packA_t, packA_f, iE, bE, setAt, cellsA, Value.cells, map_vc, map_vn, Nat.reduceAdd, qS, pE] <;> rfl) | rfl)) ⟨_, rfl, (up_m rfl hb_20)⟩ rfl ?_
                               refine al_ro' (ro_call (evL_cons up_h (evL_cons ev_c (evL_cons ev_c evL_nil))) rfl (bWithin_ok _ _ _) k3_hcf10) ⟨_, rfl, (u2 rfl hb_20)⟩ rfl ?_
                               refine al_ro' (ro_not up_h) ⟨_, rfl, (up_m rfl (u2 rfl hb_20))⟩ rfl ?_
                               refine al_ro' (ro_pickF (u4 rfl hb_20) up_h) trivial rfl ?_
                               refine al_ro' (ro_move up_h) trivial rfl ?_
                               refine al_case up_h (fun hb_22 hq_22 => ?_) (fun hb_22 hq_22 => ?_)
                               · (first | replace hq_22 := bnt hq_22 | replace hq_22 := bnf hq_22 | replace hq_22 := bt hq_22 | replace hq_22 := bf hq_22 | replace hq_22 := bt' hq_22 | replace hq_22 := bf' hq_22 | skip)
                                 first
                                 | (cases hq_22; done) | (exfalso; omega)
                                 | (
                                    refine al_skip' ⟨_, rfl, .inl hb_22⟩ rfl ?_
                                    refine al_skip' ⟨_, rfl, .inl (up_m rfl hb_22)⟩ rfl ?_
                                    refine al_skip' ⟨_, rfl, .inl (u2 rfl hb_22)⟩ rfl ?_
                                    refine al_skip' ⟨_, rfl, .inl (up_m rfl (u2 rfl hb_22))⟩ rfl ?_
                                    refine al_ro' (ro_pickT (u4 rfl hb_22) ev_c) trivial rfl ?_
                                    refine al_end (fun e_23 he_23 => ?_)
                                    have s1_23 := ef 1 he_23 (u16 rfl s1_18)
                                    have s4_23 := ef 4 he_23 (u16 rfl s4_18)
                                    have s45_23 := ef 45 he_23 up_h
                                    clear he_23
                                    refine then_n ⟨(s45_23).trans (by (refine avb ?_; simp_all [pieceB])), (s1_23).trans (s1_18).symm, (s4_23).trans (s4_18).symm, rfl⟩)
                               · (first | replace hq_22 := bnt hq_22 | replace hq_22 := bnf hq_22 | replace hq_22 := bt hq_22 | replace hq_22 := bf hq_22 | replace hq_22 := bt' hq_22 | replace hq_22 := bf' hq_22 | skip)
                                 first
                                 | (cases hq_22; done) | (exfalso; omega)
                                 | (
                                    refine al_ro' (ro_fld_ptr k3_fl118_2 rfl (up_m rfl (u2 rfl (u8 rfl s5_18)))) ⟨_, rfl, hb_22⟩ rfl ?_
                                    refine al_ro' (ro_eq (ro_ld_ptr k3_ty3 rfl mon_13_17 up_h (by first | exact Nat.le_of_ble_eq_true rfl | omega | (simp only [lnS] <;> omega) | (simp <;> omega))) (by first | (simp only [packA_t, packA_f, iE, bE, setAt, cellsA, Value.cells, map_vc, map_vn, Nat.reduceAdd, qS, pE] <;> rfl) | rfl)) ⟨_, rfl, (up_m rfl hb_22)⟩ rfl ?_
                                    refine al_ro' (ro_call (evL_cons up_h (evL_cons ev_c (evL_cons ev_c evL_nil))) rfl (bWithin_ok _ _ _) k3_hcf10) ⟨_, rfl, (u2 rfl hb_22)⟩ rfl ?_
                                    refine al_ro' (ro_not up_h) ⟨_, rfl, (up_m rfl (u2 rfl hb_22))⟩ rfl ?_
                                    refine al_ro' (ro_pickF (u4 rfl hb_22) up_h) trivial rfl ?_
                                    refine al_end (fun e_24 he_24 => ?_)
                                    have s1_24 := ef 1 he_24 (u16 rfl s1_18)
                                    have s4_24 := ef 4 he_24 (u16 rfl s4_18)
                                    have s45_24 := ef 45 he_24 up_h
                                    clear he_24
                                    refine then_n ⟨(s45_24).trans (by (refine avb ?_; simp_all [pieceB])), (s1_24).trans (s1_18).symm, (s4_24).trans (s4_18).symm, rfl⟩))
                        · rintro e_19 _ ⟨s45_19, k1_19, k4_19, rfl⟩
                          have s1_19 := k1_19.trans s1_18
                          have s4_19 := k4_19.trans s4_18
                          refine aw_case s45_19 (fun hq_25 => ?_) (fun hq_25 => ?_)
                          · (first | replace hq_25 := bnt hq_25 | replace hq_25 := bnf hq_25 | replace hq_25 := bt hq_25 | replace hq_25 := bf hq_25 | replace hq_25 := bt' hq_25 | replace hq_25 := bf' hq_25 | skip)
                            first
                            | (cases hq_25; done) | (exfalso; omega)
                            | (
                               refine aw_seq ?_
                               refine aw_text (by kernel_rfl) ?_
                               refine al_ro' (ro_move s4_19) trivial rfl ?_
                               refine al_ro' (ro_assign up_h) trivial rfl ?_
                               refine al_ro' (ro_assign ev_c) trivial rfl ?_
                               refine al_end (fun e_26 he_26 => ?_)
                               have s2_26 := ef 2 he_26 (up_m rfl up_h)
                               have s3_26 := ef 3 he_26 up_h
                               clear he_26 s1_19 s45_19 s4_19
                               refine then_n ?_
                               refine aw_ret ?_
                               refine block_r ?_
                               refine then_r ?_
                               refine then_r ?_
                               refine block_r ?_
                               refine then_r ?_
                               refine ret2 (.inr rfl) (by kernel_rfl) (resV_tmp s2_26) (resV_tmp s3_26) (.ro _ rfl) (.ro _ rfl) ?_
                               clear s2_26 s3_26 mon_13_17 mo0_17 ml_17
                               first | (rw [chk_err] <;> simp_all [err0, unlessE, firstE] <;> omega) | (obtain ⟨h1, h2, h3⟩ := hinv; have he : err0 nm ps = 0 := (by simp_all [err0, unlessE, firstE] <;> omega); first | (rw [chk_bad (i := i.toNat) he (by omega) h3 (by assumption), Int.toNat_of_nonneg h1]) | (rw [chk_ok he (fun j hj => h3 j (by omega))])))
                          · (first | replace hq_25 := bnt hq_25 | replace hq_25 := bnf hq_25 | replace hq_25 := bt hq_25 | replace hq_25 := bf hq_25 | replace hq_25 := bt' hq_25 | replace hq_25 := bf' hq_25 | skip)
                            first
                            | (cases hq_25; done) | (exfalso; omega)
                            | (
                               refine aw_skip ?_
                               refine block_n ?_
                               refine then_n ?_
                               refine aw_text (by kernel_rfl) ?_
                               refine al_ro' (ro_move s4_19) trivial rfl ?_
                               first | (refine al_ro' (ro_add' up_h ev_c ?_) trivial rfl ?_; · (unfold In64; omega)) | refine al_ro' (ro_add up_h ev_c) trivial rfl ?_
                               refine al_ro' (ro_assign up_h) trivial rfl ?_
                               refine al_end (fun e_27 he_27 => ?_)
                               have s1_27 := ef 1 he_27 (up_m rfl (u2 rfl s1_19))
                               have s4_27 := ef 4 he_27 up_h
                               clear he_27 s1_19 s45_19 s4_19
                               refine then_n ?_
                               refine ⟨_, ⟨s4_27, (s1_27.trans s1_12.symm), (mo0_17.trans mo0_1.symm), ⟨_, ml_17, by omega⟩, ?_⟩, ?_⟩
                               · (obtain ⟨h1, h2, h3⟩ := hinv; refine ⟨by omega, by omega, fun j hj => ?_⟩; by_cases hj' : j < i.toNat; exact h3 j hj'; have hji : j = i.toNat := (by omega); rw [hji]; assumption)
                               · ((try dsimp only); omega)))
                   · (first | replace hq_15 := bnt hq_15 | replace hq_15 := bnf hq_15 | replace hq_15 := bt hq_15 | replace hq_15 := bf hq_15 | replace hq_15 := bt' hq_15 | replace hq_15 := bf' hq_15 | skip)
                     first
                     | (cases hq_15; done) | (exfalso; omega)
                     | (
                        refine aw_exit ?_
                        refine then_x ?_
                        refine then_x ?_
                        refine block_hit ?_
                        refine then_n ?_
                        refine aw_seq ?_
                        refine aw_text (by kernel_rfl) ?_
                        refine al_ro' (ro_assign ev_c) trivial rfl ?_
                        refine al_ro' (ro_assign ev_c) trivial rfl ?_
                        refine al_end (fun e_28 he_28 => ?_)
                        have s2_28 := ef 2 he_28 (up_m rfl up_h)
                        have s3_28 := ef 3 he_28 up_h
                        clear he_28 s1_14 s22_14 s4_14
                        refine then_n ?_
                        refine aw_ret ?_
                        refine ret2 (.inr rfl) (by kernel_rfl) (resV_tmp s2_28) (resV_tmp s3_28) (.ro _ rfl) (.ro _ rfl) ?_
                        clear s2_28 s3_28 mo0_13 ml_13
                        first | (rw [chk_err] <;> simp_all [err0, unlessE, firstE] <;> omega) | (obtain ⟨h1, h2, h3⟩ := hinv; have he : err0 nm ps = 0 := (by simp_all [err0, unlessE, firstE] <;> omega); first | (rw [chk_bad (i := i.toNat) he (by omega) h3 (by assumption), Int.toNat_of_nonneg h1]) | (rw [chk_ok he (fun j hj => h3 j (by omega))]))))))
end Go.Proofs.Ytgiiedpambimoaa
