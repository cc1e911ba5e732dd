/- Contracts of chapter 5: a track in the opposite direction. No conditions on a program. -/
import Derived.Test.YtelgkjekpcfffaaK38
namespace Go.Proofs.Ytelgkjekpcfffaa
open Go Go.RowKit Go.Proofs
set_option linter.unusedSimpArgs false
set_option linter.unusedVariables false
theorem k40_az101 : (Try.prog.info? 101).bind (·.zero) = some (.agg #[.string ByteArray.empty, .slice none 0 0]) := by kernel_rfl
theorem k40_az24 : (Try.prog.info? 24).bind (·.zero) = some (.agg #[.string ByteArray.empty, .slice none 0 0]) := by kernel_rfl
theorem k40_az66 : (Try.prog.info? 66).bind (·.zero) = some (.agg #[.int .i64 0, .int .i64 0, .int .i64 0, .bool false]) := by kernel_rfl
theorem k40_bz24 : (Try.prog.info? 24).bind (·.zero) = some (.agg #[.string ByteArray.empty, .slice none 0 0]) := by kernel_rfl
theorem k40_bu24 : Try.prog.underlying 24 = some (.struct (fsOf Try.prog 24)) := by kernel_rfl
theorem k40_bp24 : ∀ w, ((fsOf Try.prog 24).mapM fun f => Prod.mk f.offset <$> sizeOf f.type : Sem (Array (Nat × Nat))).run Try.prog w = .ok (#[(0, 1), (1, 1)]) w := fun _ => by kernel_rfl
theorem k40_fl24_0 : FldIs Try.prog 24 0 0 false 1 := by unfold FldIs; kernel_rfl
theorem k40_fl24_1 : FldIs Try.prog 24 1 1 false 1 := by unfold FldIs; kernel_rfl
theorem k40_fl66_1 : FldIs Try.prog 66 1 1 false 1 := by unfold FldIs; kernel_rfl
theorem k40_hcf101 : ∀ args w, (callFunc 101 args).run Try.prog w = .ok (.enter 101 args) w := fun _ _ => by kernel_rfl
theorem k40_hcf78 : ∀ args w, (callFunc 78 args).run Try.prog w = .ok (.enter 78 args) w := fun _ _ => by kernel_rfl
theorem k40_hcf90 : ∀ args w, (callFunc 90 args).run Try.prog w = .ok (.enter 90 args) w := fun _ _ => by kernel_rfl
theorem k40_sl22 : SlIs Try.prog 22 66 4 32 (.agg #[.int .i64 0, .int .i64 0, .int .i64 0, .bool false]) := ⟨by kernel_rfl, by kernel_rfl, by kernel_rfl⟩
theorem k40_gq66 : Try.prog.eqGuardType Try.prog.depth 66 = false := by kernel_rfl
theorem k40_sq66 {a0 b0 : Int} {a1 b1 : Int} {a2 b2 : Int} {a3 b3 : Bool} : EqV Try.prog 2 66 (.agg #[.int .i64 a0, .int .i64 a1, .int .i64 a2, .bool a3]) (.agg #[.int .i64 b0, .int .i64 b1, .int .i64 b2, .bool b3]) (decide (a0 = b0) && (decide (a1 = b1) && (decide (a2 = b2) && ((a3 == b3) && true)))) := (eqs_struct [(3, 0), (3, 1), (3, 2), (4, 3)] (by kernel_rfl) (by kernel_rfl) (by kernel_rfl) (by kernel_rfl) (.cons (fun _ => by kernel_rfl) (fun _ => by kernel_rfl) (eqv_int (k := .i64) (k' := .i64) (by kernel_rfl) a0 b0) (.cons (fun _ => by kernel_rfl) (fun _ => by kernel_rfl) (eqv_int (k := .i64) (k' := .i64) (by kernel_rfl) a1 b1) (.cons (fun _ => by kernel_rfl) (fun _ => by kernel_rfl) (eqv_int (k := .i64) (k' := .i64) (by kernel_rfl) a2 b2) (.cons (fun _ => by kernel_rfl) (fun _ => by kernel_rfl) (eqv_bool (by kernel_rfl) a3 b3) .nil)))))
theorem k40_sz101 : (Try.prog.info? 101).map (·.size) = some 2 := by kernel_rfl
theorem k40_sz22 : (Try.prog.info? 22).map (·.size) = some 1 := by kernel_rfl
theorem k40_sz24 : (Try.prog.info? 24).map (·.size) = some 2 := by kernel_rfl
theorem k40_sz3 : (Try.prog.info? 3).map (·.size) = some 1 := by kernel_rfl
theorem k40_sz66 : (Try.prog.info? 66).map (·.size) = some 4 := by kernel_rfl
theorem k40_ty22 : TyIs Try.prog 22 false 1 := ⟨by kernel_rfl, by kernel_rfl⟩
theorem k40_ty24 : TyIs Try.prog 24 true 2 := ⟨by kernel_rfl, by kernel_rfl⟩
theorem k40_ty3 : TyIs Try.prog 3 false 1 := ⟨by kernel_rfl, by kernel_rfl⟩
theorem k40_ty66 : TyIs Try.prog 66 true 4 := ⟨by kernel_rfl, by kernel_rfl⟩
theorem k40_ty9 : TyIs Try.prog 9 false 1 := ⟨by kernel_rfl, by kernel_rfl⟩

/-- What slices.Backward hands over. -/
def bkY (ps : List Piece) : List (List AV) := (List.range ps.length).map fun (j : Nat) => [iA ((ps.length : Int) - 1 - j), .agg (pE (ps.getD (ps.length - 1 - j) default))]
theorem bkY_len (ps : List Piece) : (bkY ps).length = ps.length := by simp [bkY]
theorem bkY_two {ps : List Piece} : ∀ y ∈ bkY ps, y.length = 2 := by
  intro y hy
  unfold bkY at hy
  obtain ⟨s, _, rfl⟩ := List.mem_map.1 hy
  rfl
theorem bkY_at {ps : List Piece} {i : Int} {k : Nat} (h0 : 0 ≤ i) (hi : i < ps.length) (hk : (k : Int) = ps.length - 1 - i) : (bkY ps)[k]? = some [.v (.int .i64 i), .agg (pE (ps.getD i.toNat default))] := by
  unfold bkY
  rw [List.getElem?_map, List.getElem?_range (by omega)]
  simp only [Option.map_some]
  rw [show (ps.length : Int) - 1 - (k : Int) = i by omega, show ps.length - 1 - k = i.toNat by omega]
theorem bkY_of {ps : List Piece} {i : Nat} {a b : AV} (h : (bkY ps)[i]? = some [a, b]) : i < ps.length ∧ a = iA ((ps.length : Int) - 1 - i) ∧ b = .agg (pE (ps.getD (ps.length - 1 - i) default)) := by
  have hl : i < ps.length := by have := (List.getElem?_eq_some_iff.1 h).1; rwa [bkY_len] at this
  unfold bkY at h
  rw [List.getElem?_map, List.getElem?_range hl] at h
  simp at h
  exact ⟨hl, h.1.symm, h.2.symm⟩
set_option maxRecDepth 100000 in
set_option maxHeartbeats 4000000 in
theorem backward1_gen (ps : List Piece) (hp : ps.length ≤ 1000000) : GenOk Try.prog 101 [] [.ref [.row 4 (ps.map pE)]] (bkY ps) := by
  refine gen_of (fn := Try.f101) 19 (by kernel_rfl) rfl (by kernel_rfl) (Nat.le_of_ble_eq_true rfl) (fun _ _ => ⟨.tuple #[], by kernel_rfl⟩) ?_
  intro lb_ e_0 hA
  have s0_0 : evA e_0 (.tmp 0) = _ := hA 0 _ rfl
  have s1_0 : evA e_0 (.tmp 1) = _ := hA 1 _ rfl
  clear hA
  refine iw_seq ?_
  refine iw_text ?_
  refine il_ro (fun _ => (ro_eq (ro_ld_ref k40_ty22 rfl s1_0 (by first | exact Nat.le_of_ble_eq_true rfl | omega | (simp only [lnS] <;> omega) | (simp <;> omega))) (by first | (simp only [packA_t, packA_f, iE, bE, setAt, cellsA, Value.cells, map_vc, map_vn, Nat.reduceAdd, qS, pE] <;> rfl) | rfl))) trivial rfl ?_
  refine il_ro (fun _ => (ro_eq (ro_len_row up_h rfl k40_sl22.1) (by first | (simp only [lnS] <;> rfl) | rfl))) trivial rfl ?_
  first | (refine il_ro (fun _ => (ro_sub' up_h ev_c ?_)) trivial rfl ?_; · (unfold In64; omega)) | refine il_ro (fun _ => (ro_sub up_h ev_c)) trivial rfl ?_
  refine il_ro (fun _ => (ro_assign up_h)) trivial rfl ?_
  refine il_end (fun e_1 he_1 => ?_)
  have s0_1 := ef 0 he_1 (u4 rfl s0_0)
  have s1_1 := ef 1 he_1 (u4 rfl s1_0)
  have s3_1 := ef 3 he_1 up_h
  clear he_1 s0_0 s1_0
  refine theni_n ?_
  refine iw_block ?_
  refine iw_loop (S := Int) (fun j e b i => (evA e (.tmp 3) = .v (.int .i64 j)) ∧ (evA e (.tmp 0) = evA e_1 (.tmp 0)) ∧ (evA e (.tmp 1) = evA e_1 (.tmp 1)) ∧ (b = true) ∧ (i = (ps.length - 1 - j).toNat) ∧ ((-1 ≤ j ∧ j < ps.length))) (fun j => (j + 1).toNat) _ ⟨s3_1, rfl, rfl, rfl, (by first | rfl | omega | (simp; omega)), ?_⟩ ?_
  · (exact ⟨by omega, by omega⟩)
  · rintro j e_2 _ i_2 ⟨s3_2, k0_2, k1_2, rfl, hix, hinv⟩
    have s0_2 := k0_2.trans s0_1
    have s1_2 := k1_2.trans s1_1
    (have p1 := hinv.1; have p2 := hinv.2)
    refine iw_seq ?_
    refine iw_seq ?_
    refine iw_text ?_
    refine il_ro (fun _ => (ro_move s3_2)) trivial rfl ?_
    refine il_ro (fun _ => (ro_geq up_h ev_c)) trivial rfl ?_
    refine il_end (fun e_3 he_3 => ?_)
    have s0_3 := ef 0 he_3 (u2 rfl s0_2)
    have s1_3 := ef 1 he_3 (u2 rfl s1_2)
    have s3_3 := ef 3 he_3 (u2 rfl s3_2)
    have s8_3 := ef 8 he_3 up_h
    clear he_3 s0_2 s1_2 s3_2
    refine theni_n ?_
    refine iw_case s8_3 (fun hq_4 => ?_) (fun hq_4 => ?_)
    · (first | replace hq_4 := bnt hq_4 | replace hq_4 := bnf hq_4 | replace hq_4 := bt hq_4 | replace hq_4 := bf hq_4 | replace hq_4 := bt' hq_4 | replace hq_4 := bf' hq_4 | skip)
      first
      | (cases hq_4; done) | (exfalso; omega)
      | (
         refine iw_skip ?_
         refine theni_n ?_
         refine iw_seq ?_
         refine iw_block ?_
         refine iw_seq ?_
         refine iw_text ?_
         refine il_ro (fun _ => (ro_move s0_3)) trivial rfl ?_
         refine il_ro (fun _ => (ro_move (up_m rfl s3_3))) trivial rfl ?_
         refine il_ro (fun _ => (ro_eq (ro_ld_ref k40_ty22 rfl (u2 rfl s1_3) (by first | exact Nat.le_of_ble_eq_true rfl | omega | (simp only [lnS] <;> omega) | (simp <;> omega))) (by first | (simp only [packA_t, packA_f, iE, bE, setAt, cellsA, Value.cells, map_vc, map_vn, Nat.reduceAdd, qS, pE] <;> rfl) | rfl))) trivial rfl ?_
         refine il_ro (fun _ => (ro_move (up_m rfl (u2 rfl s3_3)))) trivial rfl ?_
         refine il_ro (fun _ => (ro_eq (ro_ix k40_sl22 (up_m rfl up_h) up_h (by first | decide | omega | (simp <;> omega)) (by first | (refine idx_map ?_; first | omega | (simp only [lnS]; omega)) | (refine idx_mapI ?_; first | omega | (simp only [lnS]; omega)) | (refine idx_mapN ?_; first | omega | (simp only [lnS]; omega)) | rfl)) (by first | (simp only [packA_t, packA_f, iE, bE, setAt, cellsA, Value.cells, map_vc, map_vn, Nat.reduceAdd, qS, pE] <;> rfl) | rfl))) trivial rfl ?_
         refine il_ro (fun _ => (ro_eq (ro_ld_ref k40_ty66 rfl up_h (by first | exact Nat.le_of_ble_eq_true rfl | omega | (simp only [lnS] <;> omega) | (simp <;> omega))) (by first | (simp only [packA_t, packA_f, iE, bE, setAt, cellsA, Value.cells, map_vc, map_vn, Nat.reduceAdd, qS, pE] <;> rfl) | rfl))) trivial rfl ?_
         refine il_yield2 (up_m rfl (u4 rfl up_h)) (evL_cons (u4 rfl up_h) (evL_cons up_h evL_nil)) rfl trivial rfl (by exact bkY_at (by omega) (by omega) (by omega)) ?_ ?_
         ·
           refine il_ro (fun _ => (ro_not up_h)) trivial rfl ?_
           refine il_end (fun e_5 he_5 => ?_)
           have s0_5 := ef 0 he_5 (u8 rfl s0_3)
           have s1_5 := ef 1 he_5 (u8 rfl s1_3)
           have s3_5 := ef 3 he_5 (u8 rfl s3_3)
           have s18_5 := ef 18 he_5 up_h
           clear he_5 s0_3 s1_3 s3_3 s8_3
           refine theni_n ?_
           refine iw_false s18_5 ?_
           refine iw_skip ?_
           refine blocki_n ?_
           refine theni_n ?_
           refine iw_text ?_
           refine il_ro (fun _ => (ro_move s3_5)) trivial rfl ?_
           first | (refine il_ro (fun _ => (ro_sub' up_h ev_c ?_)) trivial rfl ?_; · (unfold In64; omega)) | refine il_ro (fun _ => (ro_sub up_h ev_c)) trivial rfl ?_
           refine il_ro (fun _ => (ro_assign up_h)) trivial rfl ?_
           refine il_end (fun e_7 he_7 => ?_)
           have s0_7 := ef 0 he_7 (up_m rfl (u2 rfl s0_5))
           have s1_7 := ef 1 he_7 (up_m rfl (u2 rfl s1_5))
           have s3_7 := ef 3 he_7 up_h
           clear he_7 s0_5 s18_5 s1_5 s3_5
           refine theni_n ?_
           refine ⟨_, ⟨s3_7, (s0_7.trans s0_1.symm), (s1_7.trans s1_1.symm), rfl, (by first | omega | (simp; omega)), ?_⟩, ?_⟩
           · (exact ⟨by omega, by omega⟩)
           · ((try dsimp only); omega)
         ·
           refine il_ro (fun _ => (ro_not up_h)) trivial rfl ?_
           refine il_end (fun e_8 he_8 => ?_)
           have s0_8 := ef 0 he_8 (u8 rfl s0_3)
           have s1_8 := ef 1 he_8 (u8 rfl s1_3)
           have s3_8 := ef 3 he_8 (u8 rfl s3_3)
           have s18_8 := ef 18 he_8 up_h
           clear he_8 s0_3 s1_3 s3_3 s8_3
           refine theni_n ?_
           refine iw_true s18_8 ?_
           refine iw_ret ?_
           refine blocki_r ?_
           refine theni_r ?_
           refine theni_r ?_
           refine blocki_r ?_
           refine gen_r (fun hb_ => (by cases hb_)))
    · (first | replace hq_4 := bnt hq_4 | replace hq_4 := bnf hq_4 | replace hq_4 := bt hq_4 | replace hq_4 := bf hq_4 | replace hq_4 := bt' hq_4 | replace hq_4 := bf' hq_4 | skip)
      first
      | (cases hq_4; done) | (exfalso; omega)
      | (
         refine iw_exit ?_
         refine theni_x ?_
         refine theni_x ?_
         refine blocki_hit ?_
         refine gen_n (fun hb_ => ?_)
         (rw [bkY_len]; omega))
set_option maxRecDepth 100000 in
set_option maxHeartbeats 4000000 in
theorem backwardS_ok (ps : List Piece) : FnOk Try.prog 90 [.row 4 (ps.map pE)] (fun q => q = .clo (.func 101) [] [.ref [.row 4 (ps.map pE)]]) := by
  refine fnOk_of (fn := Try.f90) 4 (by kernel_rfl) rfl (by kernel_rfl) (Nat.le_of_ble_eq_true rfl) ?_
  intro e_0 m_0 hA hm_0
  have s0_0 : evA e_0 (.tmp 0) = _ := hA 0 _ rfl
  have ml_0 : m_0.length = 0 := by rw [hm_0]; rfl
  clear hA hm_0
  refine aw_seq ?_
  refine aw_text (by kernel_rfl) ?_
  refine al_stm (st_box s0_0 rfl ml_0) trivial rfl (fun m_1 hm_1 => ?_)
  have mo0_1 := m_push hm_1 ml_0
  (try simp only [packA_t, packA_f, iE, bE, setAt, cellsA, Value.cells, map_vc, map_vn, Nat.reduceAdd, qS] at mo0_1)
  have ml_1 := m_push_l hm_1 ml_0
  have ml_1 : _ = 1 := ml_1
  clear hm_1
  refine al_ro' (ro_assign ev_c) trivial rfl ?_
  refine al_end (fun e_2 he_2 => ?_)
  have s1_2 := ef 1 he_2 (up_m rfl up_h)
  clear he_2 s0_0
  refine then_n ?_
  refine aw_seq ?_
  refine aw_text (by kernel_rfl) ?_
  refine al_ro' (ro_makeFunc evL_nil (evL_cons s1_2 evL_nil)) trivial rfl ?_
  refine al_ro' (ro_assign up_h) trivial rfl ?_
  refine al_end (fun e_3 he_3 => ?_)
  have s2_3 := ef 2 he_3 up_h
  clear he_3 s1_2
  refine then_n ?_
  refine aw_ret ?_
  refine ret1 (.inr rfl) (by kernel_rfl) (resV_tmp s2_3) (vw_clo vwl_nil (vwl_cons (vw_ptr mo0_1 (vwl_cons (.ro _ rfl) vwl_nil)) vwl_nil)) ?_
  clear s2_3 mo0_1 ml_1
  rfl
def flipP (p : Piece) : Piece := ⟨p.len, -p.grad, p.lim, p.leave⟩
def rvP (ps : List Piece) : List Piece := ps.reverse.map flipP
theorem rvP_len (ps : List Piece) : (rvP ps).length = ps.length := by simp [rvP]
theorem rvP_take {ps : List Piece} {i : Nat} (h : i < ps.length) : (rvP ps).take (i + 1) = (rvP ps).take i ++ [flipP (ps.getD (ps.length - 1 - i) default)] := by
  rw [List.take_add_one, List.getElem?_eq_getElem (by rw [rvP_len]; exact h)]
  have e : (rvP ps)[i]'(by rw [rvP_len]; exact h) = flipP (ps.getD (ps.length - 1 - i) default) := by
    simp [rvP, List.getD_eq_getElem?_getD, show ps.length - 1 - i < ps.length by omega]
  rw [e]; rfl
theorem one_pE (a b c : Int) (d : Bool) : [[AV.v (.int .i64 a), AV.v (.int .i64 b), AV.v (.int .i64 c), AV.v (.bool d)]] = [(⟨a, b, c, d⟩ : Piece)].map pE := rfl
set_option maxRecDepth 100000 in
set_option maxHeartbeats 4000000 in
theorem reversed_ok (nm : ByteArray) (ps : List Piece) (ha : nm.size ≤ 1000000000) (hp : ps.length ≤ 1000) :
    FnOk Try.prog 51 [trA nm ps] (fun q => q = .tuple [trA (if (chk nm ps).2 = 0 then nm else ⟨#[]⟩) (if (chk nm ps).2 = 0 then rvP ps else []), iA (chk nm ps).2]) := by
  refine fnOk_of (fn := Try.f51) 37 (by kernel_rfl) rfl (by kernel_rfl) (Nat.le_of_ble_eq_true rfl) ?_
  intro e_0 m_0 hA hm_0
  have s0_0 : evA e_0 (.tmp 0) = _ := hA 0 _ rfl
  have ml_0 : m_0.length = 0 := by rw [hm_0]; rfl
  clear hA hm_0
  refine aw_seq ?_
  refine aw_text (by kernel_rfl) ?_
  refine al_stm (st_box s0_0 rfl ml_0) trivial rfl (fun m_1 hm_1 => ?_)
  have mo0_1 := m_push hm_1 ml_0
  (try simp only [packA_t, packA_f, iE, bE, setAt, cellsA, Value.cells, map_vc, map_vn, Nat.reduceAdd, qS, pE, one_pE, app_m] at mo0_1)
  have ml_1 := m_push_l hm_1 ml_0
  have ml_1 : _ = 1 := ml_1
  clear hm_1
  refine al_stm (st_alloc k40_az24 rfl ml_1) trivial rfl (fun m_2 hm_2 => ?_)
  have mo1_2 := m_push hm_2 ml_1
  (try simp only [packA_t, packA_f, iE, bE, setAt, cellsA, Value.cells, map_vc, map_vn, Nat.reduceAdd, qS, pE, one_pE, app_m] at mo1_2)
  have mo0_2 := m_push_o hm_2 mo0_1
  have ml_2 := m_push_l hm_2 ml_1
  have ml_2 : _ = 2 := ml_2
  clear hm_2 mo0_1
  refine al_ro' (ro_assign ev_c) trivial rfl ?_
  refine al_end (fun e_3 he_3 => ?_)
  have s1_3 := ef 1 he_3 (u2 rfl up_h)
  have s2_3 := ef 2 he_3 (up_m rfl up_h)
  clear he_3 s0_0
  refine then_n ?_
  refine aw_seq ?_
  refine aw_seq ?_
  refine aw_text (by kernel_rfl) ?_
  refine al_ro' (ro_eq (ro_ld_ptr k40_ty24 rfl mo0_2 s1_3 (by first | exact Nat.le_of_ble_eq_true rfl | omega | (simp only [lnS] <;> omega) | (simp <;> omega))) (by first | (simp only [packA_t, packA_f, iE, bE, setAt, cellsA, Value.cells, map_vc, map_vn, Nat.reduceAdd, qS, pE, one_pE, app_m] <;> rfl) | rfl)) trivial rfl ?_
  refine al_ro' (ro_call (evL_cons up_h evL_nil) rfl (open_ok nm ps ha (by omega)) k40_hcf78) trivial rfl ?_
  refine al_ro' (ro_move up_h) trivial rfl ?_
  refine al_ro' (ro_extract up_h rfl) trivial rfl ?_
  refine al_ro' (ro_extract (up_m rfl up_h) rfl) trivial rfl ?_
  refine al_stm (st_alloc k40_az101 rfl ml_2) trivial rfl (fun m_4 hm_4 => ?_)
  have mo2_4 := m_push hm_4 ml_2
  (try simp only [packA_t, packA_f, iE, bE, setAt, cellsA, Value.cells, map_vc, map_vn, Nat.reduceAdd, qS, pE, one_pE, app_m] at mo2_4)
  have mo1_4 := m_push_o hm_4 mo1_2
  have mo0_4 := m_push_o hm_4 mo0_2
  have ml_4 := m_push_l hm_4 ml_2
  have ml_4 : _ = 3 := ml_4
  clear hm_4 mo1_2 mo0_2
  refine al_stm (st_store up_h (u2 rfl up_h) rfl rfl mo2_4 k40_sz101 rfl (by first | exact Nat.le_of_ble_eq_true rfl | omega | (simp only [lnS] <;> omega) | (simp <;> omega))) trivial rfl (fun m_5 hm_5 => ?_)
  have mo2_5 := m_set hm_5 mo2_4
  (try simp only [packA_t, packA_f, iE, bE, setAt, cellsA, Value.cells, map_vc, map_vn, Nat.reduceAdd, qS, pE, one_pE, app_m] at mo2_5)
  have mo1_5 := m_set_o hm_5 mo1_4 (by decide)
  have mo0_5 := m_set_o hm_5 mo0_4 (by decide)
  have ml_5 := m_set_l hm_5 ml_4
  clear hm_5 mo2_4 mo1_4 mo0_4
  refine al_ro' (ro_assign (up_n (up_m rfl up_h))) trivial rfl ?_
  refine al_end (fun e_6 he_6 => ?_)
  have s1_6 := ef 1 he_6 (up_m rfl (up_n (u2 rfl (u4 rfl s1_3))))
  have s2_6 := ef 2 he_6 (up_m rfl (up_n (u2 rfl (u4 rfl s2_3))))
  have s5_6 := ef 5 he_6 up_h
  clear he_6 s1_3 s2_3
  refine then_n ?_
  refine aw_seq ?_
  refine aw_text (by kernel_rfl) ?_
  refine al_ro' (ro_move s5_6) trivial rfl ?_
  refine al_ro' (ro_neq up_h ev_c) trivial rfl ?_
  refine al_end (fun e_7 he_7 => ?_)
  have s1_7 := ef 1 he_7 (u2 rfl s1_6)
  have s2_7 := ef 2 he_7 (u2 rfl s2_6)
  have s5_7 := ef 5 he_7 (u2 rfl s5_6)
  have s15_7 := ef 15 he_7 up_h
  clear he_7 s1_6 s2_6 s5_6
  refine then_n ?_
  refine aw_case s15_7 (fun hq_8 => ?_) (fun hq_8 => ?_)
  · (first | replace hq_8 := bnt hq_8 | replace hq_8 := bnf hq_8 | replace hq_8 := bt hq_8 | replace hq_8 := bf hq_8 | replace hq_8 := bt' hq_8 | replace hq_8 := bf' hq_8 | skip)
    first
    | (cases hq_8; done) | (exfalso; omega)
    | (
       (have hn : ¬ (chk nm ps).2 = 0 := (by assumption))
       refine aw_seq ?_
       refine aw_text (by kernel_rfl) ?_
       refine al_ro' (ro_build evP_nil k40_bz24 k40_bu24 k40_bp24 rfl) trivial rfl ?_
       refine al_ro' (ro_move (up_m rfl s5_7)) trivial rfl ?_
       refine al_stm (st_store (u2 rfl s2_7) (up_m rfl up_h) rfl rfl mo1_5 k40_sz24 rfl (by first | exact Nat.le_of_ble_eq_true rfl | omega | (simp only [lnS] <;> omega) | (simp <;> omega))) trivial rfl (fun m_9 hm_9 => ?_)
       have mo1_9 := m_set hm_9 mo1_5
       (try simp only [packA_t, packA_f, iE, bE, setAt, cellsA, Value.cells, map_vc, map_vn, Nat.reduceAdd, qS, pE, one_pE, app_m] at mo1_9)
       have mo2_9 := m_set_o hm_9 mo2_5 (by decide)
       have mo0_9 := m_set_o hm_9 mo0_5 (by decide)
       have ml_9 := m_set_l hm_9 ml_5
       clear hm_9 mo2_5 mo1_5 mo0_5
       refine al_ro' (ro_assign (up_n up_h)) trivial rfl ?_
       refine al_end (fun e_10 he_10 => ?_)
       have s2_10 := ef 2 he_10 (up_m rfl (up_n (u2 rfl s2_7)))
       have s3_10 := ef 3 he_10 up_h
       clear he_10 s15_7 s1_7 s2_7 s5_7
       refine then_n ?_
       refine aw_ret ?_
       refine then_r ?_
       refine ret2 (.inr rfl) (by kernel_rfl) (resV_cell s2_10 mo1_9 k40_ty24 (by first | exact Nat.le_of_ble_eq_true rfl | omega | (simp only [lnS] <;> omega) | (simp <;> omega)) (by simp)) (resV_tmp s3_10) (vw_r (vw_agg (vwl_cons (.ro _ rfl) (vwl_cons (.nil 4) vwl_nil)))) (.ro _ rfl) ?_
       clear s2_10 s3_10 mo1_9 mo2_9 mo0_9 ml_9
       (rw [if_neg hn, if_neg hn]; rfl))
  · (first | replace hq_8 := bnt hq_8 | replace hq_8 := bnf hq_8 | replace hq_8 := bt hq_8 | replace hq_8 := bf hq_8 | replace hq_8 := bt' hq_8 | replace hq_8 := bf' hq_8 | skip)
    first
    | (cases hq_8; done) | (exfalso; omega)
    | (
       (have hz : (chk nm ps).2 = 0 := (by assumption); have hR := chk_right hz)
       refine aw_skip ?_
       refine then_n ?_
       refine aw_seq ?_
       refine aw_text (by kernel_rfl) ?_
       refine al_ro' (ro_fld_ptr k40_fl24_0 rfl s1_7) trivial rfl ?_
       refine al_ro' (ro_eq (ro_ld_ptr k40_ty9 rfl mo0_5 up_h (by first | exact Nat.le_of_ble_eq_true rfl | omega | (simp only [lnS] <;> omega) | (simp <;> omega))) (by first | (simp only [packA_t, packA_f, iE, bE, setAt, cellsA, Value.cells, map_vc, map_vn, Nat.reduceAdd, qS, pE, one_pE, app_m] <;> rfl) | rfl)) trivial rfl ?_
       refine al_ro' (ro_build (evP_cons up_h evP_nil) k40_bz24 k40_bu24 k40_bp24 rfl) trivial rfl ?_
       refine al_stm (st_alloc k40_az24 rfl ml_5) trivial rfl (fun m_11 hm_11 => ?_)
       have mo3_11 := m_push hm_11 ml_5
       (try simp only [packA_t, packA_f, iE, bE, setAt, cellsA, Value.cells, map_vc, map_vn, Nat.reduceAdd, qS, pE, one_pE, app_m] at mo3_11)
       have mo2_11 := m_push_o hm_11 mo2_5
       have mo1_11 := m_push_o hm_11 mo1_5
       have mo0_11 := m_push_o hm_11 mo0_5
       have ml_11 := m_push_l hm_11 ml_5
       have ml_11 : _ = 4 := ml_11
       clear hm_11 mo2_5 mo1_5 mo0_5
       refine al_stm (st_store up_h (up_m rfl up_h) rfl rfl mo3_11 k40_sz24 rfl (by first | exact Nat.le_of_ble_eq_true rfl | omega | (simp only [lnS] <;> omega) | (simp <;> omega))) trivial rfl (fun m_12 hm_12 => ?_)
       have mo3_12 := m_set hm_12 mo3_11
       (try simp only [packA_t, packA_f, iE, bE, setAt, cellsA, Value.cells, map_vc, map_vn, Nat.reduceAdd, qS, pE, one_pE, app_m] at mo3_12)
       have mo2_12 := m_set_o hm_12 mo2_11 (by decide)
       have mo1_12 := m_set_o hm_12 mo1_11 (by decide)
       have mo0_12 := m_set_o hm_12 mo0_11 (by decide)
       have ml_12 := m_set_l hm_12 ml_11
       clear hm_12 mo3_11 mo2_11 mo1_11 mo0_11
       refine al_end (fun e_13 he_13 => ?_)
       have s1_13 := ef 1 he_13 (up_n (u4 rfl s1_7))
       have s2_13 := ef 2 he_13 (up_n (u4 rfl s2_7))
       have s6_13 := ef 6 he_13 (up_n up_h)
       clear he_13 s15_7 s1_7 s2_7 s5_7
       refine then_n ?_
       refine aw_seq ?_
       refine aw_seq ?_
       refine aw_text (by kernel_rfl) ?_
       refine al_ro' (ro_fld_ptr k40_fl24_1 rfl s1_13) trivial rfl ?_
       refine al_ro' (ro_eq (ro_ld_ptr k40_ty22 rfl mo0_12 up_h (by first | exact Nat.le_of_ble_eq_true rfl | omega | (simp only [lnS] <;> omega) | (simp <;> omega))) (by first | (simp only [packA_t, packA_f, iE, bE, setAt, cellsA, Value.cells, map_vc, map_vn, Nat.reduceAdd, qS, pE, one_pE, app_m] <;> rfl) | rfl)) trivial rfl ?_
       refine al_ro' (ro_call (evL_cons up_h evL_nil) rfl (backwardS_ok ps) k40_hcf90) trivial rfl ?_
       refine al_end (fun e_14 he_14 => ?_)
       have s2_14 := ef 2 he_14 (up_m rfl (u2 rfl s2_13))
       have s6_14 := ef 6 he_14 (up_m rfl (u2 rfl s6_13))
       have s23_14 := ef 23 he_14 up_h
       clear he_14 s1_13 s2_13 s6_13
       refine then_n ?_
       refine aw_block ?_
       refine aw_adoptC 66 4 1 mo3_12 rfl ml_12 (fun m0_15 m_15 h0_15 h1_15 => ?_)
       have mp4_15 := m_push h0_15 ml_12
       have mo4_15 := m_set_o h1_15 mp4_15 (by decide)
       have mp3_15 := m_push_o h0_15 mo3_12
       have mo3_15 := m_set h1_15 mp3_15
       simp only [List.set_cons_zero, List.set_cons_succ] at mo3_15
       have mp2_15 := m_push_o h0_15 mo2_12
       have mo2_15 := m_set_o h1_15 mp2_15 (by decide)
       have mp1_15 := m_push_o h0_15 mo1_12
       have mo1_15 := m_set_o h1_15 mp1_15 (by decide)
       have mp0_15 := m_push_o h0_15 mo0_12
       have mo0_15 := m_set_o h1_15 mp0_15 (by decide)
       have mq_15 := m_push_l h0_15 ml_12
       have ml_15 : _ = 5 := m_set_l h1_15 mq_15
       clear h0_15 h1_15 mq_15 mp4_15 mp3_15 mp2_15 mp1_15 mp0_15
       refine aw_range2 s23_14 (backward1_gen ps (by omega)) k40_hcf101 (by exact bkY_two) ⟨Nat.le_of_ble_eq_true rfl, Nat.le_of_ble_eq_true rfl⟩ (fun i mem => ∃ s : (Nat × List Piece), match s with | ⟨k, xs⟩ => (mem[3]? = some (.box 24 [.v (.string nm), .own k])) ∧ (mem[k]? = some (.row 66 4 (xs.map pE))) ∧ (mem[2]? = m_15[2]?) ∧ (mem[1]? = m_15[1]?) ∧ (mem[0]? = m_15[0]?) ∧ (∃ n, mem.length = n ∧ 5 ≤ n) ∧ ((4 ≤ k ∧ xs = (rvP ps).take i))) ⟨⟨_, []⟩, mo3_15, mo4_15, rfl, rfl, rfl, ⟨_, ml_15, by omega⟩, ?_⟩ ?_ ?_
       · (exact ⟨by omega, by simp⟩)
       · rintro i_16 y0_16 y1_16 m_16 hy_16 ⟨⟨k, xs⟩, mo3_16, mok_16, mk2_16, mk1_16, mk0_16, ⟨n_16, ml_16, hn_16⟩, hinv⟩
         have jlk_16 := m_lt mok_16 ml_16
         (obtain ⟨p1, p2⟩ := hinv; obtain ⟨s1, rfl, rfl⟩ := bkY_of hy_16; have hpa := hR.1.at (ps.length - 1 - i_16); have hxl : xs.length ≤ 1000 := (by rw [p2]; have := List.length_take_le' i_16 (rvP ps); have := rvP_len ps; omega))
         have mo2_16 := mk2_16.trans mo2_15
         have mo1_16 := mk1_16.trans mo1_15
         have mo0_16 := mk0_16.trans mo0_15
         refine aw_env (fun e_16 he_16 => ?_)
         have s2_16 := ef 2 he_16 (u2 rfl s2_14)
         have s6_16 := ef 6 he_16 (u2 rfl s6_14)
         have s23_16 := ef 23 he_16 (u2 rfl s23_14)
         have s24_16 := ef 24 he_16 (up_m rfl up_h)
         have s25_16 := ef 25 he_16 up_h
         clear he_16
         refine aw_text (by kernel_rfl) ?_
         refine al_stm (st_alloc k40_az66 rfl ml_16) trivial rfl (fun m_17 hm_17 => ?_)
         have mon_16_17 := m_push hm_17 ml_16
         (try simp only [packA_t, packA_f, iE, bE, setAt, cellsA, Value.cells, map_vc, map_vn, Nat.reduceAdd, qS, pE, one_pE, app_m] at mon_16_17)
         have mo3_17 := m_push_o hm_17 mo3_16
         have mok_17 := m_push_o hm_17 mok_16
         have mo2_17 := m_push_o hm_17 mo2_16
         have mo1_17 := m_push_o hm_17 mo1_16
         have mo0_17 := m_push_o hm_17 mo0_16
         have ml_17 := m_push_l hm_17 ml_16
         clear hm_17 mo3_16 mok_16 mo2_16 mo1_16 mo0_16
         refine al_stm (st_store up_h (up_m rfl s25_16) rfl rfl mon_16_17 k40_sz66 rfl (by first | exact Nat.le_of_ble_eq_true rfl | omega | (simp only [lnS] <;> omega) | (simp <;> omega))) trivial rfl (fun m_18 hm_18 => ?_)
         have mon_16_18 := m_set hm_18 mon_16_17
         (try simp only [packA_t, packA_f, iE, bE, setAt, cellsA, Value.cells, map_vc, map_vn, Nat.reduceAdd, qS, pE, one_pE, app_m] at mon_16_18)
         have mo3_18 := m_set_o hm_18 mo3_17 (by omega)
         have mok_18 := m_set_o hm_18 mok_17 (by omega)
         have mo2_18 := m_set_o hm_18 mo2_17 (by omega)
         have mo1_18 := m_set_o hm_18 mo1_17 (by omega)
         have mo0_18 := m_set_o hm_18 mo0_17 (by omega)
         have ml_18 := m_set_l hm_18 ml_17
         clear hm_18 mon_16_17 mo3_17 mok_17 mo2_17 mo1_17 mo0_17
         refine al_end (fun e_19 he_19 => ?_)
         have s2_19 := ef 2 he_19 (up_n (up_m rfl s2_16))
         have s6_19 := ef 6 he_19 (up_n (up_m rfl s6_16))
         have s8_19 := ef 8 he_19 (up_n up_h)
         clear he_19 s23_16 s24_16 s25_16 s2_16 s6_16
         refine fallb_n ?_
         refine aw_block ?_
         refine aw_seq ?_
         refine aw_text (by kernel_rfl) ?_
         refine al_ro' (ro_fld_ptr k40_fl66_1 rfl s8_19) trivial rfl ?_
         refine al_ro' (ro_eq (ro_ld_ptr k40_ty3 rfl mon_16_18 up_h (by first | exact Nat.le_of_ble_eq_true rfl | omega | (simp only [lnS] <;> omega) | (simp <;> omega))) (by first | (simp only [packA_t, packA_f, iE, bE, setAt, cellsA, Value.cells, map_vc, map_vn, Nat.reduceAdd, qS, pE, one_pE, app_m] <;> rfl) | rfl)) trivial rfl ?_
         first | (refine al_ro' (ro_mul' up_h ev_c ?_) trivial rfl ?_; · (unfold In64; omega)) | refine al_ro' (ro_mul up_h ev_c) trivial rfl ?_
         refine al_ro' (ro_fld_ptr k40_fl66_1 rfl (up_m rfl (u2 rfl s8_19))) trivial rfl ?_
         refine al_stm (st_store up_h (up_m rfl up_h) rfl rfl mon_16_18 k40_sz3 rfl (by first | exact Nat.le_of_ble_eq_true rfl | omega | (simp only [lnS] <;> omega) | (simp <;> omega))) trivial rfl (fun m_20 hm_20 => ?_)
         have mon_16_20 := m_set hm_20 mon_16_18
         (try simp only [packA_t, packA_f, iE, bE, setAt, cellsA, Value.cells, map_vc, map_vn, Nat.reduceAdd, qS, pE, one_pE, app_m] at mon_16_20)
         have mo3_20 := m_set_o hm_20 mo3_18 (by omega)
         have mok_20 := m_set_o hm_20 mok_18 (by omega)
         have mo2_20 := m_set_o hm_20 mo2_18 (by omega)
         have mo1_20 := m_set_o hm_20 mo1_18 (by omega)
         have mo0_20 := m_set_o hm_20 mo0_18 (by omega)
         have ml_20 := m_set_l hm_20 ml_18
         clear hm_20 mon_16_18 mo3_18 mok_18 mo2_18 mo1_18 mo0_18
         refine al_end (fun e_21 he_21 => ?_)
         have s2_21 := ef 2 he_21 (up_n (u4 rfl s2_19))
         have s6_21 := ef 6 he_21 (up_n (u4 rfl s6_19))
         have s8_21 := ef 8 he_21 (up_n (u4 rfl s8_19))
         clear he_21 s2_19 s6_19 s8_19
         refine then_n ?_
         refine aw_text (by kernel_rfl) ?_
         refine al_ro' (ro_fld_ptr k40_fl24_1 rfl s6_21) trivial rfl ?_
         refine al_ro' (ro_eq (ro_ld_ptr k40_ty22 rfl mo3_20 up_h (by first | exact Nat.le_of_ble_eq_true rfl | omega | (simp only [lnS] <;> omega) | (simp <;> omega))) (by first | (simp only [packA_t, packA_f, iE, bE, setAt, cellsA, Value.cells, map_vc, map_vn, Nat.reduceAdd, qS, pE, one_pE, app_m] <;> rfl) | rfl)) trivial rfl ?_
         refine al_ro' (ro_eq (ro_ld_ptr k40_ty66 rfl mon_16_20 (u2 rfl s8_21) (by first | exact Nat.le_of_ble_eq_true rfl | omega | (simp only [lnS] <;> omega) | (simp <;> omega))) (by first | (simp only [packA_t, packA_f, iE, bE, setAt, cellsA, Value.cells, map_vc, map_vn, Nat.reduceAdd, qS, pE, one_pE, app_m] <;> rfl) | rfl)) trivial rfl ?_
         refine al_ro' (ro_lit k40_sl22 (evP_cons up_h evP_nil) rfl rfl rfl rfl) trivial rfl ?_
         refine al_stm (st_app k40_sl22 rfl ml_20 mok_20 (u2 rfl up_h) up_h (by first | rfl | (simp [oneA]; done)) (by first | omega | (simp only [lnS] <;> omega) | (simp <;> omega))) trivial rfl (fun m_22 hm_22 => ?_)
         have mon_16_1_22 := m_swap hm_22 ml_20
         (try simp only [packA_t, packA_f, iE, bE, setAt, cellsA, Value.cells, map_vc, map_vn, Nat.reduceAdd, qS, pE, one_pE, app_m] at mon_16_1_22)
         have mon_16_22 := m_swap_o hm_22 mon_16_20 (by omega)
         have mo3_22 := m_swap_o hm_22 mo3_20 (by omega)
         have mo2_22 := m_swap_o hm_22 mo2_20 (by omega)
         have mo1_22 := m_swap_o hm_22 mo1_20 (by omega)
         have mo0_22 := m_swap_o hm_22 mo0_20 (by omega)
         have ml_22 := m_swap_l hm_22 ml_20
         clear hm_22 mon_16_20 mo3_20 mok_20 mo2_20 mo1_20 mo0_20
         refine al_ro' (ro_fld_ptr k40_fl24_1 rfl (up_m rfl (u4 rfl s6_21))) trivial rfl ?_
         refine al_stm (st_store_own up_h (up_m rfl up_h) mo3_22 mon_16_1_22 k40_sz22 (by first | exact Nat.le_of_ble_eq_true rfl | omega | (simp only [lnS] <;> omega) | (simp <;> omega))) trivial rfl (fun m_23 hm_23 => ?_)
         have mo3_23 := m_set hm_23 mo3_22
         (try simp only [packA_t, packA_f, iE, bE, setAt, cellsA, Value.cells, map_vc, map_vn, Nat.reduceAdd, qS, pE, one_pE, app_m] at mo3_23)
         have mon_16_1_23 := m_set_o hm_23 mon_16_1_22 (by omega)
         have mon_16_23 := m_set_o hm_23 mon_16_22 (by omega)
         have mo2_23 := m_set_o hm_23 mo2_22 (by decide)
         have mo1_23 := m_set_o hm_23 mo1_22 (by decide)
         have mo0_23 := m_set_o hm_23 mo0_22 (by decide)
         have ml_23 := m_set_l hm_23 ml_22
         clear hm_23 mon_16_1_22 mon_16_22 mo3_22 mo2_22 mo1_22 mo0_22
         refine al_end (fun e_24 he_24 => ?_)
         have s2_24 := ef 2 he_24 (up_n (u2 rfl (u4 rfl s2_21)))
         have s6_24 := ef 6 he_24 (up_n (u2 rfl (u4 rfl s6_21)))
         clear he_24 s2_21 s6_21 s8_21
         refine block_n ?_
         refine rnd_n ⟨⟨_, _⟩, mo3_23, mon_16_1_23, (mo2_23.trans mo2_15.symm), (mo1_23.trans mo1_15.symm), (mo0_23.trans mo0_15.symm), ⟨_, ml_23, by omega⟩, ?_⟩
         (refine ⟨by omega, ?_⟩; rw [p2, rvP_take s1, flipP]; simp)
       · rintro m_16 ⟨⟨k, xs⟩, mo3_16, mok_16, mk2_16, mk1_16, mk0_16, ⟨n_16, ml_16, hn_16⟩, hinv⟩
         have mo2_16 := mk2_16.trans mo2_15
         have mo1_16 := mk1_16.trans mo1_15
         have mo0_16 := mk0_16.trans mo0_15
         (obtain ⟨p1, p2⟩ := hinv)
         refine block_n ?_
         refine then_n ?_
         refine aw_seq ?_
         refine aw_text (by kernel_rfl) ?_
         refine al_ro' (ro_eq (ro_ld_ptr k40_ty24 rfl mo3_16 s6_14 (by first | exact Nat.le_of_ble_eq_true rfl | omega | (simp only [lnS] <;> omega) | (simp <;> omega))) (by first | (simp only [packA_t, packA_f, iE, bE, setAt, cellsA, Value.cells, map_vc, map_vn, Nat.reduceAdd, qS, pE, one_pE, app_m] <;> rfl) | rfl)) trivial rfl ?_
         refine al_stm (st_storeO (up_m rfl s2_14) up_h rfl (oneL_c rfl (oneL_o mok_16 oneL_nil)) mo1_16 k40_sz24 rfl (by first | exact Nat.le_of_ble_eq_true rfl | omega | (simp only [lnS] <;> omega) | (simp <;> omega))) trivial rfl (fun m_25 hm_25 => ?_)
         have mo1_25 := m_set hm_25 mo1_16
         (try simp only [packA_t, packA_f, iE, bE, setAt, cellsA, Value.cells, map_vc, map_vn, Nat.reduceAdd, qS, pE, one_pE, app_m] at mo1_25)
         have mo3_25 := m_set_o hm_25 mo3_16 (by decide)
         have mok_25 := m_set_o hm_25 mok_16 (by omega)
         have mo2_25 := m_set_o hm_25 mo2_16 (by decide)
         have mo0_25 := m_set_o hm_25 mo0_16 (by decide)
         have ml_25 := m_set_l hm_25 ml_16
         clear hm_25 mo3_16 mok_16 mo2_16 mo1_16 mo0_16
         refine al_ro' (ro_assign ev_c) trivial rfl ?_
         refine al_end (fun e_26 he_26 => ?_)
         have s2_26 := ef 2 he_26 (up_m rfl (up_n (up_m rfl s2_14)))
         have s3_26 := ef 3 he_26 up_h
         clear he_26 s23_14 s2_14 s6_14
         refine then_n ?_
         refine aw_ret ?_
         refine ret2 (.inr rfl) (by kernel_rfl) (resV_cell s2_26 mo1_25 k40_ty24 (by first | exact Nat.le_of_ble_eq_true rfl | omega | (simp only [lnS] <;> omega) | (simp <;> omega)) (by simp)) (resV_tmp s3_26) (vw_r (vw_agg (vwl_cons (.ro _ rfl) (vwl_cons (.own _ _ _ _ mok_25) vwl_nil)))) (.ro _ rfl) ?_
         clear s2_26 s3_26 mo1_25 mo3_25 mok_25 mo2_25 mo0_25 ml_25
         (rw [hz, if_pos rfl, if_pos rfl]; rw [p2, List.take_of_length_le (by rw [rvP_len, bkY_len]; exact Nat.le_refl _)]))
set_option maxRecDepth 100000 in
set_option maxHeartbeats 4000000 in
theorem rReversed_ok (nm : ByteArray) (ps : List Piece) (hok : Ok ps) (hp : ps.length ≤ 1000) : FnOk Try.prog 54 [trA nm ps] (fun q => q = trA nm (rvP ps)) := by
  refine fnOk_of (fn := Try.f54) 33 (by kernel_rfl) rfl (by kernel_rfl) (Nat.le_of_ble_eq_true rfl) ?_
  intro e_0 m_0 hA hm_0
  have s0_0 : evA e_0 (.tmp 0) = _ := hA 0 _ rfl
  have ml_0 : m_0.length = 0 := by rw [hm_0]; rfl
  clear hA hm_0
  refine aw_seq ?_
  refine aw_text (by kernel_rfl) ?_
  refine al_stm (st_box s0_0 rfl ml_0) trivial rfl (fun m_1 hm_1 => ?_)
  have mo0_1 := m_push hm_1 ml_0
  (try simp only [packA_t, packA_f, iE, bE, setAt, cellsA, Value.cells, map_vc, map_vn, Nat.reduceAdd, qS, pE, one_pE, app_m] at mo0_1)
  have ml_1 := m_push_l hm_1 ml_0
  have ml_1 : _ = 1 := ml_1
  clear hm_1
  refine al_stm (st_alloc k40_az24 rfl ml_1) trivial rfl (fun m_2 hm_2 => ?_)
  have mo1_2 := m_push hm_2 ml_1
  (try simp only [packA_t, packA_f, iE, bE, setAt, cellsA, Value.cells, map_vc, map_vn, Nat.reduceAdd, qS, pE, one_pE, app_m] at mo1_2)
  have mo0_2 := m_push_o hm_2 mo0_1
  have ml_2 := m_push_l hm_2 ml_1
  have ml_2 : _ = 2 := ml_2
  clear hm_2 mo0_1
  refine al_end (fun e_3 he_3 => ?_)
  have s1_3 := ef 1 he_3 (up_m rfl up_h)
  have s2_3 := ef 2 he_3 up_h
  clear he_3 s0_0
  refine then_n ?_
  refine aw_seq ?_
  refine aw_text (by kernel_rfl) ?_
  refine al_ro' (ro_fld_ptr k40_fl24_0 rfl s1_3) trivial rfl ?_
  refine al_ro' (ro_eq (ro_ld_ptr k40_ty9 rfl mo0_2 up_h (by first | exact Nat.le_of_ble_eq_true rfl | omega | (simp only [lnS] <;> omega) | (simp <;> omega))) (by first | (simp only [packA_t, packA_f, iE, bE, setAt, cellsA, Value.cells, map_vc, map_vn, Nat.reduceAdd, qS, pE, one_pE, app_m] <;> rfl) | rfl)) trivial rfl ?_
  refine al_ro' (ro_build (evP_cons up_h evP_nil) k40_bz24 k40_bu24 k40_bp24 rfl) trivial rfl ?_
  refine al_stm (st_alloc k40_az24 rfl ml_2) trivial rfl (fun m_4 hm_4 => ?_)
  have mo2_4 := m_push hm_4 ml_2
  (try simp only [packA_t, packA_f, iE, bE, setAt, cellsA, Value.cells, map_vc, map_vn, Nat.reduceAdd, qS, pE, one_pE, app_m] at mo2_4)
  have mo1_4 := m_push_o hm_4 mo1_2
  have mo0_4 := m_push_o hm_4 mo0_2
  have ml_4 := m_push_l hm_4 ml_2
  have ml_4 : _ = 3 := ml_4
  clear hm_4 mo1_2 mo0_2
  refine al_stm (st_store up_h (up_m rfl up_h) rfl rfl mo2_4 k40_sz24 rfl (by first | exact Nat.le_of_ble_eq_true rfl | omega | (simp only [lnS] <;> omega) | (simp <;> omega))) trivial rfl (fun m_5 hm_5 => ?_)
  have mo2_5 := m_set hm_5 mo2_4
  (try simp only [packA_t, packA_f, iE, bE, setAt, cellsA, Value.cells, map_vc, map_vn, Nat.reduceAdd, qS, pE, one_pE, app_m] at mo2_5)
  have mo1_5 := m_set_o hm_5 mo1_4 (by decide)
  have mo0_5 := m_set_o hm_5 mo0_4 (by decide)
  have ml_5 := m_set_l hm_5 ml_4
  clear hm_5 mo2_4 mo1_4 mo0_4
  refine al_end (fun e_6 he_6 => ?_)
  have s1_6 := ef 1 he_6 (up_n (u4 rfl s1_3))
  have s2_6 := ef 2 he_6 (up_n (u4 rfl s2_3))
  have s3_6 := ef 3 he_6 (up_n up_h)
  clear he_6 s1_3 s2_3
  refine then_n ?_
  refine aw_seq ?_
  refine aw_seq ?_
  refine aw_text (by kernel_rfl) ?_
  refine al_ro' (ro_fld_ptr k40_fl24_1 rfl s1_6) trivial rfl ?_
  refine al_ro' (ro_eq (ro_ld_ptr k40_ty22 rfl mo0_5 up_h (by first | exact Nat.le_of_ble_eq_true rfl | omega | (simp only [lnS] <;> omega) | (simp <;> omega))) (by first | (simp only [packA_t, packA_f, iE, bE, setAt, cellsA, Value.cells, map_vc, map_vn, Nat.reduceAdd, qS, pE, one_pE, app_m] <;> rfl) | rfl)) trivial rfl ?_
  refine al_ro' (ro_eq (ro_len_row up_h rfl k40_sl22.1) (by first | (simp only [lnS] <;> rfl) | rfl)) trivial rfl ?_
  first | (refine al_ro' (ro_sub' up_h ev_c ?_) trivial rfl ?_; · (unfold In64; omega)) | refine al_ro' (ro_sub up_h ev_c) trivial rfl ?_
  refine al_ro' (ro_assign up_h) trivial rfl ?_
  refine al_end (fun e_7 he_7 => ?_)
  have s1_7 := ef 1 he_7 (up_m rfl (u4 rfl s1_6))
  have s2_7 := ef 2 he_7 (up_m rfl (u4 rfl s2_6))
  have s3_7 := ef 3 he_7 (up_m rfl (u4 rfl s3_6))
  have s4_7 := ef 4 he_7 up_h
  clear he_7 s1_6 s2_6 s3_6
  refine then_n ?_
  refine aw_block ?_
  refine aw_adoptC 66 4 1 mo2_5 rfl ml_5 (fun m0_8 m_8 h0_8 h1_8 => ?_)
  have mp3_8 := m_push h0_8 ml_5
  have mo3_8 := m_set_o h1_8 mp3_8 (by decide)
  have mp2_8 := m_push_o h0_8 mo2_5
  have mo2_8 := m_set h1_8 mp2_8
  simp only [List.set_cons_zero, List.set_cons_succ] at mo2_8
  have mp1_8 := m_push_o h0_8 mo1_5
  have mo1_8 := m_set_o h1_8 mp1_8 (by decide)
  have mp0_8 := m_push_o h0_8 mo0_5
  have mo0_8 := m_set_o h1_8 mp0_8 (by decide)
  have mq_8 := m_push_l h0_8 ml_5
  have ml_8 : _ = 4 := m_set_l h1_8 mq_8
  clear h0_8 h1_8 mq_8 mp3_8 mp2_8 mp1_8 mp0_8
  refine aw_loop (S := (Int × Nat × List Piece)) (fun s e mem => match s with | ⟨i, k, xs⟩ => (evA e (.tmp 4) = .v (.int .i64 i)) ∧ (evA e (.tmp 1) = evA e_7 (.tmp 1)) ∧ (evA e (.tmp 2) = evA e_7 (.tmp 2)) ∧ (evA e (.tmp 3) = evA e_7 (.tmp 3)) ∧ (mem[2]? = some (.box 24 [.v (.string nm), .own k])) ∧ (mem[k]? = some (.row 66 4 (xs.map pE))) ∧ (mem[1]? = m_8[1]?) ∧ (mem[0]? = m_8[0]?) ∧ (∃ n, mem.length = n ∧ 4 ≤ n) ∧ ((-1 ≤ i ∧ i < ps.length ∧ 3 ≤ k ∧ xs = (rvP ps).take (ps.length - 1 - i).toNat))) (fun s => match s with | ⟨i, k, xs⟩ => (i + 1).toNat) ⟨_, _, []⟩ ⟨s4_7, rfl, rfl, rfl, mo2_8, mo3_8, rfl, rfl, ⟨_, ml_8, Nat.le_refl _⟩, ?_⟩ ?_
  · (exact ⟨by omega, by omega, by omega, by rw [show (ps.length - 1 - ((ps.length : Int) - 1)).toNat = 0 by omega]; rfl⟩)
  · rintro ⟨i, k, xs⟩ e_9 m_9 ⟨s4_9, k1_9, k2_9, k3_9, mo2_9, mok_9, mk1_9, mk0_9, ⟨n_9, ml_9, hn_9⟩, hinv⟩
    have s1_9 := k1_9.trans s1_7
    have s2_9 := k2_9.trans s2_7
    have s3_9 := k3_9.trans s3_7
    have mo1_9 := mk1_9.trans mo1_8
    have mo0_9 := mk0_9.trans mo0_8
    have jlk_9 := m_lt mok_9 ml_9
    (obtain ⟨p1, p2, p3, p4⟩ := hinv; have hpa := hok.at i.toNat; have hxl : xs.length ≤ 1000 := (by rw [p4]; have := List.length_take_le' (ps.length - 1 - i).toNat (rvP ps); have := rvP_len ps; omega))
    refine aw_seq ?_
    refine aw_seq ?_
    refine aw_text (by kernel_rfl) ?_
    refine al_ro' (ro_move s4_9) trivial rfl ?_
    refine al_ro' (ro_geq up_h ev_c) trivial rfl ?_
    refine al_end (fun e_10 he_10 => ?_)
    have s1_10 := ef 1 he_10 (u2 rfl s1_9)
    have s2_10 := ef 2 he_10 (u2 rfl s2_9)
    have s3_10 := ef 3 he_10 (u2 rfl s3_9)
    have s4_10 := ef 4 he_10 (u2 rfl s4_9)
    have s14_10 := ef 14 he_10 up_h
    clear he_10 s1_9 s2_9 s3_9 s4_9
    refine then_n ?_
    refine aw_case s14_10 (fun hq_11 => ?_) (fun hq_11 => ?_)
    · (first | replace hq_11 := bnt hq_11 | replace hq_11 := bnf hq_11 | replace hq_11 := bt hq_11 | replace hq_11 := bf hq_11 | replace hq_11 := bt' hq_11 | replace hq_11 := bf' hq_11 | skip)
      first
      | (cases hq_11; done) | (exfalso; omega)
      | (
         refine aw_skip ?_
         refine then_n ?_
         refine aw_seq ?_
         refine aw_block ?_
         refine aw_seq ?_
         refine aw_text (by kernel_rfl) ?_
         refine al_ro' (ro_fld_ptr k40_fl24_1 rfl s1_10) trivial rfl ?_
         refine al_ro' (ro_eq (ro_ld_ptr k40_ty22 rfl mo0_9 up_h (by first | exact Nat.le_of_ble_eq_true rfl | omega | (simp only [lnS] <;> omega) | (simp <;> omega))) (by first | (simp only [packA_t, packA_f, iE, bE, setAt, cellsA, Value.cells, map_vc, map_vn, Nat.reduceAdd, qS, pE, one_pE, app_m] <;> rfl) | rfl)) trivial rfl ?_
         refine al_ro' (ro_move (u2 rfl s4_10)) trivial rfl ?_
         refine al_ro' (ro_eq (ro_ix k40_sl22 (up_m rfl up_h) up_h (by first | decide | omega | (simp <;> omega)) (by first | (refine idx_map ?_; first | omega | (simp only [lnS]; omega)) | (refine idx_mapI ?_; first | omega | (simp only [lnS]; omega)) | (refine idx_mapN ?_; first | omega | (simp only [lnS]; omega)) | rfl)) (by first | (simp only [packA_t, packA_f, iE, bE, setAt, cellsA, Value.cells, map_vc, map_vn, Nat.reduceAdd, qS, pE, one_pE, app_m] <;> rfl) | rfl)) trivial rfl ?_
         refine al_ro' (ro_eq (ro_ld_ref k40_ty66 rfl up_h (by first | exact Nat.le_of_ble_eq_true rfl | omega | (simp only [lnS] <;> omega) | (simp <;> omega))) (by first | (simp only [packA_t, packA_f, iE, bE, setAt, cellsA, Value.cells, map_vc, map_vn, Nat.reduceAdd, qS, pE, one_pE, app_m] <;> rfl) | rfl)) trivial rfl ?_
         refine al_stm (st_alloc k40_az66 rfl ml_9) trivial rfl (fun m_12 hm_12 => ?_)
         have mon_9_12 := m_push hm_12 ml_9
         (try simp only [packA_t, packA_f, iE, bE, setAt, cellsA, Value.cells, map_vc, map_vn, Nat.reduceAdd, qS, pE, one_pE, app_m] at mon_9_12)
         have mo2_12 := m_push_o hm_12 mo2_9
         have mok_12 := m_push_o hm_12 mok_9
         have mo1_12 := m_push_o hm_12 mo1_9
         have mo0_12 := m_push_o hm_12 mo0_9
         have ml_12 := m_push_l hm_12 ml_9
         clear hm_12 mo2_9 mok_9 mo1_9 mo0_9
         refine al_stm (st_store up_h (up_m rfl up_h) rfl rfl mon_9_12 k40_sz66 rfl (by first | exact Nat.le_of_ble_eq_true rfl | omega | (simp only [lnS] <;> omega) | (simp <;> omega))) trivial rfl (fun m_13 hm_13 => ?_)
         have mon_9_13 := m_set hm_13 mon_9_12
         (try simp only [packA_t, packA_f, iE, bE, setAt, cellsA, Value.cells, map_vc, map_vn, Nat.reduceAdd, qS, pE, one_pE, app_m] at mon_9_13)
         have mo2_13 := m_set_o hm_13 mo2_12 (by omega)
         have mok_13 := m_set_o hm_13 mok_12 (by omega)
         have mo1_13 := m_set_o hm_13 mo1_12 (by omega)
         have mo0_13 := m_set_o hm_13 mo0_12 (by omega)
         have ml_13 := m_set_l hm_13 ml_12
         clear hm_13 mon_9_12 mo2_12 mok_12 mo1_12 mo0_12
         refine al_end (fun e_14 he_14 => ?_)
         have s1_14 := ef 1 he_14 (up_n (u2 rfl (u4 rfl s1_10)))
         have s2_14 := ef 2 he_14 (up_n (u2 rfl (u4 rfl s2_10)))
         have s3_14 := ef 3 he_14 (up_n (u2 rfl (u4 rfl s3_10)))
         have s4_14 := ef 4 he_14 (up_n (u2 rfl (u4 rfl s4_10)))
         have s5_14 := ef 5 he_14 (up_n up_h)
         clear he_14 s14_10 s1_10 s2_10 s3_10 s4_10
         refine then_n ?_
         refine aw_seq ?_
         refine aw_text (by kernel_rfl) ?_
         refine al_ro' (ro_fld_ptr k40_fl66_1 rfl s5_14) trivial rfl ?_
         refine al_ro' (ro_eq (ro_ld_ptr k40_ty3 rfl mon_9_13 up_h (by first | exact Nat.le_of_ble_eq_true rfl | omega | (simp only [lnS] <;> omega) | (simp <;> omega))) (by first | (simp only [packA_t, packA_f, iE, bE, setAt, cellsA, Value.cells, map_vc, map_vn, Nat.reduceAdd, qS, pE, one_pE, app_m] <;> rfl) | rfl)) trivial rfl ?_
         first | (refine al_ro' (ro_neg' up_h ?_) trivial rfl ?_; · (unfold In64; omega)) | refine al_ro' (ro_neg up_h) trivial rfl ?_
         refine al_ro' (ro_fld_ptr k40_fl66_1 rfl (up_m rfl (u2 rfl s5_14))) trivial rfl ?_
         refine al_stm (st_store up_h (up_m rfl up_h) rfl rfl mon_9_13 k40_sz3 rfl (by first | exact Nat.le_of_ble_eq_true rfl | omega | (simp only [lnS] <;> omega) | (simp <;> omega))) trivial rfl (fun m_15 hm_15 => ?_)
         have mon_9_15 := m_set hm_15 mon_9_13
         (try simp only [packA_t, packA_f, iE, bE, setAt, cellsA, Value.cells, map_vc, map_vn, Nat.reduceAdd, qS, pE, one_pE, app_m] at mon_9_15)
         have mo2_15 := m_set_o hm_15 mo2_13 (by omega)
         have mok_15 := m_set_o hm_15 mok_13 (by omega)
         have mo1_15 := m_set_o hm_15 mo1_13 (by omega)
         have mo0_15 := m_set_o hm_15 mo0_13 (by omega)
         have ml_15 := m_set_l hm_15 ml_13
         clear hm_15 mon_9_13 mo2_13 mok_13 mo1_13 mo0_13
         refine al_end (fun e_16 he_16 => ?_)
         have s1_16 := ef 1 he_16 (up_n (u4 rfl s1_14))
         have s2_16 := ef 2 he_16 (up_n (u4 rfl s2_14))
         have s3_16 := ef 3 he_16 (up_n (u4 rfl s3_14))
         have s4_16 := ef 4 he_16 (up_n (u4 rfl s4_14))
         have s5_16 := ef 5 he_16 (up_n (u4 rfl s5_14))
         clear he_16 s1_14 s2_14 s3_14 s4_14 s5_14
         refine then_n ?_
         refine aw_text (by kernel_rfl) ?_
         refine al_ro' (ro_fld_ptr k40_fl24_1 rfl s3_16) trivial rfl ?_
         refine al_ro' (ro_eq (ro_ld_ptr k40_ty22 rfl mo2_15 up_h (by first | exact Nat.le_of_ble_eq_true rfl | omega | (simp only [lnS] <;> omega) | (simp <;> omega))) (by first | (simp only [packA_t, packA_f, iE, bE, setAt, cellsA, Value.cells, map_vc, map_vn, Nat.reduceAdd, qS, pE, one_pE, app_m] <;> rfl) | rfl)) trivial rfl ?_
         refine al_ro' (ro_eq (ro_ld_ptr k40_ty66 rfl mon_9_15 (u2 rfl s5_16) (by first | exact Nat.le_of_ble_eq_true rfl | omega | (simp only [lnS] <;> omega) | (simp <;> omega))) (by first | (simp only [packA_t, packA_f, iE, bE, setAt, cellsA, Value.cells, map_vc, map_vn, Nat.reduceAdd, qS, pE, one_pE, app_m] <;> rfl) | rfl)) trivial rfl ?_
         refine al_ro' (ro_lit k40_sl22 (evP_cons up_h evP_nil) rfl rfl rfl rfl) trivial rfl ?_
         refine al_stm (st_app k40_sl22 rfl ml_15 mok_15 (u2 rfl up_h) up_h (by first | rfl | (simp [oneA]; done)) (by first | omega | (simp only [lnS] <;> omega) | (simp <;> omega))) trivial rfl (fun m_17 hm_17 => ?_)
         have mon_9_1_17 := m_swap hm_17 ml_15
         (try simp only [packA_t, packA_f, iE, bE, setAt, cellsA, Value.cells, map_vc, map_vn, Nat.reduceAdd, qS, pE, one_pE, app_m] at mon_9_1_17)
         have mon_9_17 := m_swap_o hm_17 mon_9_15 (by omega)
         have mo2_17 := m_swap_o hm_17 mo2_15 (by omega)
         have mo1_17 := m_swap_o hm_17 mo1_15 (by omega)
         have mo0_17 := m_swap_o hm_17 mo0_15 (by omega)
         have ml_17 := m_swap_l hm_17 ml_15
         clear hm_17 mon_9_15 mo2_15 mok_15 mo1_15 mo0_15
         refine al_ro' (ro_fld_ptr k40_fl24_1 rfl (up_m rfl (u4 rfl s3_16))) trivial rfl ?_
         refine al_stm (st_store_own up_h (up_m rfl up_h) mo2_17 mon_9_1_17 k40_sz22 (by first | exact Nat.le_of_ble_eq_true rfl | omega | (simp only [lnS] <;> omega) | (simp <;> omega))) trivial rfl (fun m_18 hm_18 => ?_)
         have mo2_18 := m_set hm_18 mo2_17
         (try simp only [packA_t, packA_f, iE, bE, setAt, cellsA, Value.cells, map_vc, map_vn, Nat.reduceAdd, qS, pE, one_pE, app_m] at mo2_18)
         have mon_9_1_18 := m_set_o hm_18 mon_9_1_17 (by omega)
         have mon_9_18 := m_set_o hm_18 mon_9_17 (by omega)
         have mo1_18 := m_set_o hm_18 mo1_17 (by decide)
         have mo0_18 := m_set_o hm_18 mo0_17 (by decide)
         have ml_18 := m_set_l hm_18 ml_17
         clear hm_18 mon_9_1_17 mon_9_17 mo2_17 mo1_17 mo0_17
         refine al_end (fun e_19 he_19 => ?_)
         have s1_19 := ef 1 he_19 (up_n (u2 rfl (u4 rfl s1_16)))
         have s2_19 := ef 2 he_19 (up_n (u2 rfl (u4 rfl s2_16)))
         have s3_19 := ef 3 he_19 (up_n (u2 rfl (u4 rfl s3_16)))
         have s4_19 := ef 4 he_19 (up_n (u2 rfl (u4 rfl s4_16)))
         clear he_19 s1_16 s2_16 s3_16 s4_16 s5_16
         refine block_n ?_
         refine then_n ?_
         refine aw_text (by kernel_rfl) ?_
         refine al_ro' (ro_move s4_19) trivial rfl ?_
         first | (refine al_ro' (ro_sub' up_h ev_c ?_) trivial rfl ?_; · (unfold In64; omega)) | refine al_ro' (ro_sub up_h ev_c) trivial rfl ?_
         refine al_ro' (ro_assign up_h) trivial rfl ?_
         refine al_end (fun e_20 he_20 => ?_)
         have s1_20 := ef 1 he_20 (up_m rfl (u2 rfl s1_19))
         have s2_20 := ef 2 he_20 (up_m rfl (u2 rfl s2_19))
         have s3_20 := ef 3 he_20 (up_m rfl (u2 rfl s3_19))
         have s4_20 := ef 4 he_20 up_h
         clear he_20 s1_19 s2_19 s3_19 s4_19
         refine then_n ?_
         refine ⟨⟨_, _, _⟩, ⟨s4_20, (s1_20.trans s1_7.symm), (s2_20.trans s2_7.symm), (s3_20.trans s3_7.symm), mo2_18, mon_9_1_18, (mo1_18.trans mo1_8.symm), (mo0_18.trans mo0_8.symm), ⟨_, ml_18, by omega⟩, ?_⟩, ?_⟩
         · (refine ⟨by omega, by omega, by omega, ?_⟩; rw [p4, show ((ps.length : Int) - 1 - (i - 1)).toNat = ((ps.length : Int) - 1 - i).toNat + 1 by omega, rvP_take (by omega), show ps.length - 1 - ((ps.length : Int) - 1 - i).toNat = i.toNat by omega]; rfl)
         · ((try dsimp only); omega))
    · (first | replace hq_11 := bnt hq_11 | replace hq_11 := bnf hq_11 | replace hq_11 := bt hq_11 | replace hq_11 := bf hq_11 | replace hq_11 := bt' hq_11 | replace hq_11 := bf' hq_11 | skip)
      first
      | (cases hq_11; done) | (exfalso; omega)
      | (
         refine aw_exit ?_
         refine then_x ?_
         refine then_x ?_
         refine block_hit ?_
         refine then_n ?_
         refine aw_seq ?_
         refine aw_text (by kernel_rfl) ?_
         refine al_ro' (ro_eq (ro_ld_ptr k40_ty24 rfl mo2_9 s3_10 (by first | exact Nat.le_of_ble_eq_true rfl | omega | (simp only [lnS] <;> omega) | (simp <;> omega))) (by first | (simp only [packA_t, packA_f, iE, bE, setAt, cellsA, Value.cells, map_vc, map_vn, Nat.reduceAdd, qS, pE, one_pE, app_m] <;> rfl) | rfl)) trivial rfl ?_
         refine al_stm (st_storeO (up_m rfl s2_10) up_h rfl (oneL_c rfl (oneL_o mok_9 oneL_nil)) mo1_9 k40_sz24 rfl (by first | exact Nat.le_of_ble_eq_true rfl | omega | (simp only [lnS] <;> omega) | (simp <;> omega))) trivial rfl (fun m_21 hm_21 => ?_)
         have mo1_21 := m_set hm_21 mo1_9
         (try simp only [packA_t, packA_f, iE, bE, setAt, cellsA, Value.cells, map_vc, map_vn, Nat.reduceAdd, qS, pE, one_pE, app_m] at mo1_21)
         have mo2_21 := m_set_o hm_21 mo2_9 (by decide)
         have mok_21 := m_set_o hm_21 mok_9 (by omega)
         have mo0_21 := m_set_o hm_21 mo0_9 (by decide)
         have ml_21 := m_set_l hm_21 ml_9
         clear hm_21 mo2_9 mok_9 mo1_9 mo0_9
         refine al_end (fun e_22 he_22 => ?_)
         have s2_22 := ef 2 he_22 (up_n (up_m rfl s2_10))
         clear he_22 s14_10 s1_10 s2_10 s3_10 s4_10
         refine then_n ?_
         refine aw_ret ?_
         refine ret1 (.inr rfl) (by kernel_rfl) (resV_cell s2_22 mo1_21 k40_ty24 (by first | exact Nat.le_of_ble_eq_true rfl | omega | (simp only [lnS] <;> omega) | (simp <;> omega)) (by simp)) (vw_r (vw_agg (vwl_cons (.ro _ rfl) (vwl_cons (.own _ _ _ _ mok_21) vwl_nil)))) ?_
         clear s2_22 mo1_21 mo2_21 mok_21 mo0_21 ml_21
         (rw [p4, show i = -1 by omega, List.take_of_length_le (by rw [rvP_len]; omega)]))
instance pieceEq : DecidableEq Piece := fun a b => if h : a.len = b.len ∧ a.grad = b.grad ∧ a.lim = b.lim ∧ a.leave = b.leave then .isTrue (by cases a; cases b; simp_all) else .isFalse (fun e => h (by subst e; exact ⟨rfl, rfl, rfl, rfl⟩))
def samB (na : ByteArray) (ps : List Piece) (nb : ByteArray) (qs : List Piece) : Bool := (na.toList == nb.toList) && decide (ps = qs)
theorem list_ext_getD {xs ys : List Piece} (hl : xs.length = ys.length) (h : ∀ j : Nat, j < xs.length → xs.getD j default = ys.getD j default) : xs = ys := by
  apply List.ext_getElem hl
  intro j h1 h2
  have := h j h1
  simpa [List.getD_eq_getElem?_getD, h1, h2] using this
def pieB (p q : Piece) : Bool := decide (p.len = q.len) && (decide (p.grad = q.grad) && (decide (p.lim = q.lim) && ((p.leave == q.leave) && true)))
theorem sam_piece {p q : Piece} (h : pieB p q = true) : p = q := by
  unfold pieB at h
  simp only [Bool.and_eq_true, decide_eq_true_eq, beq_iff_eq, Bool.and_true] at h
  obtain ⟨h1, h2, h3, h4⟩ := h
  cases p; cases q; simp_all
theorem dif_piece {p q : Piece} (h : pieB p q = false) : p ≠ q := by
  rintro rfl
  unfold pieB at h
  simp at h
set_option maxRecDepth 100000 in
set_option maxHeartbeats 4000000 in
theorem rSame_ok (na : ByteArray) (ps : List Piece) (nb : ByteArray) (qs : List Piece) (hp : ps.length ≤ 1000000) (hq : qs.length ≤ 1000000) : FnOk Try.prog 53 [trA na ps, trA nb qs] (fun q => q = bA (samB na ps nb qs)) := by
  refine fnOk_of (fn := Try.f53) 38 (by kernel_rfl) rfl (by kernel_rfl) (Nat.le_of_ble_eq_true rfl) ?_
  intro e_0 m_0 hA hm_0
  have s0_0 : evA e_0 (.tmp 0) = _ := hA 0 _ rfl
  have s1_0 : evA e_0 (.tmp 1) = _ := hA 1 _ rfl
  have ml_0 : m_0.length = 0 := by rw [hm_0]; rfl
  clear hA hm_0
  refine aw_seq ?_
  refine aw_text (by kernel_rfl) ?_
  refine al_stm (st_box s0_0 rfl ml_0) trivial rfl (fun m_1 hm_1 => ?_)
  have mo0_1 := m_push hm_1 ml_0
  (try simp only [packA_t, packA_f, iE, bE, setAt, cellsA, Value.cells, map_vc, map_vn, Nat.reduceAdd, qS, pE] at mo0_1)
  have ml_1 := m_push_l hm_1 ml_0
  have ml_1 : _ = 1 := ml_1
  clear hm_1
  refine al_stm (st_box (up_m rfl s1_0) rfl ml_1) trivial rfl (fun m_2 hm_2 => ?_)
  have mo1_2 := m_push hm_2 ml_1
  (try simp only [packA_t, packA_f, iE, bE, setAt, cellsA, Value.cells, map_vc, map_vn, Nat.reduceAdd, qS, pE] at mo1_2)
  have mo0_2 := m_push_o hm_2 mo0_1
  have ml_2 := m_push_l hm_2 ml_1
  have ml_2 : _ = 2 := ml_2
  clear hm_2 mo0_1
  refine al_ro' (ro_assign ev_c) trivial rfl ?_
  refine al_end (fun e_3 he_3 => ?_)
  have s2_3 := ef 2 he_3 (u2 rfl up_h)
  have s3_3 := ef 3 he_3 (up_m rfl up_h)
  clear he_3 s0_0 s1_0
  refine then_n ?_
  refine aw_seq ?_
  refine aw_seq ?_
  refine aw_text (by kernel_rfl) ?_
  refine al_ro' (ro_fld_ptr k40_fl24_0 rfl s2_3) trivial rfl ?_
  refine al_ro' (ro_eq (ro_ld_ptr k40_ty9 rfl mo0_2 up_h (by first | exact Nat.le_of_ble_eq_true rfl | omega | (simp only [lnS] <;> omega) | (simp <;> omega))) (by first | (simp only [packA_t, packA_f, iE, bE, setAt, cellsA, Value.cells, map_vc, map_vn, Nat.reduceAdd, qS, pE] <;> rfl) | rfl)) trivial rfl ?_
  refine al_ro' (ro_fld_ptr k40_fl24_0 rfl (u2 rfl s3_3)) trivial rfl ?_
  refine al_ro' (ro_eq (ro_ld_ptr k40_ty9 rfl mo1_2 up_h (by first | exact Nat.le_of_ble_eq_true rfl | omega | (simp only [lnS] <;> omega) | (simp <;> omega))) (by first | (simp only [packA_t, packA_f, iE, bE, setAt, cellsA, Value.cells, map_vc, map_vn, Nat.reduceAdd, qS, pE] <;> rfl) | rfl)) trivial rfl ?_
  refine al_ro' (ro_sneq (u2 rfl up_h) up_h) trivial rfl ?_
  refine al_ro' (ro_move up_h) trivial rfl ?_
  refine al_case up_h (fun hb_4 hq_4 => ?_) (fun hb_4 hq_4 => ?_)
  · (first | replace hq_4 := bnt hq_4 | replace hq_4 := bnf hq_4 | replace hq_4 := bt hq_4 | replace hq_4 := bf hq_4 | replace hq_4 := bt' hq_4 | replace hq_4 := bf' hq_4 | skip)
    first
    | (cases hq_4; done) | (exfalso; omega)
    | (
       refine al_skip' ⟨_, rfl, .inl hb_4⟩ rfl ?_
       refine al_skip' ⟨_, rfl, .inl (up_m rfl hb_4)⟩ rfl ?_
       refine al_skip' ⟨_, rfl, .inl (u2 rfl hb_4)⟩ rfl ?_
       refine al_skip' ⟨_, rfl, .inl (up_m rfl (u2 rfl hb_4))⟩ rfl ?_
       refine al_skip' ⟨_, rfl, .inl (u4 rfl hb_4)⟩ rfl ?_
       refine al_skip' ⟨_, rfl, .inl (up_m rfl (u4 rfl hb_4))⟩ rfl ?_
       refine al_skip' ⟨_, rfl, .inl (u2 rfl (u4 rfl hb_4))⟩ rfl ?_
       refine al_ro' (ro_pickT (up_m rfl (u2 rfl (u4 rfl hb_4))) ev_c) trivial rfl ?_
       refine al_end (fun e_5 he_5 => ?_)
       have s2_5 := ef 2 he_5 (u2 rfl (u4 rfl (u8 rfl s2_3)))
       have s3_5 := ef 3 he_5 (u2 rfl (u4 rfl (u8 rfl s3_3)))
       have s19_5 := ef 19 he_5 up_h
       clear he_5 hb_4 s2_3 s3_3
       refine then_n ?_
       refine aw_true s19_5 ?_
       refine aw_seq ?_
       refine aw_text (by kernel_rfl) ?_
       refine al_ro' (ro_assign ev_c) trivial rfl ?_
       refine al_end (fun e_7 he_7 => ?_)
       have s4_7 := ef 4 he_7 up_h
       clear he_7 s19_5 s2_5 s3_5
       refine then_n ?_
       refine aw_ret ?_
       refine then_r ?_
       refine ret1 (.inr rfl) (by kernel_rfl) (resV_tmp s4_7) (.ro _ rfl) ?_
       clear s4_7 mo1_2 mo0_2 ml_2
       (first | (unfold samB; rw [‹(na.toList == nb.toList) = false›]; rfl) | (unfold samB; rw [decide_eq_false (by rintro rfl; omega), Bool.and_false]) | (unfold samB; rw [decide_eq_false (by rintro rfl; exact dif_piece (by assumption) rfl), Bool.and_false])))
  · (first | replace hq_4 := bnt hq_4 | replace hq_4 := bnf hq_4 | replace hq_4 := bt hq_4 | replace hq_4 := bf hq_4 | replace hq_4 := bt' hq_4 | replace hq_4 := bf' hq_4 | skip)
    first
    | (cases hq_4; done) | (exfalso; omega)
    | (
       refine al_ro' (ro_fld_ptr k40_fl24_1 rfl (u2 rfl (u4 rfl s2_3))) ⟨_, rfl, hb_4⟩ rfl ?_
       refine al_ro' (ro_eq (ro_ld_ptr k40_ty22 rfl mo0_2 up_h (by first | exact Nat.le_of_ble_eq_true rfl | omega | (simp only [lnS] <;> omega) | (simp <;> omega))) (by first | (simp only [packA_t, packA_f, iE, bE, setAt, cellsA, Value.cells, map_vc, map_vn, Nat.reduceAdd, qS, pE] <;> rfl) | rfl)) ⟨_, rfl, (up_m rfl hb_4)⟩ rfl ?_
       refine al_ro' (ro_eq (ro_len_row up_h rfl k40_sl22.1) (by first | (simp only [lnS] <;> rfl) | rfl)) ⟨_, rfl, (u2 rfl hb_4)⟩ rfl ?_
       refine al_ro' (ro_fld_ptr k40_fl24_1 rfl (up_m rfl (u8 rfl s3_3))) ⟨_, rfl, (up_m rfl (u2 rfl hb_4))⟩ rfl ?_
       refine al_ro' (ro_eq (ro_ld_ptr k40_ty22 rfl mo1_2 up_h (by first | exact Nat.le_of_ble_eq_true rfl | omega | (simp only [lnS] <;> omega) | (simp <;> omega))) (by first | (simp only [packA_t, packA_f, iE, bE, setAt, cellsA, Value.cells, map_vc, map_vn, Nat.reduceAdd, qS, pE] <;> rfl) | rfl)) ⟨_, rfl, (u4 rfl hb_4)⟩ rfl ?_
       refine al_ro' (ro_eq (ro_len_row up_h rfl k40_sl22.1) (by first | (simp only [lnS] <;> rfl) | rfl)) ⟨_, rfl, (up_m rfl (u4 rfl hb_4))⟩ rfl ?_
       refine al_ro' (ro_neq (up_m rfl (u2 rfl up_h)) up_h) ⟨_, rfl, (u2 rfl (u4 rfl hb_4))⟩ rfl ?_
       refine al_ro' (ro_pickF (up_m rfl (u2 rfl (u4 rfl hb_4))) up_h) trivial rfl ?_
       refine al_end (fun e_8 he_8 => ?_)
       have s2_8 := ef 2 he_8 (u2 rfl (u4 rfl (u8 rfl s2_3)))
       have s3_8 := ef 3 he_8 (u2 rfl (u4 rfl (u8 rfl s3_3)))
       have s19_8 := ef 19 he_8 up_h
       clear he_8 hb_4 s2_3 s3_3
       refine then_n ?_
       refine aw_case s19_8 (fun hq_9 => ?_) (fun hq_9 => ?_)
       · (first | replace hq_9 := bnt hq_9 | replace hq_9 := bnf hq_9 | replace hq_9 := bt hq_9 | replace hq_9 := bf hq_9 | replace hq_9 := bt' hq_9 | replace hq_9 := bf' hq_9 | skip)
         first
         | (cases hq_9; done) | (exfalso; omega)
         | (
            refine aw_seq ?_
            refine aw_text (by kernel_rfl) ?_
            refine al_ro' (ro_assign ev_c) trivial rfl ?_
            refine al_end (fun e_10 he_10 => ?_)
            have s4_10 := ef 4 he_10 up_h
            clear he_10 s19_8 s2_8 s3_8
            refine then_n ?_
            refine aw_ret ?_
            refine then_r ?_
            refine ret1 (.inr rfl) (by kernel_rfl) (resV_tmp s4_10) (.ro _ rfl) ?_
            clear s4_10 mo1_2 mo0_2 ml_2
            (first | (unfold samB; rw [‹(na.toList == nb.toList) = false›]; rfl) | (unfold samB; rw [decide_eq_false (by rintro rfl; omega), Bool.and_false]) | (unfold samB; rw [decide_eq_false (by rintro rfl; exact dif_piece (by assumption) rfl), Bool.and_false])))
       · (first | replace hq_9 := bnt hq_9 | replace hq_9 := bnf hq_9 | replace hq_9 := bt hq_9 | replace hq_9 := bf hq_9 | replace hq_9 := bt' hq_9 | replace hq_9 := bf' hq_9 | skip)
         first
         | (cases hq_9; done) | (exfalso; omega)
         | (
            refine aw_skip ?_
            refine then_n ?_
            refine aw_seq ?_
            refine aw_seq ?_
            refine aw_text (by kernel_rfl) ?_
            refine al_ro' (ro_assign ev_c) trivial rfl ?_
            refine al_end (fun e_11 he_11 => ?_)
            have s2_11 := ef 2 he_11 (up_m rfl s2_8)
            have s3_11 := ef 3 he_11 (up_m rfl s3_8)
            have s5_11 := ef 5 he_11 up_h
            clear he_11 s19_8 s2_8 s3_8
            refine then_n ?_
            refine aw_block ?_
            refine aw_loop (S := Int) (fun i e mem => (evA e (.tmp 5) = .v (.int .i64 i)) ∧ (evA e (.tmp 2) = evA e_11 (.tmp 2)) ∧ (evA e (.tmp 3) = evA e_11 (.tmp 3)) ∧ (mem[1]? = m_2[1]?) ∧ (mem[0]? = m_2[0]?) ∧ (mem.length = 2) ∧ ((0 ≤ i ∧ i ≤ ps.length ∧ ∀ j : Nat, j < i.toNat → ps.getD j default = qs.getD j default))) (fun i => (ps.length - i).toNat) _ ⟨s5_11, rfl, rfl, rfl, rfl, ml_2, ?_⟩ ?_
            · (exact ⟨by omega, by omega, fun j h => absurd h (by omega)⟩)
            · rintro i e_12 m_12 ⟨s5_12, k2_12, k3_12, mk1_12, mk0_12, ml_12, hinv⟩
              have s2_12 := k2_12.trans s2_11
              have s3_12 := k3_12.trans s3_11
              have mo1_12 := mk1_12.trans mo1_2
              have mo0_12 := mk0_12.trans mo0_2
              (obtain ⟨p1, p2, p3⟩ := hinv)
              refine aw_seq ?_
              refine aw_seq ?_
              refine aw_text (by kernel_rfl) ?_
              refine al_ro' (ro_move s5_12) trivial rfl ?_
              refine al_ro' (ro_fld_ptr k40_fl24_1 rfl (up_m rfl s2_12)) trivial rfl ?_
              refine al_ro' (ro_eq (ro_ld_ptr k40_ty22 rfl mo0_12 up_h (by first | exact Nat.le_of_ble_eq_true rfl | omega | (simp only [lnS] <;> omega) | (simp <;> omega))) (by first | (simp only [packA_t, packA_f, iE, bE, setAt, cellsA, Value.cells, map_vc, map_vn, Nat.reduceAdd, qS, pE] <;> rfl) | rfl)) trivial rfl ?_
              refine al_ro' (ro_eq (ro_len_row up_h rfl k40_sl22.1) (by first | (simp only [lnS] <;> rfl) | rfl)) trivial rfl ?_
              refine al_ro' (ro_lss (up_m rfl (u2 rfl up_h)) up_h) trivial rfl ?_
              refine al_end (fun e_13 he_13 => ?_)
              have s2_13 := ef 2 he_13 (up_m rfl (u4 rfl s2_12))
              have s3_13 := ef 3 he_13 (up_m rfl (u4 rfl s3_12))
              have s5_13 := ef 5 he_13 (up_m rfl (u4 rfl s5_12))
              have s24_13 := ef 24 he_13 up_h
              clear he_13 s2_12 s3_12 s5_12
              refine then_n ?_
              refine aw_case s24_13 (fun hq_14 => ?_) (fun hq_14 => ?_)
              · (first | replace hq_14 := bnt hq_14 | replace hq_14 := bnf hq_14 | replace hq_14 := bt hq_14 | replace hq_14 := bf hq_14 | replace hq_14 := bt' hq_14 | replace hq_14 := bf' hq_14 | skip)
                first
                | (cases hq_14; done) | (exfalso; omega)
                | (
                   refine aw_skip ?_
                   refine then_n ?_
                   refine aw_seq ?_
                   refine aw_block ?_
                   refine aw_seq ?_
                   refine aw_draw 11 (by kernel_rfl) (by kernel_rfl) (by kernel_rfl) (by kernel_rfl) ?_
                   refine ds_ro' (ro_fld_ptr k40_fl24_1 rfl s2_13) trivial rfl ?_
                   refine ds_ro' (ro_eq (ro_ld_ptr k40_ty22 rfl mo0_12 up_h (by first | exact Nat.le_of_ble_eq_true rfl | omega | (simp only [lnS] <;> omega) | (simp <;> omega))) (by first | (simp only [packA_t, packA_f, iE, bE, setAt, cellsA, Value.cells, map_vc, map_vn, Nat.reduceAdd, qS, pE] <;> rfl) | rfl)) trivial rfl ?_
                   refine ds_ro' (ro_move (u2 rfl s5_13)) trivial rfl ?_
                   refine ds_ro' (ro_eq (ro_ix k40_sl22 (up_m rfl up_h) up_h (by first | decide | omega | (simp <;> omega)) (by first | (refine idx_map ?_; first | omega | (simp only [lnS]; omega)) | (refine idx_mapI ?_; first | omega | (simp only [lnS]; omega)) | (refine idx_mapN ?_; first | omega | (simp only [lnS]; omega)) | rfl)) (by first | (simp only [packA_t, packA_f, iE, bE, setAt, cellsA, Value.cells, map_vc, map_vn, Nat.reduceAdd, qS, pE] <;> rfl) | rfl)) trivial rfl ?_
                   refine ds_ro' (ro_eq (ro_ld_ref k40_ty66 rfl up_h (by first | exact Nat.le_of_ble_eq_true rfl | omega | (simp only [lnS] <;> omega) | (simp <;> omega))) (by first | (simp only [packA_t, packA_f, iE, bE, setAt, cellsA, Value.cells, map_vc, map_vn, Nat.reduceAdd, qS, pE] <;> rfl) | rfl)) trivial rfl ?_
                   refine ds_ro' (ro_fld_ptr k40_fl24_1 rfl (up_m rfl (u4 rfl s3_13))) trivial rfl ?_
                   refine ds_ro' (ro_eq (ro_ld_ptr k40_ty22 rfl mo1_12 up_h (by first | exact Nat.le_of_ble_eq_true rfl | omega | (simp only [lnS] <;> omega) | (simp <;> omega))) (by first | (simp only [packA_t, packA_f, iE, bE, setAt, cellsA, Value.cells, map_vc, map_vn, Nat.reduceAdd, qS, pE] <;> rfl) | rfl)) trivial rfl ?_
                   refine ds_ro' (ro_move (up_m rfl (u2 rfl (u4 rfl s5_13)))) trivial rfl ?_
                   refine ds_ro' (ro_eq (ro_ix k40_sl22 (up_m rfl up_h) up_h (by first | decide | omega | (simp <;> omega)) (by first | (refine idx_map ?_; first | omega | (simp only [lnS]; omega)) | (refine idx_mapI ?_; first | omega | (simp only [lnS]; omega)) | (refine idx_mapN ?_; first | omega | (simp only [lnS]; omega)) | rfl)) (by first | (simp only [packA_t, packA_f, iE, bE, setAt, cellsA, Value.cells, map_vc, map_vn, Nat.reduceAdd, qS, pE] <;> rfl) | rfl)) trivial rfl ?_
                   refine ds_ro' (ro_eq (ro_ld_ref k40_ty66 rfl up_h (by first | exact Nat.le_of_ble_eq_true rfl | omega | (simp only [lnS] <;> omega) | (simp <;> omega))) (by first | (simp only [packA_t, packA_f, iE, bE, setAt, cellsA, Value.cells, map_vc, map_vn, Nat.reduceAdd, qS, pE] <;> rfl) | rfl)) trivial rfl ?_
                   refine ds_ro' (ro_sqneq (up_m rfl (u4 rfl up_h)) up_h rfl rfl k40_gq66 k40_sq66 (by decide)) trivial rfl ?_
                   refine ds_nil ?_
                   refine al_end (fun e_15 he_15 => ?_)
                   have s2_15 := ef 2 he_15 (up_m rfl (u2 rfl (u8 rfl s2_13)))
                   have s3_15 := ef 3 he_15 (up_m rfl (u2 rfl (u8 rfl s3_13)))
                   have s5_15 := ef 5 he_15 (up_m rfl (u2 rfl (u8 rfl s5_13)))
                   have s37_15 := ef 37 he_15 up_h
                   clear he_15 s24_13 s2_13 s3_13 s5_13
                   refine then_n ?_
                   refine aw_case s37_15 (fun hq_16 => ?_) (fun hq_16 => ?_)
                   · (first | replace hq_16 := bnt hq_16 | replace hq_16 := bnf hq_16 | replace hq_16 := bt hq_16 | replace hq_16 := bf hq_16 | replace hq_16 := bt' hq_16 | replace hq_16 := bf' hq_16 | skip)
                     first
                     | (cases hq_16; done) | (exfalso; omega)
                     | (
                        refine aw_seq ?_
                        refine aw_text (by kernel_rfl) ?_
                        refine al_ro' (ro_assign ev_c) trivial rfl ?_
                        refine al_end (fun e_17 he_17 => ?_)
                        have s4_17 := ef 4 he_17 up_h
                        clear he_17 s2_15 s37_15 s3_15 s5_15
                        refine then_n ?_
                        refine aw_ret ?_
                        refine block_r ?_
                        refine then_r ?_
                        refine then_r ?_
                        refine block_r ?_
                        refine then_r ?_
                        refine ret1 (.inr rfl) (by kernel_rfl) (resV_tmp s4_17) (.ro _ rfl) ?_
                        clear s4_17 mo1_12 mo0_12 ml_12
                        (first | (unfold samB; rw [‹(na.toList == nb.toList) = false›]; rfl) | (unfold samB; rw [decide_eq_false (by rintro rfl; omega), Bool.and_false]) | (unfold samB; rw [decide_eq_false (by rintro rfl; exact dif_piece (by assumption) rfl), Bool.and_false])))
                   · (first | replace hq_16 := bnt hq_16 | replace hq_16 := bnf hq_16 | replace hq_16 := bt hq_16 | replace hq_16 := bf hq_16 | replace hq_16 := bt' hq_16 | replace hq_16 := bf' hq_16 | skip)
                     first
                     | (cases hq_16; done) | (exfalso; omega)
                     | (
                        refine aw_skip ?_
                        refine block_n ?_
                        refine then_n ?_
                        refine aw_text (by kernel_rfl) ?_
                        refine al_ro' (ro_move s5_15) trivial rfl ?_
                        first | (refine al_ro' (ro_add' up_h ev_c ?_) trivial rfl ?_; · (unfold In64; omega)) | refine al_ro' (ro_add up_h ev_c) trivial rfl ?_
                        refine al_ro' (ro_assign up_h) trivial rfl ?_
                        refine al_end (fun e_18 he_18 => ?_)
                        have s2_18 := ef 2 he_18 (up_m rfl (u2 rfl s2_15))
                        have s3_18 := ef 3 he_18 (up_m rfl (u2 rfl s3_15))
                        have s5_18 := ef 5 he_18 up_h
                        clear he_18 s2_15 s37_15 s3_15 s5_15
                        refine then_n ?_
                        refine ⟨_, ⟨s5_18, (s2_18.trans s2_11.symm), (s3_18.trans s3_11.symm), (mo1_12.trans mo1_2.symm), (mo0_12.trans mo0_2.symm), ml_12, ?_⟩, ?_⟩
                        · (refine ⟨by omega, by omega, fun j hj => ?_⟩; by_cases hji : j < i.toNat; (exact p3 j hji); (rw [show j = i.toNat by omega]; exact sam_piece (by assumption)))
                        · ((try dsimp only); omega)))
              · (first | replace hq_14 := bnt hq_14 | replace hq_14 := bnf hq_14 | replace hq_14 := bt hq_14 | replace hq_14 := bf hq_14 | replace hq_14 := bt' hq_14 | replace hq_14 := bf' hq_14 | skip)
                first
                | (cases hq_14; done) | (exfalso; omega)
                | (
                   refine aw_exit ?_
                   refine then_x ?_
                   refine then_x ?_
                   refine block_hit ?_
                   refine then_n ?_
                   refine aw_seq ?_
                   refine aw_text (by kernel_rfl) ?_
                   refine al_ro' (ro_assign ev_c) trivial rfl ?_
                   refine al_end (fun e_19 he_19 => ?_)
                   have s4_19 := ef 4 he_19 up_h
                   clear he_19 s24_13 s2_13 s3_13 s5_13
                   refine then_n ?_
                   refine aw_ret ?_
                   refine ret1 (.inr rfl) (by kernel_rfl) (resV_tmp s4_19) (.ro _ rfl) ?_
                   clear s4_19 mo1_12 mo0_12 ml_12
                   (unfold samB; rw [‹(na.toList == nb.toList) = true›, decide_eq_true (list_ext_getD (by omega) (fun j hj => p3 j (by omega)))]; rfl))))
end Go.Proofs.Ytelgkjekpcfffaa
