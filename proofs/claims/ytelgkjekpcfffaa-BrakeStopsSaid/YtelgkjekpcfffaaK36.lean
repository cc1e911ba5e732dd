/- Contracts of chapter 5: the document's StopsOf, GreatestAt, FirstUnsafe; the law on unsafe squares. No conditions on a program. -/
import Derived.Test.YtelgkjekpcfffaaK35
import Derived.Test.YtelgkjekpcfffaaK15
import Derived.Test.YtelgkjekpcfffaaK30
import Derived.Test.YtelgkjekpcfffaaK12
import Derived.Test.YtelgkjekpcfffaaK11
namespace Go.Proofs.Ytelgkjekpcfffaa
open Go Go.RowKit Go.Proofs
set_option linter.unusedSimpArgs false
set_option linter.unusedVariables false
theorem k36_fl24_1 : FldIs Try.prog 24 1 1 false 1 := by unfold FldIs; kernel_rfl
theorem k36_fl42_0 : FldIs Try.prog 42 0 0 false 1 := by unfold FldIs; kernel_rfl
theorem k36_fl66_3 : FldIs Try.prog 66 3 3 false 1 := by unfold FldIs; kernel_rfl
theorem k36_hcf27 : ∀ args w, (callFunc 27 args).run Try.prog w = .ok (.enter 27 args) w := fun _ _ => by kernel_rfl
theorem k36_hcf88 : ∀ args w, (callFunc 88 args).run Try.prog w = .ok (.enter 88 args) w := fun _ _ => by kernel_rfl
theorem k36_sl22 : SlIs Try.prog 22 66 4 32 (.agg #[.int .i64 0, .int .i64 0, .int .i64 0, .bool false]) := ⟨by kernel_rfl, by kernel_rfl, by kernel_rfl⟩
theorem k36_sl30 : SlIs Try.prog 30 3 1 8 (.int .i64 0) := ⟨by kernel_rfl, by kernel_rfl, by kernel_rfl⟩
theorem k36_ty22 : TyIs Try.prog 22 false 1 := ⟨by kernel_rfl, by kernel_rfl⟩
theorem k36_ty24 : TyIs Try.prog 24 true 2 := ⟨by kernel_rfl, by kernel_rfl⟩
theorem k36_ty26 : TyIs Try.prog 26 true 3 := ⟨by kernel_rfl, by kernel_rfl⟩
theorem k36_ty3 : TyIs Try.prog 3 false 1 := ⟨by kernel_rfl, by kernel_rfl⟩
theorem k36_ty4 : TyIs Try.prog 4 false 1 := ⟨by kernel_rfl, by kernel_rfl⟩
theorem k36_ty42 : TyIs Try.prog 42 true 2 := ⟨by kernel_rfl, by kernel_rfl⟩

set_option maxRecDepth 100000 in
set_option maxHeartbeats 4000000 in
theorem rReaches_ok (nm : ByteArray) (ps : List Piece) (hok : trackR ps) (b d v : Int) (hb : sysR b d v) (post sq stop : Int) (h0 : 0 ≤ post) (h1 : post ≤ stop) (h2 : stop < ps.length) (hsq : 0 ≤ sq ∧ sq ≤ 20000000000) :
    FnOk Try.prog 88 [trA nm ps, syA b d v, .agg [iA post, iA sq], iA stop] (fun q => q = bA (decide ((runW ps b d stop post sq).2 = 0))) := by
  refine fnOk_of (fn := Try.f88) 21 (by kernel_rfl) rfl (by kernel_rfl) (Nat.le_of_ble_eq_true rfl) ?_
  intro e_0 m_0 hA hm_0
  have s0_0 : evA e_0 (.tmp 0) = _ := hA 0 _ rfl
  have s1_0 : evA e_0 (.tmp 1) = _ := hA 1 _ rfl
  have s2_0 : evA e_0 (.tmp 2) = _ := hA 2 _ rfl
  have s3_0 : evA e_0 (.tmp 3) = _ := hA 3 _ rfl
  have ml_0 : m_0.length = 0 := by rw [hm_0]; rfl
  clear hA hm_0
  refine aw_seq ?_
  refine aw_text (by kernel_rfl) ?_
  refine al_stm (st_box s0_0 rfl ml_0) trivial rfl (fun m_1 hm_1 => ?_)
  have mo0_1 := m_push hm_1 ml_0
  (try simp only [packA_t, packA_f, iE, bE, setAt, cellsA, Value.cells, map_vc, map_vn, Nat.reduceAdd, qS] at mo0_1)
  have ml_1 := m_push_l hm_1 ml_0
  have ml_1 : _ = 1 := ml_1
  clear hm_1
  refine al_stm (st_box (up_m rfl s1_0) rfl ml_1) trivial rfl (fun m_2 hm_2 => ?_)
  have mo1_2 := m_push hm_2 ml_1
  (try simp only [packA_t, packA_f, iE, bE, setAt, cellsA, Value.cells, map_vc, map_vn, Nat.reduceAdd, qS] at mo1_2)
  have mo0_2 := m_push_o hm_2 mo0_1
  have ml_2 := m_push_l hm_2 ml_1
  have ml_2 : _ = 2 := ml_2
  clear hm_2 mo0_1
  refine al_stm (st_box (u2 rfl s2_0) rfl ml_2) trivial rfl (fun m_3 hm_3 => ?_)
  have mo2_3 := m_push hm_3 ml_2
  (try simp only [packA_t, packA_f, iE, bE, setAt, cellsA, Value.cells, map_vc, map_vn, Nat.reduceAdd, qS] at mo2_3)
  have mo1_3 := m_push_o hm_3 mo1_2
  have mo0_3 := m_push_o hm_3 mo0_2
  have ml_3 := m_push_l hm_3 ml_2
  have ml_3 : _ = 3 := ml_3
  clear hm_3 mo1_2 mo0_2
  refine al_ro' (ro_assign ev_c) trivial rfl ?_
  refine al_end (fun e_4 he_4 => ?_)
  have s3_4 := ef 3 he_4 (u4 rfl s3_0)
  have s4_4 := ef 4 he_4 (up_m rfl (u2 rfl up_h))
  have s5_4 := ef 5 he_4 (u2 rfl up_h)
  have s6_4 := ef 6 he_4 (up_m rfl up_h)
  clear he_4 s0_0 s1_0 s2_0 s3_0
  refine then_n ?_
  refine aw_seq ?_
  refine aw_text (by kernel_rfl) ?_
  refine al_ro' (ro_eq (ro_ld_ptr k36_ty24 rfl mo0_3 s4_4 (by first | exact Nat.le_of_ble_eq_true rfl | omega | (simp only [lnS] <;> omega) | (simp <;> omega))) (by first | (simp only [packA_t, packA_f, iE, bE, setAt, cellsA, Value.cells, map_vc, map_vn, Nat.reduceAdd, qS] <;> rfl) | rfl)) trivial rfl ?_
  refine al_ro' (ro_eq (ro_ld_ptr k36_ty26 rfl mo1_3 (up_m rfl s5_4) (by first | exact Nat.le_of_ble_eq_true rfl | omega | (simp only [lnS] <;> omega) | (simp <;> omega))) (by first | (simp only [packA_t, packA_f, iE, bE, setAt, cellsA, Value.cells, map_vc, map_vn, Nat.reduceAdd, qS] <;> rfl) | rfl)) trivial rfl ?_
  refine al_ro' (ro_eq (ro_ld_ptr k36_ty42 rfl mo2_3 (u2 rfl s6_4) (by first | exact Nat.le_of_ble_eq_true rfl | omega | (simp only [lnS] <;> omega) | (simp <;> omega))) (by first | (simp only [packA_t, packA_f, iE, bE, setAt, cellsA, Value.cells, map_vc, map_vn, Nat.reduceAdd, qS] <;> rfl) | rfl)) trivial rfl ?_
  refine al_ro' (ro_move (up_m rfl (u2 rfl s3_4))) trivial rfl ?_
  refine al_ro' (ro_call (evL_cons (up_m rfl (u2 rfl up_h)) (evL_cons (u2 rfl up_h) (evL_cons (up_m rfl up_h) (evL_cons up_h evL_nil)))) rfl (rRunTo_ok nm ps hok b d v hb post sq stop h0 h1 h2 hsq) k36_hcf27) trivial rfl ?_
  refine al_ro' (ro_move up_h) trivial rfl ?_
  refine al_ro' (ro_extract up_h rfl) trivial rfl ?_
  refine al_ro' (ro_extract (up_m rfl up_h) rfl) trivial rfl ?_
  refine al_ro' (ro_assign (up_m rfl up_h)) trivial rfl ?_
  refine al_ro' (ro_assign (up_m rfl up_h)) trivial rfl ?_
  refine al_end (fun e_5 he_5 => ?_)
  have s10_5 := ef 10 he_5 up_h
  clear he_5 s3_4 s4_4 s5_4 s6_4
  refine then_n ?_
  refine aw_seq ?_
  refine aw_text (by kernel_rfl) ?_
  refine al_ro' (ro_move s10_5) trivial rfl ?_
  refine al_ro' (ro_eql up_h ev_c) trivial rfl ?_
  refine al_ro' (ro_assign up_h) trivial rfl ?_
  refine al_end (fun e_6 he_6 => ?_)
  have s8_6 := ef 8 he_6 up_h
  clear he_6 s10_5
  refine then_n ?_
  refine aw_ret ?_
  refine ret1 (.inr rfl) (by kernel_rfl) (resV_tmp s8_6) (.ro _ rfl) ?_
  clear s8_6 mo2_3 mo1_3 mo0_3 ml_3
  rfl
def stP (ps : List Piece) (post k : Int) : List Nat := (List.range k.toNat).filter (stB ps post)
theorem stP_all (ps : List Piece) (post : Int) : stP ps post ps.length = stL ps post := by unfold stP stL; rw [show ((ps.length : Int)).toNat = ps.length by omega]
theorem stP_none {ps : List Piece} {post : Int} (h : 0 ≤ post) : stP ps post post = [] := by
  have : (stP ps post post).length = 0 := filt_none (fun j hj => by unfold stB; rw [decide_eq_false (by omega)]; rfl)
  exact List.eq_nil_of_length_eq_zero this
theorem stP_yes {ps : List Piece} {post k : Int} (h0 : 0 ≤ post ∧ post ≤ k) (hl : (ps.getD k.toNat default).leave = true) : stP ps post (k + 1) = stP ps post k ++ [k.toNat] := by
  unfold stP
  rw [show (k + 1).toNat = k.toNat + 1 by omega, List.range_succ, List.filter_append]
  have : stB ps post k.toNat = true := by unfold stB; rw [hl]; simp; omega
  simp [this]
theorem stP_no {ps : List Piece} {post k : Int} (h0 : 0 ≤ post ∧ post ≤ k) (hl : (ps.getD k.toNat default).leave = false) : stP ps post (k + 1) = stP ps post k := by
  unfold stP
  rw [show (k + 1).toNat = k.toNat + 1 by omega, List.range_succ, List.filter_append]
  have : stB ps post k.toNat = false := by unfold stB; rw [hl]; simp
  simp [this]
theorem rcP_snoc_yes {ps : List Piece} {b d post sq k : Int} {l : List Nat} (hk : 0 ≤ k) (hr : (runW ps b d k post sq).2 = 0) : rcP ps b d post sq (l ++ [k.toNat]) = rcP ps b d post sq l ++ [k] := by
  have e : ((k.toNat : Nat) : Int) = k := by omega
  unfold rcP
  simp [List.filter_append, e, hr]
theorem rcP_snoc_no {ps : List Piece} {b d post sq k : Int} {l : List Nat} (hk : 0 ≤ k) (hr : ¬ (runW ps b d k post sq).2 = 0) : rcP ps b d post sq (l ++ [k.toNat]) = rcP ps b d post sq l := by
  have e : ((k.toNat : Nat) : Int) = k := by omega
  unfold rcP
  simp [List.filter_append, e, hr]
theorem stP_len (ps : List Piece) (post k : Int) : (stP ps post k).length ≤ k.toNat := by
  unfold stP
  have := List.length_filter_le (stB ps post) (List.range k.toNat)
  simpa using this
set_option maxRecDepth 100000 in
set_option maxHeartbeats 4000000 in
theorem rStopsOf_ok (nm : ByteArray) (ps : List Piece) (hok : trackR ps) (b d v : Int) (hb : sysR b d v) (post sq : Int) (h0 : 0 ≤ post ∧ post ≤ ps.length) (hsq : 0 ≤ sq ∧ sq ≤ 20000000000) :
    FnOk Try.prog 46 [trA nm ps, syA b d v, .agg [iA post, iA sq]] (fun q => q = .row 1 ((rcW ps b d post sq).map iE)) := by
  obtain ⟨q1, q2, q3⟩ := id hok
  refine fnOk_of (fn := Try.f46) 36 (by kernel_rfl) rfl (by kernel_rfl) (Nat.le_of_ble_eq_true rfl) ?_
  intro e_0 m_0 hA hm_0
  have s0_0 : evA e_0 (.tmp 0) = _ := hA 0 _ rfl
  have s1_0 : evA e_0 (.tmp 1) = _ := hA 1 _ rfl
  have s2_0 : evA e_0 (.tmp 2) = _ := hA 2 _ rfl
  have ml_0 : m_0.length = 0 := by rw [hm_0]; rfl
  clear hA hm_0
  refine aw_seq ?_
  refine aw_text (by kernel_rfl) ?_
  refine al_stm (st_box s0_0 rfl ml_0) trivial rfl (fun m_1 hm_1 => ?_)
  have mo0_1 := m_push hm_1 ml_0
  (try simp only [packA_t, packA_f, iE, bE, setAt, cellsA, Value.cells, map_vc, map_vn, Nat.reduceAdd, qS, one_iE, app_m, pE] at mo0_1)
  have ml_1 := m_push_l hm_1 ml_0
  have ml_1 : _ = 1 := ml_1
  clear hm_1
  refine al_stm (st_box (up_m rfl s1_0) rfl ml_1) trivial rfl (fun m_2 hm_2 => ?_)
  have mo1_2 := m_push hm_2 ml_1
  (try simp only [packA_t, packA_f, iE, bE, setAt, cellsA, Value.cells, map_vc, map_vn, Nat.reduceAdd, qS, one_iE, app_m, pE] at mo1_2)
  have mo0_2 := m_push_o hm_2 mo0_1
  have ml_2 := m_push_l hm_2 ml_1
  have ml_2 : _ = 2 := ml_2
  clear hm_2 mo0_1
  refine al_stm (st_box (u2 rfl s2_0) rfl ml_2) trivial rfl (fun m_3 hm_3 => ?_)
  have mo2_3 := m_push hm_3 ml_2
  (try simp only [packA_t, packA_f, iE, bE, setAt, cellsA, Value.cells, map_vc, map_vn, Nat.reduceAdd, qS, one_iE, app_m, pE] at mo2_3)
  have mo1_3 := m_push_o hm_3 mo1_2
  have mo0_3 := m_push_o hm_3 mo0_2
  have ml_3 := m_push_l hm_3 ml_2
  have ml_3 : _ = 3 := ml_3
  clear hm_3 mo1_2 mo0_2
  refine al_ro' (ro_assign ev_c) trivial rfl ?_
  refine al_end (fun e_4 he_4 => ?_)
  have s3_4 := ef 3 he_4 (up_m rfl (u2 rfl up_h))
  have s4_4 := ef 4 he_4 (u2 rfl up_h)
  have s5_4 := ef 5 he_4 (up_m rfl up_h)
  clear he_4 s0_0 s1_0 s2_0
  refine then_n ?_
  refine aw_seq ?_
  refine aw_text (by kernel_rfl) ?_
  refine al_ro' (ro_assign ev_c) trivial rfl ?_
  refine al_end (fun e_5 he_5 => ?_)
  have s3_5 := ef 3 he_5 (up_m rfl s3_4)
  have s4_5 := ef 4 he_5 (up_m rfl s4_4)
  have s5_5 := ef 5 he_5 (up_m rfl s5_4)
  have s7_5 := ef 7 he_5 up_h
  clear he_5 s3_4 s4_4 s5_4
  refine then_n ?_
  refine aw_seq ?_
  refine aw_seq ?_
  refine aw_text (by kernel_rfl) ?_
  refine al_ro' (ro_fld_ptr k36_fl42_0 rfl s5_5) trivial rfl ?_
  refine al_ro' (ro_eq (ro_ld_ptr k36_ty3 rfl mo2_3 up_h (by first | exact Nat.le_of_ble_eq_true rfl | omega | (simp only [lnS] <;> omega) | (simp <;> omega))) (by first | (simp only [packA_t, packA_f, iE, bE, setAt, cellsA, Value.cells, map_vc, map_vn, Nat.reduceAdd, qS, one_iE, app_m, pE] <;> rfl) | rfl)) trivial rfl ?_
  refine al_ro' (ro_assign up_h) trivial rfl ?_
  refine al_end (fun e_6 he_6 => ?_)
  have s3_6 := ef 3 he_6 (up_m rfl (u2 rfl s3_5))
  have s4_6 := ef 4 he_6 (up_m rfl (u2 rfl s4_5))
  have s5_6 := ef 5 he_6 (up_m rfl (u2 rfl s5_5))
  have s7_6 := ef 7 he_6 (up_m rfl (u2 rfl s7_5))
  have s8_6 := ef 8 he_6 up_h
  clear he_6 s3_5 s4_5 s5_5 s7_5
  refine then_n ?_
  refine aw_block ?_
  refine aw_adopt 3 1 s7_6 ml_3 (fun m_7 e_7 hm_7 he_7 => ?_)
  have mo3_7 := m_push hm_7 ml_3
  have mo2_7 := m_push_o hm_7 mo2_3
  have mo1_7 := m_push_o hm_7 mo1_3
  have mo0_7 := m_push_o hm_7 mo0_3
  have ml_7 := m_push_l hm_7 ml_3
  have ml_7 : _ = 4 := ml_7
  have s3_7 : evA e_7 (.tmp 3) = _ := (congrArg (fun q => evA q (.tmp 3)) he_7).trans (up_m rfl s3_6)
  have s4_7 : evA e_7 (.tmp 4) = _ := (congrArg (fun q => evA q (.tmp 4)) he_7).trans (up_m rfl s4_6)
  have s5_7 : evA e_7 (.tmp 5) = _ := (congrArg (fun q => evA q (.tmp 5)) he_7).trans (up_m rfl s5_6)
  have s7_7 : evA e_7 (.tmp 7) = _ := (congrArg (fun q => evA q (.tmp 7)) he_7).trans up_h
  have s8_7 : evA e_7 (.tmp 8) = _ := (congrArg (fun q => evA q (.tmp 8)) he_7).trans (up_m rfl s8_6)
  clear hm_7 he_7
  refine aw_loop (S := (Int × List Int)) (fun s e mem => match s with | ⟨k, xs⟩ => (evA e (.tmp 8) = .v (.int .i64 k)) ∧ (evA e (.tmp 3) = evA e_7 (.tmp 3)) ∧ (evA e (.tmp 4) = evA e_7 (.tmp 4)) ∧ (evA e (.tmp 5) = evA e_7 (.tmp 5)) ∧ (mem[2]? = m_7[2]?) ∧ (mem[1]? = m_7[1]?) ∧ (mem[0]? = m_7[0]?) ∧ (∃ j, evA e (.tmp 7) = .own j ∧ mem[j]? = some (.row 3 1 (xs.map iE)) ∧ j ≠ 2 ∧ j ≠ 1 ∧ j ≠ 0) ∧ (∃ n, mem.length = n ∧ 4 ≤ n) ∧ ((post ≤ k ∧ k ≤ ps.length ∧ xs = rcP ps b d post sq (stP ps post k)))) (fun s => match s with | ⟨k, xs⟩ => (ps.length - k).toNat) ⟨_, []⟩ ⟨s8_7, rfl, rfl, rfl, rfl, rfl, rfl, ⟨_, s7_7, mo3_7, (by decide), (by decide), (by decide)⟩, ⟨_, ml_7, Nat.le_refl _⟩, ?_⟩ ?_
  · (exact ⟨by omega, by omega, by rw [stP_none h0.1]; rfl⟩)
  · rintro ⟨k, xs⟩ e_8 m_8 ⟨s8_8, k3_8, k4_8, k5_8, mk2_8, mk1_8, mk0_8, ⟨j7_8, s7_8, mo_j7_8, nj7_2_8, nj7_1_8, nj7_0_8⟩, ⟨n_8, ml_8, hn_8⟩, hinv⟩
    have s3_8 := k3_8.trans s3_7
    have s4_8 := k4_8.trans s4_7
    have s5_8 := k5_8.trans s5_7
    have mo2_8 := mk2_8.trans mo2_7
    have mo1_8 := mk1_8.trans mo1_7
    have mo0_8 := mk0_8.trans mo0_7
    have jl7_8 := m_lt mo_j7_8 ml_8
    (obtain ⟨p1, p2, p3⟩ := hinv; have hxl : xs.length ≤ 1000 := (by rw [p3]; have := rcP_len (ps := ps) (b := b) (d := d) (post := post) (sq := sq) (l := stP ps post k); have := stP_len ps post k; omega))
    refine aw_seq ?_
    refine aw_seq ?_
    refine aw_text (by kernel_rfl) ?_
    refine al_ro' (ro_move s8_8) trivial rfl ?_
    refine al_ro' (ro_fld_ptr k36_fl24_1 rfl (up_m rfl s3_8)) trivial rfl ?_
    refine al_ro' (ro_eq (ro_ld_ptr k36_ty22 rfl mo0_8 up_h (by first | exact Nat.le_of_ble_eq_true rfl | omega | (simp only [lnS] <;> omega) | (simp <;> omega))) (by first | (simp only [packA_t, packA_f, iE, bE, setAt, cellsA, Value.cells, map_vc, map_vn, Nat.reduceAdd, qS, one_iE, app_m, pE] <;> rfl) | rfl)) trivial rfl ?_
    refine al_ro' (ro_eq (ro_len_row up_h rfl k36_sl22.1) (by first | (simp only [lnS] <;> rfl) | rfl)) trivial rfl ?_
    refine al_ro' (ro_lss (up_m rfl (u2 rfl up_h)) up_h) trivial rfl ?_
    refine al_end (fun e_9 he_9 => ?_)
    have s3_9 := ef 3 he_9 (up_m rfl (u4 rfl s3_8))
    have s4_9 := ef 4 he_9 (up_m rfl (u4 rfl s4_8))
    have s5_9 := ef 5 he_9 (up_m rfl (u4 rfl s5_8))
    have s7_9 := ef 7 he_9 (up_m rfl (u4 rfl s7_8))
    have s8_9 := ef 8 he_9 (up_m rfl (u4 rfl s8_8))
    have s15_9 := ef 15 he_9 up_h
    clear he_9 s3_8 s4_8 s5_8 s7_8 s8_8
    refine then_n ?_
    refine aw_case s15_9 (fun hq_10 => ?_) (fun hq_10 => ?_)
    · (first | replace hq_10 := bnt hq_10 | replace hq_10 := bnf hq_10 | replace hq_10 := bt hq_10 | replace hq_10 := bf hq_10 | replace hq_10 := bt' hq_10 | replace hq_10 := bf' hq_10 | skip)
      first
      | (cases hq_10; done) | (exfalso; omega)
      | (
         refine aw_skip ?_
         refine then_n ?_
         refine aw_seq ?_
         refine aw_block ?_
         refine aw_seq ?_
         refine aw_text (by kernel_rfl) ?_
         refine al_ro' (ro_fld_ptr k36_fl24_1 rfl s3_9) trivial rfl ?_
         refine al_ro' (ro_eq (ro_ld_ptr k36_ty22 rfl mo0_8 up_h (by first | exact Nat.le_of_ble_eq_true rfl | omega | (simp only [lnS] <;> omega) | (simp <;> omega))) (by first | (simp only [packA_t, packA_f, iE, bE, setAt, cellsA, Value.cells, map_vc, map_vn, Nat.reduceAdd, qS, one_iE, app_m, pE] <;> rfl) | rfl)) trivial rfl ?_
         refine al_ro' (ro_move (u2 rfl s8_9)) trivial rfl ?_
         refine al_ro' (ro_eq (ro_ix k36_sl22 (up_m rfl up_h) up_h (by first | decide | omega | (simp <;> omega)) (by first | (refine idx_map ?_; first | omega | (simp only [lnS]; omega)) | (refine idx_mapI ?_; first | omega | (simp only [lnS]; omega)) | (refine idx_mapN ?_; first | omega | (simp only [lnS]; omega)) | rfl)) (by first | (simp only [packA_t, packA_f, iE, bE, setAt, cellsA, Value.cells, map_vc, map_vn, Nat.reduceAdd, qS, one_iE, app_m, pE] <;> rfl) | rfl)) trivial rfl ?_
         refine al_ro' (ro_eq (ro_fld_ref k36_fl66_3 rfl up_h) (by first | (simp only [packA_t, packA_f, iE, bE, setAt, cellsA, Value.cells, map_vc, map_vn, Nat.reduceAdd, qS, one_iE, app_m, pE] <;> rfl) | rfl)) trivial rfl ?_
         refine al_ro' (ro_eq (ro_ld_ref k36_ty4 rfl up_h (by first | exact Nat.le_of_ble_eq_true rfl | omega | (simp only [lnS] <;> omega) | (simp <;> omega))) (by first | (simp only [packA_t, packA_f, iE, bE, setAt, cellsA, Value.cells, map_vc, map_vn, Nat.reduceAdd, qS, one_iE, app_m, pE] <;> rfl) | rfl)) trivial rfl ?_
         refine al_ro' (ro_move up_h) trivial rfl ?_
         refine al_case up_h (fun hb_11 hq_11 => ?_) (fun hb_11 hq_11 => ?_)
         · (first | replace hq_11 := bnt hq_11 | replace hq_11 := bnf hq_11 | replace hq_11 := bt hq_11 | replace hq_11 := bf hq_11 | replace hq_11 := bt' hq_11 | replace hq_11 := bf' hq_11 | skip)
           first
           | (cases hq_11; done) | (exfalso; omega)
           | (
              refine al_ro' (ro_eq (ro_ld_ptr k36_ty24 rfl mo0_8 (up_m rfl (u2 rfl (u4 rfl s3_9))) (by first | exact Nat.le_of_ble_eq_true rfl | omega | (simp only [lnS] <;> omega) | (simp <;> omega))) (by first | (simp only [packA_t, packA_f, iE, bE, setAt, cellsA, Value.cells, map_vc, map_vn, Nat.reduceAdd, qS, one_iE, app_m, pE] <;> rfl) | rfl)) ⟨_, rfl, hb_11⟩ rfl ?_
              refine al_ro' (ro_eq (ro_ld_ptr k36_ty26 rfl mo1_8 (u8 rfl s4_9) (by first | exact Nat.le_of_ble_eq_true rfl | omega | (simp only [lnS] <;> omega) | (simp <;> omega))) (by first | (simp only [packA_t, packA_f, iE, bE, setAt, cellsA, Value.cells, map_vc, map_vn, Nat.reduceAdd, qS, one_iE, app_m, pE] <;> rfl) | rfl)) ⟨_, rfl, (up_m rfl hb_11)⟩ rfl ?_
              refine al_ro' (ro_eq (ro_ld_ptr k36_ty42 rfl mo2_8 (up_m rfl (u8 rfl s5_9)) (by first | exact Nat.le_of_ble_eq_true rfl | omega | (simp only [lnS] <;> omega) | (simp <;> omega))) (by first | (simp only [packA_t, packA_f, iE, bE, setAt, cellsA, Value.cells, map_vc, map_vn, Nat.reduceAdd, qS, one_iE, app_m, pE] <;> rfl) | rfl)) ⟨_, rfl, (u2 rfl hb_11)⟩ rfl ?_
              refine al_ro' (ro_move (u2 rfl (u8 rfl s8_9))) ⟨_, rfl, (up_m rfl (u2 rfl hb_11))⟩ rfl ?_
              refine al_ro' (ro_call (evL_cons (up_m rfl (u2 rfl up_h)) (evL_cons (u2 rfl up_h) (evL_cons (up_m rfl up_h) (evL_cons up_h evL_nil)))) rfl (rReaches_ok nm ps hok b d v hb post sq k h0.1 (by omega) (by omega) hsq) k36_hcf88) ⟨_, rfl, (u4 rfl hb_11)⟩ rfl ?_
              refine al_ro' (ro_pickT (up_m rfl (u4 rfl hb_11)) up_h) trivial rfl ?_
              refine al_end (fun e_12 he_12 => ?_)
              have s3_12 := ef 3 he_12 (up_m rfl (u4 rfl (u8 rfl s3_9)))
              have s4_12 := ef 4 he_12 (up_m rfl (u4 rfl (u8 rfl s4_9)))
              have s5_12 := ef 5 he_12 (up_m rfl (u4 rfl (u8 rfl s5_9)))
              have s7_12 := ef 7 he_12 (up_m rfl (u4 rfl (u8 rfl s7_9)))
              have s8_12 := ef 8 he_12 (up_m rfl (u4 rfl (u8 rfl s8_9)))
              have s30_12 := ef 30 he_12 up_h
              clear he_12 hb_11 s15_9 s3_9 s4_9 s5_9 s7_9 s8_9
              refine then_n ?_
              refine aw_case s30_12 (fun hq_13 => ?_) (fun hq_13 => ?_)
              · (first | replace hq_13 := bnt hq_13 | replace hq_13 := bnf hq_13 | replace hq_13 := bt hq_13 | replace hq_13 := bf hq_13 | replace hq_13 := bt' hq_13 | replace hq_13 := bf' hq_13 | skip)
                first
                | (cases hq_13; done) | (exfalso; omega)
                | (
                   refine aw_text (by kernel_rfl) ?_
                   refine al_ro' (ro_move s7_12) trivial rfl ?_
                   refine al_ro' (ro_move (up_m rfl s8_12)) trivial rfl ?_
                   refine al_ro' (ro_lit k36_sl30 (evP_cons up_h evP_nil) rfl rfl rfl rfl) trivial rfl ?_
                   refine al_stm (st_app k36_sl30 rfl ml_8 mo_j7_8 (u2 rfl up_h) up_h (by first | rfl | (simp [oneA]; done)) (by first | omega | (simp only [lnS] <;> omega) | (simp <;> omega))) trivial rfl (fun m_14 hm_14 => ?_)
                   have mon_8_14 := m_swap hm_14 ml_8
                   (try simp only [packA_t, packA_f, iE, bE, setAt, cellsA, Value.cells, map_vc, map_vn, Nat.reduceAdd, qS, one_iE, app_m, pE] at mon_8_14)
                   have mo2_14 := m_swap_o hm_14 mo2_8 (by omega)
                   have mo1_14 := m_swap_o hm_14 mo1_8 (by omega)
                   have mo0_14 := m_swap_o hm_14 mo0_8 (by omega)
                   have ml_14 := m_swap_l hm_14 ml_8
                   clear hm_14 mo2_8 mo1_8 mo0_8 mo_j7_8
                   refine al_ro' (ro_assign up_h) trivial rfl ?_
                   refine al_end (fun e_15 he_15 => ?_)
                   have s3_15 := ef 3 he_15 (up_m rfl (u4 rfl s3_12))
                   have s4_15 := ef 4 he_15 (up_m rfl (u4 rfl s4_12))
                   have s5_15 := ef 5 he_15 (up_m rfl (u4 rfl s5_12))
                   have s7_15 := ef 7 he_15 up_h
                   have s8_15 := ef 8 he_15 (up_m rfl (u4 rfl s8_12))
                   clear he_15 s30_12 s3_12 s4_12 s5_12 s7_12 s8_12
                   refine block_n ?_
                   refine then_n ?_
                   refine aw_text (by kernel_rfl) ?_
                   refine al_ro' (ro_move s8_15) trivial rfl ?_
                   first | (refine al_ro' (ro_add' up_h ev_c ?_) trivial rfl ?_; · (unfold In64; omega)) | refine al_ro' (ro_add up_h ev_c) trivial rfl ?_
                   refine al_ro' (ro_assign up_h) trivial rfl ?_
                   refine al_end (fun e_16 he_16 => ?_)
                   have s3_16 := ef 3 he_16 (up_m rfl (u2 rfl s3_15))
                   have s4_16 := ef 4 he_16 (up_m rfl (u2 rfl s4_15))
                   have s5_16 := ef 5 he_16 (up_m rfl (u2 rfl s5_15))
                   have s7_16 := ef 7 he_16 (up_m rfl (u2 rfl s7_15))
                   have s8_16 := ef 8 he_16 up_h
                   clear he_16 s3_15 s4_15 s5_15 s7_15 s8_15
                   refine then_n ?_
                   refine ⟨⟨_, _⟩, ⟨s8_16, (s3_16.trans s3_7.symm), (s4_16.trans s4_7.symm), (s5_16.trans s5_7.symm), (mo2_14.trans mo2_7.symm), (mo1_14.trans mo1_7.symm), (mo0_14.trans mo0_7.symm), ⟨_, s7_16, mon_8_14, (by omega), (by omega), (by omega)⟩, ⟨_, ml_14, by omega⟩, ?_⟩, ?_⟩
                   · (refine ⟨by omega, by omega, ?_⟩; first | (rw [p3, stP_yes ⟨h0.1, p1⟩ (by assumption), rcP_snoc_yes (by omega) (by assumption)]; done) | (rw [p3, stP_yes ⟨h0.1, p1⟩ (by assumption), rcP_snoc_no (by omega) (by assumption)]; done) | (rw [p3, stP_no ⟨h0.1, p1⟩ (by assumption)]; done))
                   · ((try dsimp only); omega))
              · (first | replace hq_13 := bnt hq_13 | replace hq_13 := bnf hq_13 | replace hq_13 := bt hq_13 | replace hq_13 := bf hq_13 | replace hq_13 := bt' hq_13 | replace hq_13 := bf' hq_13 | skip)
                first
                | (cases hq_13; done) | (exfalso; omega)
                | (
                   refine aw_skip ?_
                   refine block_n ?_
                   refine then_n ?_
                   refine aw_text (by kernel_rfl) ?_
                   refine al_ro' (ro_move s8_12) trivial rfl ?_
                   first | (refine al_ro' (ro_add' up_h ev_c ?_) trivial rfl ?_; · (unfold In64; omega)) | refine al_ro' (ro_add up_h ev_c) trivial rfl ?_
                   refine al_ro' (ro_assign up_h) trivial rfl ?_
                   refine al_end (fun e_17 he_17 => ?_)
                   have s3_17 := ef 3 he_17 (up_m rfl (u2 rfl s3_12))
                   have s4_17 := ef 4 he_17 (up_m rfl (u2 rfl s4_12))
                   have s5_17 := ef 5 he_17 (up_m rfl (u2 rfl s5_12))
                   have s7_17 := ef 7 he_17 (up_m rfl (u2 rfl s7_12))
                   have s8_17 := ef 8 he_17 up_h
                   clear he_17 s30_12 s3_12 s4_12 s5_12 s7_12 s8_12
                   refine then_n ?_
                   refine ⟨⟨_, _⟩, ⟨s8_17, (s3_17.trans s3_7.symm), (s4_17.trans s4_7.symm), (s5_17.trans s5_7.symm), (mo2_8.trans mo2_7.symm), (mo1_8.trans mo1_7.symm), (mo0_8.trans mo0_7.symm), ⟨_, s7_17, mo_j7_8, nj7_2_8, nj7_1_8, nj7_0_8⟩, ⟨_, ml_8, by omega⟩, ?_⟩, ?_⟩
                   · (refine ⟨by omega, by omega, ?_⟩; first | (rw [p3, stP_yes ⟨h0.1, p1⟩ (by assumption), rcP_snoc_yes (by omega) (by assumption)]; done) | (rw [p3, stP_yes ⟨h0.1, p1⟩ (by assumption), rcP_snoc_no (by omega) (by assumption)]; done) | (rw [p3, stP_no ⟨h0.1, p1⟩ (by assumption)]; done))
                   · ((try dsimp only); omega)))
         · (first | replace hq_11 := bnt hq_11 | replace hq_11 := bnf hq_11 | replace hq_11 := bt hq_11 | replace hq_11 := bf hq_11 | replace hq_11 := bt' hq_11 | replace hq_11 := bf' hq_11 | skip)
           first
           | (cases hq_11; done) | (exfalso; omega)
           | (
              refine al_skip' ⟨_, rfl, .inl hb_11⟩ rfl ?_
              refine al_skip' ⟨_, rfl, .inl (up_m rfl hb_11)⟩ rfl ?_
              refine al_skip' ⟨_, rfl, .inl (u2 rfl hb_11)⟩ rfl ?_
              refine al_skip' ⟨_, rfl, .inl (up_m rfl (u2 rfl hb_11))⟩ rfl ?_
              refine al_skip' ⟨_, rfl, .inl (u4 rfl hb_11)⟩ rfl ?_
              refine al_ro' (ro_pickF (up_m rfl (u4 rfl hb_11)) ev_c) trivial rfl ?_
              refine al_end (fun e_18 he_18 => ?_)
              have s3_18 := ef 3 he_18 (up_m rfl (u4 rfl (u8 rfl s3_9)))
              have s4_18 := ef 4 he_18 (up_m rfl (u4 rfl (u8 rfl s4_9)))
              have s5_18 := ef 5 he_18 (up_m rfl (u4 rfl (u8 rfl s5_9)))
              have s7_18 := ef 7 he_18 (up_m rfl (u4 rfl (u8 rfl s7_9)))
              have s8_18 := ef 8 he_18 (up_m rfl (u4 rfl (u8 rfl s8_9)))
              have s30_18 := ef 30 he_18 up_h
              clear he_18 hb_11 s15_9 s3_9 s4_9 s5_9 s7_9 s8_9
              refine then_n ?_
              refine aw_false s30_18 ?_
              refine aw_skip ?_
              refine block_n ?_
              refine then_n ?_
              refine aw_text (by kernel_rfl) ?_
              refine al_ro' (ro_move s8_18) trivial rfl ?_
              first | (refine al_ro' (ro_add' up_h ev_c ?_) trivial rfl ?_; · (unfold In64; omega)) | refine al_ro' (ro_add up_h ev_c) trivial rfl ?_
              refine al_ro' (ro_assign up_h) trivial rfl ?_
              refine al_end (fun e_20 he_20 => ?_)
              have s3_20 := ef 3 he_20 (up_m rfl (u2 rfl s3_18))
              have s4_20 := ef 4 he_20 (up_m rfl (u2 rfl s4_18))
              have s5_20 := ef 5 he_20 (up_m rfl (u2 rfl s5_18))
              have s7_20 := ef 7 he_20 (up_m rfl (u2 rfl s7_18))
              have s8_20 := ef 8 he_20 up_h
              clear he_20 s30_18 s3_18 s4_18 s5_18 s7_18 s8_18
              refine then_n ?_
              refine ⟨⟨_, _⟩, ⟨s8_20, (s3_20.trans s3_7.symm), (s4_20.trans s4_7.symm), (s5_20.trans s5_7.symm), (mo2_8.trans mo2_7.symm), (mo1_8.trans mo1_7.symm), (mo0_8.trans mo0_7.symm), ⟨_, s7_20, mo_j7_8, nj7_2_8, nj7_1_8, nj7_0_8⟩, ⟨_, ml_8, by omega⟩, ?_⟩, ?_⟩
              · (refine ⟨by omega, by omega, ?_⟩; first | (rw [p3, stP_yes ⟨h0.1, p1⟩ (by assumption), rcP_snoc_yes (by omega) (by assumption)]; done) | (rw [p3, stP_yes ⟨h0.1, p1⟩ (by assumption), rcP_snoc_no (by omega) (by assumption)]; done) | (rw [p3, stP_no ⟨h0.1, p1⟩ (by assumption)]; done))
              · ((try dsimp only); omega)))
    · (first | replace hq_10 := bnt hq_10 | replace hq_10 := bnf hq_10 | replace hq_10 := bt hq_10 | replace hq_10 := bf hq_10 | replace hq_10 := bt' hq_10 | replace hq_10 := bf' hq_10 | skip)
      first
      | (cases hq_10; done) | (exfalso; omega)
      | (
         refine aw_exit ?_
         refine then_x ?_
         refine then_x ?_
         refine block_hit ?_
         refine then_n ?_
         refine aw_seq ?_
         refine aw_text (by kernel_rfl) ?_
         refine al_ro' (ro_move s7_9) trivial rfl ?_
         refine al_ro' (ro_assign up_h) trivial rfl ?_
         refine al_end (fun e_21 he_21 => ?_)
         have s6_21 := ef 6 he_21 up_h
         clear he_21 s15_9 s3_9 s4_9 s5_9 s7_9 s8_9
         refine then_n ?_
         refine aw_ret ?_
         refine ret1 (.inr rfl) (by kernel_rfl) (resV_tmp s6_21) (.own _ _ _ _ mo_j7_8) ?_
         clear s6_21 mo2_8 mo1_8 mo0_8 mo_j7_8 ml_8
         (rw [p3, show k = ps.length by omega, stP_all]; rfl))
end Go.Proofs.Ytelgkjekpcfffaa
