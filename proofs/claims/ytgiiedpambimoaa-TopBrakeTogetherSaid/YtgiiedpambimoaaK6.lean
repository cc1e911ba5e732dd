/- Contracts of chapter 5: limits, curves. No conditions on a program. -/
import Derived.Test.YtgiiedpambimoaaK5
namespace Go.Proofs.Ytgiiedpambimoaa
open Go Go.RowKit Go.Proofs
set_option linter.unusedSimpArgs false
set_option linter.unusedVariables false
theorem k6_fl105_0 : FldIs Try.prog 105 0 0 true 2 := by unfold FldIs; kernel_rfl
theorem k6_fl107_0 : FldIs Try.prog 107 0 0 true 2 := by unfold FldIs; kernel_rfl
theorem k6_fl118_2 : FldIs Try.prog 118 2 2 false 1 := by unfold FldIs; kernel_rfl
theorem k6_fl51_1 : FldIs Try.prog 51 1 1 false 1 := by unfold FldIs; kernel_rfl
theorem k6_hcf59 : ∀ args w, (callFunc 59 args).run Try.prog w = .ok (.enter 59 args) w := fun _ _ => by kernel_rfl
theorem k6_hcf61 : ∀ args w, (callFunc 61 args).run Try.prog w = .ok (.enter 61 args) w := fun _ _ => by kernel_rfl
theorem k6_hcf65 : ∀ args w, (callFunc 65 args).run Try.prog w = .ok (.enter 65 args) w := fun _ _ => by kernel_rfl
theorem k6_hcf81 : ∀ args w, (callFunc 81 args).run Try.prog w = .ok (.enter 81 args) w := fun _ _ => by kernel_rfl
theorem k6_sl22 : SlIs Try.prog 22 3 1 8 (.int .i64 0) := ⟨by kernel_rfl, by kernel_rfl, by kernel_rfl⟩
theorem k6_sl49 : SlIs Try.prog 49 118 4 32 (.agg #[.int .i64 0, .int .i64 0, .int .i64 0, .bool false]) := ⟨by kernel_rfl, by kernel_rfl, by kernel_rfl⟩
theorem k6_sz3 : (Try.prog.info? 3).map (·.size) = some 1 := by kernel_rfl
theorem k6_ty105 : TyIs Try.prog 105 true 2 := ⟨by kernel_rfl, by kernel_rfl⟩
theorem k6_ty107 : TyIs Try.prog 107 true 5 := ⟨by kernel_rfl, by kernel_rfl⟩
theorem k6_ty3 : TyIs Try.prog 3 false 1 := ⟨by kernel_rfl, by kernel_rfl⟩
theorem k6_ty49 : TyIs Try.prog 49 false 1 := ⟨by kernel_rfl, by kernel_rfl⟩

theorem td_m {α : Type} (f : α → List AV) (l : List α) (a b : Nat) : ((l.map f).take b).drop a = ((l.take b).drop a).map f := by rw [List.map_drop, List.map_take]
/-- The limit at a post. -/
def limW (ps : List Piece) (i : Nat) : Int :=
  if i = 0 then (ps.getD 0 default).lim else if i < ps.length then min (ps.getD (i - 1) default).lim (ps.getD i default).lim else (ps.getD (i - 1) default).lim
def meetW (ps : List Piece) (i : Int) : List Piece := (ps.take (min (ps.length : Int) (i + 1)).toNat).drop (max 0 (i - 1)).toNat
theorem meet_lim {ps : List Piece} {i : Int} (h0 : 0 ≤ i) (h1 : i ≤ ps.length) (hp : 0 < ps.length) : 0 < (meetW ps i).length ∧ (minP (meetW ps i) ((meetW ps i).length - 1)).lim = limW ps i.toNat := by
  obtain ⟨n, rfl⟩ : ∃ n : Nat, i = n := ⟨i.toNat, by omega⟩
  have get : ∀ j : Nat, (meetW ps n).getD j default = if (max 0 ((n : Int) - 1)).toNat + j < (min (ps.length : Int) ((n : Int) + 1)).toNat then ps.getD ((max 0 ((n : Int) - 1)).toNat + j) default else default := fun j => by
    unfold meetW
    simp only [List.getD_eq_getElem?_getD, List.getElem?_drop, List.getElem?_take]
    split <;> rfl
  have hlen : (meetW ps n).length = (min (ps.length : Int) ((n : Int) + 1)).toNat - (max 0 ((n : Int) - 1)).toNat := by
    unfold meetW; simp; omega
  simp only [Int.toNat_natCast]
  unfold limW
  by_cases c0 : n = 0
  · subst c0
    have hl : (meetW ps ((0 : Nat) : Int)).length = 1 := by rw [hlen]; omega
    have g0 : (meetW ps ((0 : Nat) : Int)).getD 0 default = ps.getD 0 default := by
      rw [get 0, if_pos (by omega)]; congr 1
    rw [hl, if_pos rfl]
    refine ⟨by omega, ?_⟩
    show ((meetW ps ((0 : Nat) : Int)).getD 0 default).lim = _
    rw [g0]
  · have g0 : (meetW ps (n : Int)).getD 0 default = ps.getD (n - 1) default := by
      rw [get 0, if_pos (by omega)]; congr 1; omega
    by_cases c1 : n < ps.length
    · have hl : (meetW ps (n : Int)).length = 2 := by rw [hlen]; omega
      have g1 : (meetW ps (n : Int)).getD 1 default = ps.getD n default := by
        rw [get 1, if_pos (by omega)]; congr 1; omega
      rw [hl, if_neg c0, if_pos c1]
      refine ⟨by omega, ?_⟩
      show (if ((meetW ps (n : Int)).getD 1 default).lim - ((meetW ps (n : Int)).getD 0 default).lim < 0 then (meetW ps (n : Int)).getD 1 default else (meetW ps (n : Int)).getD 0 default).lim = _
      rw [g0, g1]
      split <;> omega
    · have hl : (meetW ps (n : Int)).length = 1 := by rw [hlen]; omega
      rw [hl, if_neg c0, if_neg c1]
      refine ⟨by omega, ?_⟩
      show ((meetW ps (n : Int)).getD 0 default).lim = _
      rw [g0]
theorem Ok.meet {ps : List Piece} (h : Ok ps) (i : Int) : Ok (meetW ps i) := fun p hp => h p (List.mem_of_mem_take (List.mem_of_mem_drop hp))
theorem limW_bound {ps : List Piece} (h : Ok ps) (i : Nat) : 0 ≤ limW ps i ∧ limW ps i ≤ 20000000000 := by
  have h1 := (h.at 0).2.2; have h2 := (h.at i).2.2; have h3 := (h.at (i - 1)).2.2
  unfold limW
  split
  · exact h1
  · split <;> omega
def liW (ps : List Piece) (n : Nat) : List Int := (List.range n).map (limW ps)
theorem liW_len (ps : List Piece) (n : Nat) : (liW ps n).length = n := by simp [liW]
theorem liW_at (ps : List Piece) {n i : Nat} (h : i < n) : (liW ps n).getD i default = limW ps i := by simp [liW, List.getD_eq_getElem?_getD, h]
theorem liW_succ (ps : List Piece) (n : Nat) : liW ps n ++ [limW ps n] = liW ps (n + 1) := by simp [liW, List.range_succ]
theorem meetMin_ok (ps : List Piece) (hok : Ok ps) (hp : 0 < ps.length) (hp2 : ps.length ≤ 900) (i : Int) (h0 : 0 ≤ i) (h1 : i ≤ ps.length) : FnOk Try.prog 81 [.row 4 ((meetW ps i).map pE), .v (.func (.func 82) #[] #[])] (fun r => r = .agg (pE (minP (meetW ps i) ((meetW ps i).length - 1)))) :=
  minFunc_ok _ (hok.meet i) (meet_lim h0 h1 hp).1 (by unfold meetW; simp; omega)
set_option maxRecDepth 100000 in
set_option maxHeartbeats 4000000 in
theorem limits_ok (nm : ByteArray) (ps : List Piece) (hok : Ok ps) (hp : 0 < ps.length) (hp2 : ps.length ≤ 900) : FnOk Try.prog 59 [trA nm ps] (fun q => q = .row 1 ((liW ps (ps.length + 1)).map iE)) := by
  refine fnOk_of (fn := Try.f59) 32 (by kernel_rfl) rfl (by kernel_rfl) (Nat.le_of_ble_eq_true rfl) ?_
  intro e_0 m_0 hA hm_0
  have s0_0 : evA e_0 (.tmp 0) = _ := hA 0 _ rfl
  have ml_0 : m_0.length = 0 := by rw [hm_0]; rfl
  clear hA hm_0
  refine aw_seq ?_
  refine aw_text (by kernel_rfl) ?_
  refine al_stm (st_box s0_0 rfl ml_0) trivial rfl (fun m_1 hm_1 => ?_)
  have mo0_1 := m_push hm_1 ml_0
  (try simp only [packA_t, packA_f, iE, bE, setAt, cellsA, Value.cells, map_vc, map_vn, Nat.reduceAdd, qS, pE, one_iE, app_m, td_m] at mo0_1)
  have ml_1 := m_push_l hm_1 ml_0
  have ml_1 : _ = 1 := ml_1
  clear hm_1
  refine al_ro' (ro_assign ev_c) trivial rfl ?_
  refine al_end (fun e_2 he_2 => ?_)
  have s1_2 := ef 1 he_2 (up_m rfl up_h)
  clear he_2 s0_0
  refine then_n ?_
  refine aw_seq ?_
  refine aw_text (by kernel_rfl) ?_
  refine al_ro' (ro_assign ev_c) trivial rfl ?_
  refine al_end (fun e_3 he_3 => ?_)
  have s1_3 := ef 1 he_3 (up_m rfl s1_2)
  have s3_3 := ef 3 he_3 up_h
  clear he_3 s1_2
  refine then_n ?_
  refine aw_seq ?_
  refine aw_seq ?_
  refine aw_text (by kernel_rfl) ?_
  refine al_ro' (ro_eq (ro_ld_ptr k6_ty105 rfl mo0_1 s1_3 (by first | exact Nat.le_of_ble_eq_true rfl | omega | (simp only [lnS] <;> omega) | (simp <;> omega))) (by first | (simp only [packA_t, packA_f, iE, bE, setAt, cellsA, Value.cells, map_vc, map_vn, Nat.reduceAdd, qS, pE, one_iE, app_m, td_m] <;> rfl) | rfl)) trivial rfl ?_
  refine al_ro' (ro_call (evL_cons up_h evL_nil) rfl (last_ok nm ps) k6_hcf61) trivial rfl ?_
  first | (refine al_ro' (ro_add' up_h ev_c ?_) trivial rfl ?_; · (unfold In64; omega)) | refine al_ro' (ro_add up_h ev_c) trivial rfl ?_
  refine al_ro' (ro_move ev_c) trivial rfl ?_
  refine al_end (fun e_4 he_4 => ?_)
  have s1_4 := ef 1 he_4 (u4 rfl s1_3)
  have s3_4 := ef 3 he_4 (u4 rfl s3_3)
  have s8_4 := ef 8 he_4 (up_m rfl up_h)
  have s9_4 := ef 9 he_4 up_h
  clear he_4 s1_3 s3_3
  refine then_n ?_
  refine aw_block ?_
  refine aw_adopt 3 1 s3_4 ml_1 (fun m_5 e_5 hm_5 he_5 => ?_)
  have mo1_5 := m_push hm_5 ml_1
  have mo0_5 := m_push_o hm_5 mo0_1
  have ml_5 := m_push_l hm_5 ml_1
  have ml_5 : _ = 2 := ml_5
  have s1_5 : evA e_5 (.tmp 1) = _ := (congrArg (fun q => evA q (.tmp 1)) he_5).trans (up_m rfl s1_4)
  have s3_5 : evA e_5 (.tmp 3) = _ := (congrArg (fun q => evA q (.tmp 3)) he_5).trans up_h
  have s8_5 : evA e_5 (.tmp 8) = _ := (congrArg (fun q => evA q (.tmp 8)) he_5).trans (up_m rfl s8_4)
  have s9_5 : evA e_5 (.tmp 9) = _ := (congrArg (fun q => evA q (.tmp 9)) he_5).trans (up_m rfl s9_4)
  clear hm_5 he_5
  refine aw_loop (S := (Int × List Int)) (fun s e mem => match s with | ⟨i, xs⟩ => (evA e (.tmp 9) = .v (.int .i64 i)) ∧ (evA e (.tmp 1) = evA e_5 (.tmp 1)) ∧ (evA e (.tmp 8) = evA e_5 (.tmp 8)) ∧ (mem[0]? = m_5[0]?) ∧ (∃ j, evA e (.tmp 3) = .own j ∧ mem[j]? = some (.row 3 1 (xs.map iE)) ∧ j ≠ 0) ∧ (∃ n, mem.length = n ∧ 2 ≤ n) ∧ ((0 ≤ i ∧ i ≤ ps.length + 1 ∧ xs = liW ps i.toNat))) (fun s => match s with | ⟨i, xs⟩ => (ps.length + 1 - i).toNat) ⟨_, []⟩ ⟨s9_5, rfl, rfl, rfl, ⟨_, s3_5, mo1_5, (by decide)⟩, ⟨_, ml_5, Nat.le_refl _⟩, ?_⟩ ?_
  · exact ⟨by omega, by omega, rfl⟩
  · rintro ⟨i, xs⟩ e_6 m_6 ⟨s9_6, k1_6, k8_6, mk0_6, ⟨j3_6, s3_6, mo_j3_6, nj3_0_6⟩, ⟨n_6, ml_6, hn_6⟩, hinv⟩
    have s1_6 := k1_6.trans s1_5
    have s8_6 := k8_6.trans s8_5
    have mo0_6 := mk0_6.trans mo0_5
    have jl3_6 := m_lt mo_j3_6 ml_6
    (have hl : xs.length = i.toNat := (by rw [hinv.2.2, liW_len]); have hin := hinv.2.1; have hin0 := hinv.1)
    refine aw_seq ?_
    refine aw_text (by kernel_rfl) ?_
    refine al_ro' (ro_lss s9_6 s8_6) trivial rfl ?_
    refine al_end (fun e_7 he_7 => ?_)
    have s1_7 := ef 1 he_7 (up_m rfl s1_6)
    have s3_7 := ef 3 he_7 (up_m rfl s3_6)
    have s8_7 := ef 8 he_7 (up_m rfl s8_6)
    have s9_7 := ef 9 he_7 (up_m rfl s9_6)
    have s10_7 := ef 10 he_7 up_h
    clear he_7 s1_6 s3_6 s8_6 s9_6
    refine then_n ?_
    refine aw_seq ?_
    refine aw_case s10_7 (fun hq_8 => ?_) (fun hq_8 => ?_)
    · (first | replace hq_8 := bnt hq_8 | replace hq_8 := bnf hq_8 | replace hq_8 := bt hq_8 | replace hq_8 := bf hq_8 | replace hq_8 := bt' hq_8 | replace hq_8 := bf' hq_8 | skip)
      first
      | (cases hq_8; done) | (exfalso; omega)
      | (
         refine aw_skip ?_
         refine then_n ?_
         refine aw_seq ?_
         refine aw_block ?_
         refine aw_seq ?_
         refine aw_text (by kernel_rfl) ?_
         refine al_ro' (ro_move s9_7) trivial rfl ?_
         refine al_ro' (ro_assign up_h) trivial rfl ?_
         refine al_end (fun e_9 he_9 => ?_)
         have s1_9 := ef 1 he_9 (u2 rfl s1_7)
         have s3_9 := ef 3 he_9 (u2 rfl s3_7)
         have s4_9 := ef 4 he_9 up_h
         have s8_9 := ef 8 he_9 (u2 rfl s8_7)
         have s9_9 := ef 9 he_9 (u2 rfl s9_7)
         clear he_9 s10_7 s1_7 s3_7 s8_7 s9_7
         refine then_n ?_
         refine aw_seq ?_
         refine aw_draw 13 (by kernel_rfl) (by kernel_rfl) (by kernel_rfl) (by kernel_rfl) ?_
         refine ds_ro' (ro_fld_ptr k6_fl105_0 rfl s1_9) trivial rfl ?_
         refine ds_ro' (ro_fld_ptr k6_fl51_1 rfl up_h) trivial rfl ?_
         refine ds_ro' (ro_eq (ro_ld_ptr k6_ty49 rfl mo0_6 up_h (by first | exact Nat.le_of_ble_eq_true rfl | omega | (simp only [lnS] <;> omega) | (simp <;> omega))) (by first | (simp only [packA_t, packA_f, iE, bE, setAt, cellsA, Value.cells, map_vc, map_vn, Nat.reduceAdd, qS, pE, one_iE, app_m, td_m] <;> rfl) | rfl)) trivial rfl ?_
         refine ds_ro' (ro_move (up_m rfl (u2 rfl s4_9))) trivial rfl ?_
         first | (refine ds_ro' (ro_sub' up_h ev_c ?_) trivial rfl ?_; · (unfold In64; omega)) | refine ds_ro' (ro_sub up_h ev_c) trivial rfl ?_
         refine ds_ro' (ro_max ev_c up_h) trivial rfl ?_
         refine ds_ro' (ro_eq (ro_ld_ptr k6_ty105 rfl mo0_6 (u2 rfl (u4 rfl s1_9)) (by first | exact Nat.le_of_ble_eq_true rfl | omega | (simp only [lnS] <;> omega) | (simp <;> omega))) (by first | (simp only [packA_t, packA_f, iE, bE, setAt, cellsA, Value.cells, map_vc, map_vn, Nat.reduceAdd, qS, pE, one_iE, app_m, td_m] <;> rfl) | rfl)) trivial rfl ?_
         refine ds_ro' (ro_call (evL_cons up_h evL_nil) rfl (last_ok nm ps) k6_hcf61) trivial rfl ?_
         refine ds_ro' (ro_move (u8 rfl s4_9)) trivial rfl ?_
         first | (refine ds_ro' (ro_add' up_h ev_c ?_) trivial rfl ?_; · (unfold In64; omega)) | refine ds_ro' (ro_add up_h ev_c) trivial rfl ?_
         refine ds_ro' (ro_min (u2 rfl up_h) up_h) trivial rfl ?_
         refine ds_ro' (ro_eq (ro_sl k6_sl49 (u8 rfl up_h) (up_m rfl (u4 rfl up_h)) up_h (by first | decide | omega | (simp <;> omega)) (by first | exact Nat.le_of_ble_eq_true rfl | omega | (simp only [lnS] <;> omega) | (simp <;> omega)) (by first | exact Nat.le_of_ble_eq_true rfl | omega | (simp only [lnS] <;> omega) | (simp <;> omega))) (by first | (simp only [packA_t, packA_f, iE, bE, setAt, cellsA, Value.cells, map_vc, map_vn, Nat.reduceAdd, qS, pE, one_iE, app_m, td_m] <;> rfl) | rfl)) trivial rfl ?_
         refine ds_ro' (ro_assign up_h) trivial rfl ?_
         refine ds_nil ?_
         refine al_end (fun e_10 he_10 => ?_)
         have s1_10 := ef 1 he_10 (up_m rfl (u4 rfl (u8 rfl s1_9)))
         have s3_10 := ef 3 he_10 (up_m rfl (u4 rfl (u8 rfl s3_9)))
         have s5_10 := ef 5 he_10 up_h
         have s8_10 := ef 8 he_10 (up_m rfl (u4 rfl (u8 rfl s8_9)))
         have s9_10 := ef 9 he_10 (up_m rfl (u4 rfl (u8 rfl s9_9)))
         clear he_10 s1_9 s3_9 s4_9 s8_9 s9_9
         refine then_n ?_
         refine aw_text (by kernel_rfl) ?_
         refine al_ro' (ro_move s3_10) trivial rfl ?_
         refine al_ro' (ro_move (up_m rfl s5_10)) trivial rfl ?_
         refine al_ro' (ro_call (evL_cons up_h (evL_cons ev_f evL_nil)) rfl (meetMin_ok ps hok hp hp2 i (by omega) (by omega)) k6_hcf81) trivial rfl ?_
         refine al_ro' (ro_eq (ro_fld k6_fl118_2 up_h (by first | exact Nat.le_of_ble_eq_true rfl | omega | (simp only [lnS] <;> omega) | (simp <;> omega)) rfl) (by first | (simp only [packA_t, packA_f, iE, bE, setAt, cellsA, Value.cells, map_vc, map_vn, Nat.reduceAdd, qS, pE, one_iE, app_m, td_m] <;> rfl) | rfl)) trivial rfl ?_
         refine al_ro' (ro_lit k6_sl22 (evP_cons up_h evP_nil) rfl rfl rfl rfl) trivial rfl ?_
         refine al_stm (st_app k6_sl22 rfl ml_6 mo_j3_6 (u4 rfl up_h) up_h (by first | rfl | (simp [oneA]; done)) (by first | omega | (simp only [lnS] <;> omega) | (simp <;> omega))) trivial rfl (fun m_11 hm_11 => ?_)
         have mon_6_11 := m_swap hm_11 ml_6
         (try simp only [packA_t, packA_f, iE, bE, setAt, cellsA, Value.cells, map_vc, map_vn, Nat.reduceAdd, qS, pE, one_iE, app_m, td_m] at mon_6_11)
         have mo0_11 := m_swap_o hm_11 mo0_6 (by omega)
         have ml_11 := m_swap_l hm_11 ml_6
         clear hm_11 mo0_6 mo_j3_6
         refine al_ro' (ro_assign up_h) trivial rfl ?_
         refine al_end (fun e_12 he_12 => ?_)
         have s1_12 := ef 1 he_12 (up_m rfl (u2 rfl (u4 rfl s1_10)))
         have s3_12 := ef 3 he_12 up_h
         have s8_12 := ef 8 he_12 (up_m rfl (u2 rfl (u4 rfl s8_10)))
         have s9_12 := ef 9 he_12 (up_m rfl (u2 rfl (u4 rfl s9_10)))
         clear he_12 s1_10 s3_10 s5_10 s8_10 s9_10
         refine block_n ?_
         refine then_n ?_
         refine aw_text (by kernel_rfl) ?_
         first | (refine al_ro' (ro_add' s9_12 ev_c ?_) trivial rfl ?_; · (unfold In64; omega)) | refine al_ro' (ro_add s9_12 ev_c) trivial rfl ?_
         refine al_ro' (ro_move up_h) trivial rfl ?_
         refine al_end (fun e_13 he_13 => ?_)
         have s1_13 := ef 1 he_13 (u2 rfl s1_12)
         have s3_13 := ef 3 he_13 (u2 rfl s3_12)
         have s8_13 := ef 8 he_13 (u2 rfl s8_12)
         have s9_13 := ef 9 he_13 up_h
         clear he_13 s1_12 s3_12 s8_12 s9_12
         refine then_n ?_
         refine ⟨⟨_, _⟩, ⟨s9_13, (s1_13.trans s1_5.symm), (s8_13.trans s8_5.symm), (mo0_11.trans mo0_5.symm), ⟨_, s3_13, mon_6_11, (by omega)⟩, ⟨_, ml_11, by omega⟩, ?_⟩, ?_⟩
         · (obtain ⟨h1, h2, h3⟩ := hinv; refine ⟨by omega, by omega, ?_⟩; rw [(meet_lim (by omega) (by omega) hp).2, h3, liW_succ]; congr 1; omega)
         · ((try dsimp only); omega))
    · (first | replace hq_8 := bnt hq_8 | replace hq_8 := bnf hq_8 | replace hq_8 := bt hq_8 | replace hq_8 := bf hq_8 | replace hq_8 := bt' hq_8 | replace hq_8 := bf' hq_8 | skip)
      first
      | (cases hq_8; done) | (exfalso; omega)
      | (
         refine aw_exit ?_
         refine then_x ?_
         refine then_x ?_
         refine block_hit ?_
         refine then_n ?_
         refine aw_seq ?_
         refine aw_text (by kernel_rfl) ?_
         refine al_ro' (ro_move s3_7) trivial rfl ?_
         refine al_ro' (ro_assign up_h) trivial rfl ?_
         refine al_end (fun e_14 he_14 => ?_)
         have s2_14 := ef 2 he_14 up_h
         clear he_14 s10_7 s1_7 s3_7 s8_7 s9_7
         refine then_n ?_
         refine aw_ret ?_
         refine ret1 (.inr rfl) (by kernel_rfl) (resV_tmp s2_14) (.own _ _ _ _ mo_j3_6) ?_
         clear s2_14 mo0_6 mo_j3_6 ml_6
         (obtain ⟨h1, h2, h3⟩ := hinv; rw [h3, show i.toNat = ps.length + 1 by omega]))
/-- The curve from behind: so many posts ahead of the last one. -/
def bwD (ps : List Piece) (b sq : Int) (post : Nat) : Nat → Int
  | 0 => sq
  | k + 1 => if bwD ps b sq post k = -1 then -1 else max (-1) (min (limW ps (post - k - 1)) (bwD ps b sq post k + losW b (ps.getD (post - k - 1) default)))
theorem bwD_bound {ps : List Piece} (h : Ok ps) {b sq : Int} {post : Nat} (hs : -1 ≤ sq ∧ sq ≤ 20000000000) : ∀ k, -1 ≤ bwD ps b sq post k ∧ bwD ps b sq post k ≤ 20000000000
  | 0 => hs
  | k + 1 => by
    have := (limW_bound h (post - k - 1)).2
    simp only [bwD]
    split <;> omega
def bwL (ps : List Piece) (b sq : Int) (post : Nat) : List Int := (List.range (post + 1)).map fun j => bwD ps b sq post (post - j)
theorem getD_se {xs : List Int} {i : Nat} {v : Int} (h : i < xs.length) : (xs.set i v).getD i default = v := by simp [List.getD_eq_getElem?_getD, h]
theorem getD_sn {xs : List Int} {i j : Nat} {v : Int} (h : i ≠ j) : (xs.set i v).getD j default = xs.getD j default := by simp [List.getD_eq_getElem?_getD, List.getElem?_set, h]
theorem list_eq {xs : List Int} {n : Nat} {f : Nat → Int} (hl : xs.length = n) (h : ∀ j, j < n → xs.getD j default = f j) : xs = (List.range n).map f := by
  apply List.ext_getElem (by simpa using hl)
  intro j h1 h2
  have := h j (by omega)
  simp only [List.getD_eq_getElem?_getD, List.getElem?_eq_getElem h1, Option.getD_some] at this
  simpa using this
set_option maxRecDepth 100000 in
set_option maxHeartbeats 4000000 in
theorem backward_ok (nm : ByteArray) (ps : List Piece) (hok : Ok ps) (hp : 0 < ps.length) (hp2 : ps.length ≤ 900) (b d v sq post : Int) (hb : 0 ≤ b ∧ b ≤ 3000) (hsq : -1 ≤ sq ∧ sq ≤ 20000000000) (h0 : 0 ≤ post) (h1 : post ≤ ps.length) :
    FnOk Try.prog 60 [riA nm ps b d v, iA sq, iA post] (fun q => q = .row 1 ((bwL ps b sq post.toNat).map iE)) := by
  refine fnOk_of (fn := Try.f60) 54 (by kernel_rfl) rfl (by kernel_rfl) (Nat.le_of_ble_eq_true rfl) ?_
  intro e_0 m_0 hA hm_0
  have s0_0 : evA e_0 (.tmp 0) = _ := hA 0 _ rfl
  have s1_0 : evA e_0 (.tmp 1) = _ := hA 1 _ rfl
  have s2_0 : evA e_0 (.tmp 2) = _ := hA 2 _ rfl
  have ml_0 : m_0.length = 0 := by rw [hm_0]; rfl
  clear hA hm_0
  have hlw := liW_len ps (ps.length + 1)
  refine aw_seq ?_
  refine aw_text (by kernel_rfl) ?_
  refine al_stm (st_box s0_0 rfl ml_0) trivial rfl (fun m_1 hm_1 => ?_)
  have mo0_1 := m_push hm_1 ml_0
  (try simp only [packA_t, packA_f, iE, bE, setAt, cellsA, Value.cells, map_vc, map_vn, Nat.reduceAdd, qS, rep_iE, set_iE] at mo0_1)
  have ml_1 := m_push_l hm_1 ml_0
  have ml_1 : _ = 1 := ml_1
  clear hm_1
  refine al_ro' (ro_assign ev_c) trivial rfl ?_
  refine al_end (fun e_2 he_2 => ?_)
  have s1_2 := ef 1 he_2 (u2 rfl s1_0)
  have s2_2 := ef 2 he_2 (u2 rfl s2_0)
  have s3_2 := ef 3 he_2 (up_m rfl up_h)
  clear he_2 s0_0 s1_0 s2_0
  refine then_n ?_
  refine aw_seq ?_
  refine aw_text (by kernel_rfl) ?_
  refine al_ro' (ro_fld_ptr k6_fl107_0 rfl s3_2) trivial rfl ?_
  refine al_ro' (ro_eq (ro_ld_ptr k6_ty105 rfl mo0_1 up_h (by first | exact Nat.le_of_ble_eq_true rfl | omega | (simp only [lnS] <;> omega) | (simp <;> omega))) (by first | (simp only [packA_t, packA_f, iE, bE, setAt, cellsA, Value.cells, map_vc, map_vn, Nat.reduceAdd, qS, rep_iE, set_iE] <;> rfl) | rfl)) trivial rfl ?_
  refine al_ro' (ro_call (evL_cons up_h evL_nil) rfl (limits_ok nm ps hok hp hp2) k6_hcf59) trivial rfl ?_
  refine al_ro' (ro_assign up_h) trivial rfl ?_
  refine al_end (fun e_3 he_3 => ?_)
  have s1_3 := ef 1 he_3 (u4 rfl s1_2)
  have s2_3 := ef 2 he_3 (u4 rfl s2_2)
  have s3_3 := ef 3 he_3 (u4 rfl s3_2)
  have s7_3 := ef 7 he_3 up_h
  clear he_3 s1_2 s2_2 s3_2
  refine then_n ?_
  refine aw_seq ?_
  refine aw_text (by kernel_rfl) ?_
  refine al_ro' (ro_move s2_3) trivial rfl ?_
  first | (refine al_ro' (ro_add' up_h ev_c ?_) trivial rfl ?_; · (unfold In64; omega)) | refine al_ro' (ro_add up_h ev_c) trivial rfl ?_
  refine al_stm (st_mk k6_sl22 rfl rfl ml_1 up_h up_h (by first | decide | omega | (simp <;> omega)) (by first | omega | (simp only [lnS] <;> omega) | (simp <;> omega))) trivial rfl (fun m_4 hm_4 => ?_)
  have mo1_4 := m_push hm_4 ml_1
  (try simp only [packA_t, packA_f, iE, bE, setAt, cellsA, Value.cells, map_vc, map_vn, Nat.reduceAdd, qS, rep_iE, set_iE] at mo1_4)
  have mo0_4 := m_push_o hm_4 mo0_1
  have ml_4 := m_push_l hm_4 ml_1
  have ml_4 : _ = 2 := ml_4
  clear hm_4 mo0_1
  refine al_ro' (ro_assign up_h) trivial rfl ?_
  refine al_end (fun e_5 he_5 => ?_)
  have s1_5 := ef 1 he_5 (u4 rfl s1_3)
  have s2_5 := ef 2 he_5 (u4 rfl s2_3)
  have s3_5 := ef 3 he_5 (u4 rfl s3_3)
  have s7_5 := ef 7 he_5 (u4 rfl s7_3)
  have s8_5 := ef 8 he_5 up_h
  clear he_5 s1_3 s2_3 s3_3 s7_3
  refine then_n ?_
  refine aw_seq ?_
  refine aw_text (by kernel_rfl) ?_
  refine al_ro' (ro_move s8_5) trivial rfl ?_
  refine al_ro' (ro_move (up_m rfl s2_5)) trivial rfl ?_
  refine al_ro' (ro_move (u2 rfl s1_5)) trivial rfl ?_
  refine al_ro' (ro_ix_own k6_sl22 mo1_4 (u2 rfl up_h) (up_m rfl up_h) (by first | decide | omega | (simp <;> omega)) (by first | omega | (simp only [lnS] <;> omega) | (simp <;> omega))) trivial rfl ?_
  refine al_stm (st_store_el up_h (up_m rfl up_h) rfl rfl rfl mo1_4 (Nat.add_zero _).symm (by first | (refine idx_map ?_; first | omega | (simp only [lnS]; omega)) | (refine idx_mapI ?_; first | omega | (simp only [lnS]; omega)) | (refine idx_mapN ?_; first | omega | (simp only [lnS]; omega)) | rfl) k6_sz3 rfl (by first | exact Nat.le_of_ble_eq_true rfl | omega | (simp only [lnS] <;> omega) | (simp <;> omega))) trivial rfl (fun m_6 hm_6 => ?_)
  have mo1_6 := m_set hm_6 mo1_4
  (try simp only [packA_t, packA_f, iE, bE, setAt, cellsA, Value.cells, map_vc, map_vn, Nat.reduceAdd, qS, rep_iE, set_iE] at mo1_6)
  have mo0_6 := m_set_o hm_6 mo0_4 (by decide)
  have ml_6 := m_set_l hm_6 ml_4
  clear hm_6 mo1_4 mo0_4
  refine al_end (fun e_7 he_7 => ?_)
  have s2_7 := ef 2 he_7 (up_n (u4 rfl s2_5))
  have s3_7 := ef 3 he_7 (up_n (u4 rfl s3_5))
  have s7_7 := ef 7 he_7 (up_n (u4 rfl s7_5))
  have s8_7 := ef 8 he_7 (up_n (u4 rfl s8_5))
  clear he_7 s1_5 s2_5 s3_5 s7_5 s8_5
  refine then_n ?_
  refine aw_seq ?_
  refine aw_seq ?_
  refine aw_text (by kernel_rfl) ?_
  refine al_ro' (ro_move s2_7) trivial rfl ?_
  first | (refine al_ro' (ro_sub' up_h ev_c ?_) trivial rfl ?_; · (unfold In64; omega)) | refine al_ro' (ro_sub up_h ev_c) trivial rfl ?_
  refine al_ro' (ro_assign up_h) trivial rfl ?_
  refine al_end (fun e_8 he_8 => ?_)
  have s3_8 := ef 3 he_8 (up_m rfl (u2 rfl s3_7))
  have s7_8 := ef 7 he_8 (up_m rfl (u2 rfl s7_7))
  have s8_8 := ef 8 he_8 (up_m rfl (u2 rfl s8_7))
  have s9_8 := ef 9 he_8 up_h
  clear he_8 s2_7 s3_7 s7_7 s8_7
  refine then_n ?_
  refine aw_block ?_
  refine aw_loop (S := (Int × List Int)) (fun s e mem => match s with | ⟨i, xs⟩ => (evA e (.tmp 9) = .v (.int .i64 i)) ∧ (evA e (.tmp 3) = evA e_8 (.tmp 3)) ∧ (evA e (.tmp 7) = evA e_8 (.tmp 7)) ∧ (evA e (.tmp 8) = evA e_8 (.tmp 8)) ∧ (mem[1]? = some (.row 3 1 (xs.map iE))) ∧ (mem[0]? = m_6[0]?) ∧ (mem.length = 2) ∧ ((-1 ≤ i ∧ i < post ∧ xs.length = post.toNat + 1 ∧ ∀ j : Nat, i < j → j ≤ post.toNat → xs.getD j default = bwD ps b sq post.toNat (post.toNat - j)))) (fun s => match s with | ⟨i, xs⟩ => (i + 1).toNat) ⟨_, _⟩ ⟨s9_8, rfl, rfl, rfl, mo1_6, rfl, ml_6, ?_⟩ ?_
  · (refine ⟨by omega, by omega, by simp; omega, fun j hj hj2 => ?_⟩; have hjp : j = post.toNat := (by omega); rw [hjp, getD_se (by simp; omega), Nat.sub_self]; rfl)
  · rintro ⟨i, xs⟩ e_9 m_9 ⟨s9_9, k3_9, k7_9, k8_9, mo1_9, mk0_9, ml_9, hinv⟩
    have s3_9 := k3_9.trans s3_8
    have s7_9 := k7_9.trans s7_8
    have s8_9 := k8_9.trans s8_8
    have mo0_9 := mk0_9.trans mo0_6
    refine aw_seq ?_
    refine aw_seq ?_
    refine aw_text (by kernel_rfl) ?_
    refine al_ro' (ro_move s9_9) trivial rfl ?_
    refine al_ro' (ro_geq up_h ev_c) trivial rfl ?_
    refine al_end (fun e_10 he_10 => ?_)
    have s3_10 := ef 3 he_10 (u2 rfl s3_9)
    have s7_10 := ef 7 he_10 (u2 rfl s7_9)
    have s8_10 := ef 8 he_10 (u2 rfl s8_9)
    have s9_10 := ef 9 he_10 (u2 rfl s9_9)
    have s23_10 := ef 23 he_10 up_h
    clear he_10 s3_9 s7_9 s8_9 s9_9
    refine then_n ?_
    refine aw_case s23_10 (fun hq_11 => ?_) (fun hq_11 => ?_)
    · (first | replace hq_11 := bnt hq_11 | replace hq_11 := bnf hq_11 | replace hq_11 := bt hq_11 | replace hq_11 := bf hq_11 | replace hq_11 := bt' hq_11 | replace hq_11 := bf' hq_11 | skip)
      first
      | (cases hq_11; done) | (exfalso; omega)
      | (
         (obtain ⟨q1, q2, q3, q4⟩ := hinv; have hq4 := q4 (i + 1).toNat (by omega) (by omega); have hbd := bwD_bound hok (b := b) (post := post.toNat) hsq (post.toNat - (i + 1).toNat); have hlb := limW_bound hok i.toNat; have hpa := hok.at i.toNat; have hlos := los_bound (dec := b) (p := ps.getD i.toNat default) (by omega) hpa.1 hpa.2.1; have hset : (xs.set i.toNat (-1)).getD (i + 1).toNat default = xs.getD (i + 1).toNat default := getD_sn (by omega); have hli : (liW ps (ps.length + 1)).getD i.toNat default = limW ps i.toNat := liW_at ps (by omega))
         refine aw_skip ?_
         refine then_n ?_
         refine aw_seq ?_
         refine aw_block ?_
         refine aw_seq ?_
         refine aw_text (by kernel_rfl) ?_
         refine al_ro' (ro_move s8_10) trivial rfl ?_
         refine al_ro' (ro_move (up_m rfl s9_10)) trivial rfl ?_
         refine al_ro' (ro_ix_own k6_sl22 mo1_9 (up_m rfl up_h) up_h (by first | decide | omega | (simp <;> omega)) (by first | omega | (simp only [lnS] <;> omega) | (simp <;> omega))) trivial rfl ?_
         refine al_stm (st_store_el up_h ev_c rfl rfl rfl mo1_9 (Nat.add_zero _).symm (by first | (refine idx_map ?_; first | omega | (simp only [lnS]; omega)) | (refine idx_mapI ?_; first | omega | (simp only [lnS]; omega)) | (refine idx_mapN ?_; first | omega | (simp only [lnS]; omega)) | rfl) k6_sz3 rfl (by first | exact Nat.le_of_ble_eq_true rfl | omega | (simp only [lnS] <;> omega) | (simp <;> omega))) trivial rfl (fun m_12 hm_12 => ?_)
         have mo1_12 := m_set hm_12 mo1_9
         (try simp only [packA_t, packA_f, iE, bE, setAt, cellsA, Value.cells, map_vc, map_vn, Nat.reduceAdd, qS, rep_iE, set_iE] at mo1_12)
         have mo0_12 := m_set_o hm_12 mo0_9 (by decide)
         have ml_12 := m_set_l hm_12 ml_9
         clear hm_12 mo1_9 mo0_9
         refine al_end (fun e_13 he_13 => ?_)
         have s3_13 := ef 3 he_13 (up_n (up_m rfl (u2 rfl s3_10)))
         have s7_13 := ef 7 he_13 (up_n (up_m rfl (u2 rfl s7_10)))
         have s8_13 := ef 8 he_13 (up_n (up_m rfl (u2 rfl s8_10)))
         have s9_13 := ef 9 he_13 (up_n (up_m rfl (u2 rfl s9_10)))
         clear he_13 s23_10 s3_10 s7_10 s8_10 s9_10
         refine then_n ?_
         refine aw_seq ?_
         refine aw_text (by kernel_rfl) ?_
         refine al_ro' (ro_move s8_13) trivial rfl ?_
         refine al_ro' (ro_move (up_m rfl s9_13)) trivial rfl ?_
         first | (refine al_ro' (ro_add' up_h ev_c ?_) trivial rfl ?_; · (unfold In64; omega)) | refine al_ro' (ro_add up_h ev_c) trivial rfl ?_
         refine al_ro' (ro_ix_own k6_sl22 mo1_12 (u2 rfl up_h) up_h (by first | decide | omega | (simp <;> omega)) (by first | omega | (simp only [lnS] <;> omega) | (simp <;> omega))) trivial rfl ?_
         refine al_ro' (ro_eq (ro_ld_el k6_ty3 rfl mo1_12 up_h (by first | exact Nat.le_of_ble_eq_true rfl | omega | (simp only [lnS] <;> omega) | (simp <;> omega)) (by first | (refine idx_map ?_; first | omega | (simp only [lnS]; omega)) | (refine idx_mapI ?_; first | omega | (simp only [lnS]; omega)) | (refine idx_mapN ?_; first | omega | (simp only [lnS]; omega)) | rfl)) (by first | (simp only [packA_t, packA_f, iE, bE, setAt, cellsA, Value.cells, map_vc, map_vn, Nat.reduceAdd, qS, rep_iE, set_iE] <;> rfl) | rfl)) trivial rfl ?_
         refine al_ro' (ro_neq up_h ev_c) trivial rfl ?_
         refine al_end (fun e_14 he_14 => ?_)
         have s3_14 := ef 3 he_14 (u2 rfl (u4 rfl s3_13))
         have s7_14 := ef 7 he_14 (u2 rfl (u4 rfl s7_13))
         have s8_14 := ef 8 he_14 (u2 rfl (u4 rfl s8_13))
         have s9_14 := ef 9 he_14 (u2 rfl (u4 rfl s9_13))
         have s34_14 := ef 34 he_14 up_h
         clear he_14 s3_13 s7_13 s8_13 s9_13
         refine then_n ?_
         refine aw_case s34_14 (fun hq_15 => ?_) (fun hq_15 => ?_)
         · (first | replace hq_15 := bnt hq_15 | replace hq_15 := bnf hq_15 | replace hq_15 := bt hq_15 | replace hq_15 := bf hq_15 | replace hq_15 := bt' hq_15 | replace hq_15 := bf' hq_15 | skip)
           first
           | (cases hq_15; done) | (exfalso; omega)
           | (
              refine aw_draw 18 (by kernel_rfl) (by kernel_rfl) (by kernel_rfl) (by kernel_rfl) ?_
              refine ds_ro' (ro_move s8_14) trivial rfl ?_
              refine ds_ro' (ro_move (up_m rfl s9_14)) trivial rfl ?_
              refine ds_ro' (ro_move (u2 rfl s7_14)) trivial rfl ?_
              refine ds_ro' (ro_move (up_m rfl (u2 rfl s9_14))) trivial rfl ?_
              refine ds_ro' (ro_eq (ro_ix k6_sl22 (up_m rfl up_h) up_h (by first | decide | omega | (simp <;> omega)) (by first | (refine idx_map ?_; first | omega | (simp only [lnS]; omega)) | (refine idx_mapI ?_; first | omega | (simp only [lnS]; omega)) | (refine idx_mapN ?_; first | omega | (simp only [lnS]; omega)) | rfl)) (by first | (simp only [packA_t, packA_f, iE, bE, setAt, cellsA, Value.cells, map_vc, map_vn, Nat.reduceAdd, qS, rep_iE, set_iE] <;> rfl) | rfl)) trivial rfl ?_
              refine ds_ro' (ro_eq (ro_ld_ref k6_ty3 rfl up_h (by first | exact Nat.le_of_ble_eq_true rfl | omega | (simp only [lnS] <;> omega) | (simp <;> omega))) (by first | (simp only [packA_t, packA_f, iE, bE, setAt, cellsA, Value.cells, map_vc, map_vn, Nat.reduceAdd, qS, rep_iE, set_iE] <;> rfl) | rfl)) trivial rfl ?_
              refine ds_ro' (ro_move (u2 rfl (u4 rfl s8_14))) trivial rfl ?_
              refine ds_ro' (ro_move (up_m rfl (u2 rfl (u4 rfl s9_14)))) trivial rfl ?_
              first | (refine ds_ro' (ro_add' up_h ev_c ?_) trivial rfl ?_; · (unfold In64; omega)) | refine ds_ro' (ro_add up_h ev_c) trivial rfl ?_
              refine ds_ro' (ro_ix_own k6_sl22 mo1_12 (u2 rfl up_h) up_h (by first | decide | omega | (simp <;> omega)) (by first | omega | (simp only [lnS] <;> omega) | (simp <;> omega))) trivial rfl ?_
              refine ds_ro' (ro_eq (ro_ld_el k6_ty3 rfl mo1_12 up_h (by first | exact Nat.le_of_ble_eq_true rfl | omega | (simp only [lnS] <;> omega) | (simp <;> omega)) (by first | (refine idx_map ?_; first | omega | (simp only [lnS]; omega)) | (refine idx_mapI ?_; first | omega | (simp only [lnS]; omega)) | (refine idx_mapN ?_; first | omega | (simp only [lnS]; omega)) | rfl)) (by first | (simp only [packA_t, packA_f, iE, bE, setAt, cellsA, Value.cells, map_vc, map_vn, Nat.reduceAdd, qS, rep_iE, set_iE] <;> rfl) | rfl)) trivial rfl ?_
              refine ds_ro' (ro_eq (ro_ld_ptr k6_ty107 rfl mo0_12 (up_m rfl (u2 rfl (u8 rfl s3_14))) (by first | exact Nat.le_of_ble_eq_true rfl | omega | (simp only [lnS] <;> omega) | (simp <;> omega))) (by first | (simp only [packA_t, packA_f, iE, bE, setAt, cellsA, Value.cells, map_vc, map_vn, Nat.reduceAdd, qS, rep_iE, set_iE] <;> rfl) | rfl)) trivial rfl ?_
              refine ds_ro' (ro_move (u4 rfl (u8 rfl s9_14))) trivial rfl ?_
              refine ds_ro' (ro_call (evL_cons (up_m rfl up_h) (evL_cons up_h evL_nil)) rfl (braked_ok nm ps hok b d v i (by omega) (by omega) hb) k6_hcf65) trivial rfl ?_
              first | (refine ds_ro' (ro_add' (up_m rfl (u2 rfl up_h)) up_h ?_) trivial rfl ?_; · (unfold In64; omega)) | refine ds_ro' (ro_add (up_m rfl (u2 rfl up_h)) up_h) trivial rfl ?_
              refine ds_ro' (ro_min (up_m rfl (u8 rfl up_h)) up_h) trivial rfl ?_
              refine ds_ro' (ro_max ev_c up_h) trivial rfl ?_
              refine ds_ro' (ro_ix_own k6_sl22 mo1_12 (u16 rfl up_h) (up_m rfl (u2 rfl (u4 rfl (u8 rfl up_h)))) (by first | decide | omega | (simp <;> omega)) (by first | omega | (simp only [lnS] <;> omega) | (simp <;> omega))) trivial rfl ?_
              refine ds_nil ?_
              refine al_stm (st_store_el up_h (up_m rfl up_h) rfl rfl rfl mo1_12 (Nat.add_zero _).symm (by first | (refine idx_map ?_; first | omega | (simp only [lnS]; omega)) | (refine idx_mapI ?_; first | omega | (simp only [lnS]; omega)) | (refine idx_mapN ?_; first | omega | (simp only [lnS]; omega)) | rfl) k6_sz3 rfl (by first | exact Nat.le_of_ble_eq_true rfl | omega | (simp only [lnS] <;> omega) | (simp <;> omega))) trivial rfl (fun m_16 hm_16 => ?_)
              have mo1_16 := m_set hm_16 mo1_12
              (try simp only [packA_t, packA_f, iE, bE, setAt, cellsA, Value.cells, map_vc, map_vn, Nat.reduceAdd, qS, rep_iE, set_iE] at mo1_16)
              have mo0_16 := m_set_o hm_16 mo0_12 (by decide)
              have ml_16 := m_set_l hm_16 ml_12
              clear hm_16 mo1_12 mo0_12
              refine al_end (fun e_17 he_17 => ?_)
              have s3_17 := ef 3 he_17 (up_n (u2 rfl (u16 rfl s3_14)))
              have s7_17 := ef 7 he_17 (up_n (u2 rfl (u16 rfl s7_14)))
              have s8_17 := ef 8 he_17 (up_n (u2 rfl (u16 rfl s8_14)))
              have s9_17 := ef 9 he_17 (up_n (u2 rfl (u16 rfl s9_14)))
              clear he_17 s34_14 s3_14 s7_14 s8_14 s9_14
              refine block_n ?_
              refine then_n ?_
              refine aw_text (by kernel_rfl) ?_
              refine al_ro' (ro_move s9_17) trivial rfl ?_
              first | (refine al_ro' (ro_sub' up_h ev_c ?_) trivial rfl ?_; · (unfold In64; omega)) | refine al_ro' (ro_sub up_h ev_c) trivial rfl ?_
              refine al_ro' (ro_assign up_h) trivial rfl ?_
              refine al_end (fun e_18 he_18 => ?_)
              have s3_18 := ef 3 he_18 (up_m rfl (u2 rfl s3_17))
              have s7_18 := ef 7 he_18 (up_m rfl (u2 rfl s7_17))
              have s8_18 := ef 8 he_18 (up_m rfl (u2 rfl s8_17))
              have s9_18 := ef 9 he_18 up_h
              clear he_18 s3_17 s7_17 s8_17 s9_17
              refine then_n ?_
              refine ⟨⟨_, _⟩, ⟨s9_18, (s3_18.trans s3_8.symm), (s7_18.trans s7_8.symm), (s8_18.trans s8_8.symm), mo1_16, (mo0_16.trans mo0_6.symm), ml_16, ?_⟩, ?_⟩
              · (refine ⟨by omega, by omega, by simp; omega, fun j hj hj2 => ?_⟩; by_cases hji : j = i.toNat; (have ek : post.toNat - j = (post.toNat - (i + 1).toNat) + 1 := (by omega); have e2 : post.toNat - (post.toNat - (i + 1).toNat) - 1 = i.toNat := (by omega); rw [ek]; simp only [bwD, e2]; first | (rw [hji, getD_se (by omega)]; rw [if_pos (by rw [← hq4, ← hset]; assumption)]; done) | (rw [hji, getD_se (by omega)]; rw [if_pos (by rw [← hq4, ← hset]; assumption)]) | (rw [hji, getD_se (by simp; omega), if_neg (by omega), hli, hset, hq4])); (first | (rw [getD_sn (by omega)]; exact q4 j (by omega) hj2) | (rw [getD_sn (by omega), getD_sn (by omega)]; exact q4 j (by omega) hj2)))
              · ((try dsimp only); omega))
         · (first | replace hq_15 := bnt hq_15 | replace hq_15 := bnf hq_15 | replace hq_15 := bt hq_15 | replace hq_15 := bf hq_15 | replace hq_15 := bt' hq_15 | replace hq_15 := bf' hq_15 | skip)
           first
           | (cases hq_15; done) | (exfalso; omega)
           | (
              refine aw_skip ?_
              refine block_n ?_
              refine then_n ?_
              refine aw_text (by kernel_rfl) ?_
              refine al_ro' (ro_move s9_14) trivial rfl ?_
              first | (refine al_ro' (ro_sub' up_h ev_c ?_) trivial rfl ?_; · (unfold In64; omega)) | refine al_ro' (ro_sub up_h ev_c) trivial rfl ?_
              refine al_ro' (ro_assign up_h) trivial rfl ?_
              refine al_end (fun e_19 he_19 => ?_)
              have s3_19 := ef 3 he_19 (up_m rfl (u2 rfl s3_14))
              have s7_19 := ef 7 he_19 (up_m rfl (u2 rfl s7_14))
              have s8_19 := ef 8 he_19 (up_m rfl (u2 rfl s8_14))
              have s9_19 := ef 9 he_19 up_h
              clear he_19 s34_14 s3_14 s7_14 s8_14 s9_14
              refine then_n ?_
              refine ⟨⟨_, _⟩, ⟨s9_19, (s3_19.trans s3_8.symm), (s7_19.trans s7_8.symm), (s8_19.trans s8_8.symm), mo1_12, (mo0_12.trans mo0_6.symm), ml_12, ?_⟩, ?_⟩
              · (refine ⟨by omega, by omega, by simp; omega, fun j hj hj2 => ?_⟩; by_cases hji : j = i.toNat; (have ek : post.toNat - j = (post.toNat - (i + 1).toNat) + 1 := (by omega); have e2 : post.toNat - (post.toNat - (i + 1).toNat) - 1 = i.toNat := (by omega); rw [ek]; simp only [bwD, e2]; first | (rw [hji, getD_se (by omega)]; rw [if_pos (by rw [← hq4, ← hset]; assumption)]; done) | (rw [hji, getD_se (by omega)]; rw [if_pos (by rw [← hq4, ← hset]; assumption)]) | (rw [hji, getD_se (by simp; omega), if_neg (by omega), hli, hset, hq4])); (first | (rw [getD_sn (by omega)]; exact q4 j (by omega) hj2) | (rw [getD_sn (by omega), getD_sn (by omega)]; exact q4 j (by omega) hj2)))
              · ((try dsimp only); omega)))
    · (first | replace hq_11 := bnt hq_11 | replace hq_11 := bnf hq_11 | replace hq_11 := bt hq_11 | replace hq_11 := bf hq_11 | replace hq_11 := bt' hq_11 | replace hq_11 := bf' hq_11 | skip)
      first
      | (cases hq_11; done) | (exfalso; omega)
      | (
         refine aw_exit ?_
         refine then_x ?_
         refine then_x ?_
         refine block_hit ?_
         refine then_n ?_
         refine aw_seq ?_
         refine aw_text (by kernel_rfl) ?_
         refine al_ro' (ro_move s8_10) trivial rfl ?_
         refine al_ro' (ro_assign up_h) trivial rfl ?_
         refine al_end (fun e_20 he_20 => ?_)
         have s6_20 := ef 6 he_20 up_h
         clear he_20 s23_10 s3_10 s7_10 s8_10 s9_10
         refine then_n ?_
         refine aw_ret ?_
         refine ret1 (.inr rfl) (by kernel_rfl) (resV_tmp s6_20) (.own _ _ _ _ mo1_9) ?_
         clear s6_20 mo1_9 mo0_9 ml_9
         (obtain ⟨q1, q2, q3, q4⟩ := hinv; congr 2; exact list_eq q3 (fun j hj => q4 j (by omega) (by omega))))
end Go.Proofs.Ytgiiedpambimoaa
