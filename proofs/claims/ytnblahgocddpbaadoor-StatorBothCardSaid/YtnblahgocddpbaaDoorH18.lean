/- The law of chapter 3: no more force than both permit. The variables of the package hold what the text lays. -/
import Derived.Test.YtnblahgocddpbaaDoorH17
namespace Go.Proofs.YtnblahgocddpbaaDoor
open Go Go.RowKit Go.Proofs
set_option linter.unusedSimpArgs false
set_option linter.unusedVariables false
theorem h18_az23 : (Tryd.prog.info? 23).bind (·.zero) = some (.agg #[.int .i64 0, .int .i64 0]) := by kernel_rfl
theorem h18_fl23_0 : FldIs Tryd.prog 23 0 0 false 1 := by unfold FldIs; kernel_rfl
theorem h18_fl23_1 : FldIs Tryd.prog 23 1 1 false 1 := by unfold FldIs; kernel_rfl
theorem h18_hcf4 : ∀ args w, (callFunc 4 args).run Tryd.prog w = .ok (.enter 4 args) w := fun _ _ => by kernel_rfl
theorem h18_hcf5 : ∀ args w, (callFunc 5 args).run Tryd.prog w = .ok (.enter 5 args) w := fun _ _ => by kernel_rfl
theorem h18_hcf6 : ∀ args w, (callFunc 6 args).run Tryd.prog w = .ok (.enter 6 args) w := fun _ _ => by kernel_rfl
theorem h18_hcf7 : ∀ args w, (callFunc 7 args).run Tryd.prog w = .ok (.enter 7 args) w := fun _ _ => by kernel_rfl
theorem h18_hcf8 : ∀ args w, (callFunc 8 args).run Tryd.prog w = .ok (.enter 8 args) w := fun _ _ => by kernel_rfl
theorem h18_hcf9 : ∀ args w, (callFunc 9 args).run Tryd.prog w = .ok (.enter 9 args) w := fun _ _ => by kernel_rfl
theorem h18_sz23 : (Tryd.prog.info? 23).map (·.size) = some 2 := by kernel_rfl
theorem h18_ty23 : TyIs Tryd.prog 23 true 2 := ⟨by kernel_rfl, by kernel_rfl⟩
theorem h18_ty3 : TyIs Tryd.prog 3 false 1 := ⟨by kernel_rfl, by kernel_rfl⟩

set_option maxRecDepth 100000 in
set_option maxHeartbeats 4000000 in
theorem statorBoth_ok (u f : V2) (z : Int) : FnOkG Tryd.prog gT 3 [tA u, tA f, nA z] (fun r => r = oA true) := by
  refine fnOkG_of (fn := Tryd.f3) gT 210 (by kernel_rfl) rfl (by kernel_rfl) (Nat.le_of_ble_eq_true rfl) ?_
  intro e_0 m_0 hA hm_0
  have s0_0 : evA e_0 (.tmp 0) = _ := hA 0 _ rfl
  have s1_0 : evA e_0 (.tmp 1) = _ := hA 1 _ rfl
  have s2_0 : evA e_0 (.tmp 2) = _ := hA 2 _ rfl
  have ml_0 : m_0.length = 1 := by rw [hm_0]; rfl
  have mo0_0 : m_0[0]? = some (.glob gT) := by rw [hm_0]; rfl
  clear hA hm_0
  refine aw_seq ?_
  refine aw_text (by kernel_rfl) ?_
  refine al_stm (st_box s0_0 rfl ml_0) trivial rfl (fun m_1 hm_1 => ?_)
  have mo1_1 := m_push hm_1 ml_0
  (try simp only [packA_t, packA_f, iE, bE, setAt, cellsA, Value.cells, map_vc, map_vn, Nat.reduceAdd, qS, tE] at mo1_1)
  have mo0_1 := m_push_o hm_1 mo0_0
  have ml_1 := m_push_l hm_1 ml_0
  have ml_1 : _ = 2 := ml_1
  clear hm_1 mo0_0
  refine al_stm (st_box (up_m rfl s1_0) rfl ml_1) trivial rfl (fun m_2 hm_2 => ?_)
  have mo2_2 := m_push hm_2 ml_1
  (try simp only [packA_t, packA_f, iE, bE, setAt, cellsA, Value.cells, map_vc, map_vn, Nat.reduceAdd, qS, tE] at mo2_2)
  have mo1_2 := m_push_o hm_2 mo1_1
  have mo0_2 := m_push_o hm_2 mo0_1
  have ml_2 := m_push_l hm_2 ml_1
  have ml_2 : _ = 3 := ml_2
  clear hm_2 mo1_1 mo0_1
  refine al_ro' (ro_assign ev_c) trivial rfl ?_
  refine al_end (fun e_3 he_3 => ?_)
  have s2_3 := ef 2 he_3 (up_m rfl (u2 rfl s2_0))
  have s3_3 := ef 3 he_3 (u2 rfl up_h)
  have s4_3 := ef 4 he_3 (up_m rfl up_h)
  clear he_3 s0_0 s1_0 s2_0
  refine then_n ?_
  refine aw_seq ?_
  refine aw_seq ?_
  refine aw_text (by kernel_rfl) ?_
  refine al_ro' (ro_callG evL_nil rfl mo0_2 (sAwake_ok) h18_hcf4) trivial rfl ?_
  refine al_ro' (ro_not up_h) trivial rfl ?_
  refine al_end (fun e_4 he_4 => ?_)
  have s2_4 := ef 2 he_4 (u2 rfl s2_3)
  have s3_4 := ef 3 he_4 (u2 rfl s3_3)
  have s4_4 := ef 4 he_4 (u2 rfl s4_3)
  have s23_4 := ef 23 he_4 up_h
  clear he_4 s2_3 s3_3 s4_3
  refine then_n ?_
  refine aw_case s23_4 (fun hq_5 => ?_) (fun hq_5 => ?_)
  ·(first | replace hq_5 := bnt hq_5 | replace hq_5 := bnf hq_5 | replace hq_5 := bt hq_5 | replace hq_5 := bf hq_5 | replace hq_5 := bt' hq_5 | replace hq_5 := bf' hq_5 | skip)
   first
   |(cases hq_5; done) | (exfalso; omega)
   |(
     refine aw_seq ?_
     refine aw_text (by kernel_rfl) ?_
     refine al_ro' (ro_assign ev_c) trivial rfl ?_
     refine al_end (fun e_6 he_6 => ?_)
     have s6_6 := ef 6 he_6 up_h
     clear he_6 s23_4 s2_4 s3_4 s4_4
     refine then_n ?_
     refine aw_ret ?_
     refine then_r ?_
     refine ret1 (.inr rfl) (by kernel_rfl) (resV_tmp s6_6) (.ro _ rfl) ?_
     clear s6_6 mo2_2 mo1_2 mo0_2 ml_2
     (first | rfl | (simp; done) | (exfalso; omega)))
  ·(first | replace hq_5 := bnt hq_5 | replace hq_5 := bnf hq_5 | replace hq_5 := bt hq_5 | replace hq_5 := bf hq_5 | replace hq_5 := bt' hq_5 | replace hq_5 := bf' hq_5 | skip)
   first
   |(cases hq_5; done) | (exfalso; omega)
   |(
     refine aw_skip ?_
     refine then_n ?_
     refine aw_seq ?_
     refine aw_seq ?_
     refine aw_cut (fun e mem => (evA e (.tmp 50) = .v (.bool (!(withinB u.1 (-10000) 10000 && withinB u.2 (-10000) 10000 && withinB f.1 (-10000) 10000 && withinB f.2 (-10000) 10000 && withinB z (-100) 100)))) ∧ (evA e (.tmp 2) = evA e_4 (.tmp 2)) ∧ (evA e (.tmp 3) = evA e_4 (.tmp 3)) ∧ (evA e (.tmp 4) = evA e_4 (.tmp 4)) ∧ m_2 = mem) ?_ ?_
     ·
       refine aw_text (by kernel_rfl) ?_
       refine al_ro' (ro_fld_ptr h18_fl23_0 rfl s3_4) trivial rfl ?_
       refine al_ro' (ro_eq (ro_ld_ptr h18_ty3 rfl mo1_2 up_h (by first | exact Nat.le_of_ble_eq_true rfl | omega | (simp only [lnS] <;> omega) | (simp <;> omega))) (by first | (simp only [packA_t, packA_f, iE, bE, setAt, cellsA, Value.cells, map_vc, map_vn, Nat.reduceAdd, qS, tE] <;> rfl) | rfl)) trivial rfl ?_
       refine al_ro' (ro_call (evL_cons up_h (evL_cons ev_c (evL_cons ev_c evL_nil))) rfl (bWithin_ok _ _ _) h18_hcf5) trivial rfl ?_
       refine al_ro' (ro_not up_h) trivial rfl ?_
       refine al_ro' (ro_move up_h) trivial rfl ?_
       refine al_case up_h (fun hb_8 hq_8 => ?_) (fun hb_8 hq_8 => ?_)
       ·(first | replace hq_8 := bnt hq_8 | replace hq_8 := bnf hq_8 | replace hq_8 := bt hq_8 | replace hq_8 := bf hq_8 | replace hq_8 := bt' hq_8 | replace hq_8 := bf' hq_8 | skip)
        first
        |(cases hq_8; done) | (exfalso; omega)
        |(
          refine al_skip' ⟨_, rfl, .inl hb_8⟩ rfl ?_
          refine al_skip' ⟨_, rfl, .inl (up_m rfl hb_8)⟩ rfl ?_
          refine al_skip' ⟨_, rfl, .inl (u2 rfl hb_8)⟩ rfl ?_
          refine al_skip' ⟨_, rfl, .inl (up_m rfl (u2 rfl hb_8))⟩ rfl ?_
          refine al_ro' (ro_pickT (u4 rfl hb_8) ev_c) trivial rfl ?_
          refine al_ro' (ro_move up_h) trivial rfl ?_
          refine al_skip' ⟨_, rfl, .inl up_h⟩ rfl ?_
          refine al_skip' ⟨_, rfl, .inl (up_m rfl up_h)⟩ rfl ?_
          refine al_skip' ⟨_, rfl, .inl (u2 rfl up_h)⟩ rfl ?_
          refine al_skip' ⟨_, rfl, .inl (up_m rfl (u2 rfl up_h))⟩ rfl ?_
          refine al_ro' (ro_pickT (u4 rfl up_h) ev_c) trivial rfl ?_
          refine al_ro' (ro_move up_h) trivial rfl ?_
          refine al_skip' ⟨_, rfl, .inl up_h⟩ rfl ?_
          refine al_skip' ⟨_, rfl, .inl (up_m rfl up_h)⟩ rfl ?_
          refine al_skip' ⟨_, rfl, .inl (u2 rfl up_h)⟩ rfl ?_
          refine al_skip' ⟨_, rfl, .inl (up_m rfl (u2 rfl up_h))⟩ rfl ?_
          refine al_ro' (ro_pickT (u4 rfl up_h) ev_c) trivial rfl ?_
          refine al_ro' (ro_move up_h) trivial rfl ?_
          refine al_skip' ⟨_, rfl, .inl up_h⟩ rfl ?_
          refine al_skip' ⟨_, rfl, .inl (up_m rfl up_h)⟩ rfl ?_
          refine al_skip' ⟨_, rfl, .inl (u2 rfl up_h)⟩ rfl ?_
          refine al_ro' (ro_pickT (up_m rfl (u2 rfl up_h)) ev_c) trivial rfl ?_
          refine al_end (fun e_9 he_9 => ?_)
          have s2_9 := ef 2 he_9 (up_m rfl (u2 rfl (u8 rfl (u16 rfl s2_4))))
          have s3_9 := ef 3 he_9 (up_m rfl (u2 rfl (u8 rfl (u16 rfl s3_4))))
          have s4_9 := ef 4 he_9 (up_m rfl (u2 rfl (u8 rfl (u16 rfl s4_4))))
          have s50_9 := ef 50 he_9 up_h
          clear he_9
          refine then_n ⟨(s50_9).trans (by (refine avb ?_; simp_all; try omega)), (s2_9).trans (s2_4).symm, (s3_9).trans (s3_4).symm, (s4_9).trans (s4_4).symm, rfl⟩)
       ·(first | replace hq_8 := bnt hq_8 | replace hq_8 := bnf hq_8 | replace hq_8 := bt hq_8 | replace hq_8 := bf hq_8 | replace hq_8 := bt' hq_8 | replace hq_8 := bf' hq_8 | skip)
        first
        |(cases hq_8; done) | (exfalso; omega)
        |(
          refine al_ro' (ro_fld_ptr h18_fl23_1 rfl (up_m rfl (u4 rfl s3_4))) ⟨_, rfl, hb_8⟩ rfl ?_
          refine al_ro' (ro_eq (ro_ld_ptr h18_ty3 rfl mo1_2 up_h (by first | exact Nat.le_of_ble_eq_true rfl | omega | (simp only [lnS] <;> omega) | (simp <;> omega))) (by first | (simp only [packA_t, packA_f, iE, bE, setAt, cellsA, Value.cells, map_vc, map_vn, Nat.reduceAdd, qS, tE] <;> rfl) | rfl)) ⟨_, rfl, (up_m rfl hb_8)⟩ rfl ?_
          refine al_ro' (ro_call (evL_cons up_h (evL_cons ev_c (evL_cons ev_c evL_nil))) rfl (bWithin_ok _ _ _) h18_hcf5) ⟨_, rfl, (u2 rfl hb_8)⟩ rfl ?_
          refine al_ro' (ro_not up_h) ⟨_, rfl, (up_m rfl (u2 rfl hb_8))⟩ rfl ?_
          refine al_ro' (ro_pickF (u4 rfl hb_8) up_h) trivial rfl ?_
          refine al_ro' (ro_move up_h) trivial rfl ?_
          refine al_case up_h (fun hb_10 hq_10 => ?_) (fun hb_10 hq_10 => ?_)
          ·(first | replace hq_10 := bnt hq_10 | replace hq_10 := bnf hq_10 | replace hq_10 := bt hq_10 | replace hq_10 := bf hq_10 | replace hq_10 := bt' hq_10 | replace hq_10 := bf' hq_10 | skip)
           first
           |(cases hq_10; done) | (exfalso; omega)
           |(
             refine al_skip' ⟨_, rfl, .inl hb_10⟩ rfl ?_
             refine al_skip' ⟨_, rfl, .inl (up_m rfl hb_10)⟩ rfl ?_
             refine al_skip' ⟨_, rfl, .inl (u2 rfl hb_10)⟩ rfl ?_
             refine al_skip' ⟨_, rfl, .inl (up_m rfl (u2 rfl hb_10))⟩ rfl ?_
             refine al_ro' (ro_pickT (u4 rfl hb_10) ev_c) trivial rfl ?_
             refine al_ro' (ro_move up_h) trivial rfl ?_
             refine al_skip' ⟨_, rfl, .inl up_h⟩ rfl ?_
             refine al_skip' ⟨_, rfl, .inl (up_m rfl up_h)⟩ rfl ?_
             refine al_skip' ⟨_, rfl, .inl (u2 rfl up_h)⟩ rfl ?_
             refine al_skip' ⟨_, rfl, .inl (up_m rfl (u2 rfl up_h))⟩ rfl ?_
             refine al_ro' (ro_pickT (u4 rfl up_h) ev_c) trivial rfl ?_
             refine al_ro' (ro_move up_h) trivial rfl ?_
             refine al_skip' ⟨_, rfl, .inl up_h⟩ rfl ?_
             refine al_skip' ⟨_, rfl, .inl (up_m rfl up_h)⟩ rfl ?_
             refine al_skip' ⟨_, rfl, .inl (u2 rfl up_h)⟩ rfl ?_
             refine al_ro' (ro_pickT (up_m rfl (u2 rfl up_h)) ev_c) trivial rfl ?_
             refine al_end (fun e_11 he_11 => ?_)
             have s2_11 := ef 2 he_11 (up_m rfl (u2 rfl (u8 rfl (u16 rfl s2_4))))
             have s3_11 := ef 3 he_11 (up_m rfl (u2 rfl (u8 rfl (u16 rfl s3_4))))
             have s4_11 := ef 4 he_11 (up_m rfl (u2 rfl (u8 rfl (u16 rfl s4_4))))
             have s50_11 := ef 50 he_11 up_h
             clear he_11
             refine then_n ⟨(s50_11).trans (by (refine avb ?_; simp_all; try omega)), (s2_11).trans (s2_4).symm, (s3_11).trans (s3_4).symm, (s4_11).trans (s4_4).symm, rfl⟩)
          ·(first | replace hq_10 := bnt hq_10 | replace hq_10 := bnf hq_10 | replace hq_10 := bt hq_10 | replace hq_10 := bf hq_10 | replace hq_10 := bt' hq_10 | replace hq_10 := bf' hq_10 | skip)
           first
           |(cases hq_10; done) | (exfalso; omega)
           |(
             refine al_ro' (ro_fld_ptr h18_fl23_0 rfl (up_m rfl (u2 rfl (u8 rfl s4_4)))) ⟨_, rfl, hb_10⟩ rfl ?_
             refine al_ro' (ro_eq (ro_ld_ptr h18_ty3 rfl mo2_2 up_h (by first | exact Nat.le_of_ble_eq_true rfl | omega | (simp only [lnS] <;> omega) | (simp <;> omega))) (by first | (simp only [packA_t, packA_f, iE, bE, setAt, cellsA, Value.cells, map_vc, map_vn, Nat.reduceAdd, qS, tE] <;> rfl) | rfl)) ⟨_, rfl, (up_m rfl hb_10)⟩ rfl ?_
             refine al_ro' (ro_call (evL_cons up_h (evL_cons ev_c (evL_cons ev_c evL_nil))) rfl (bWithin_ok _ _ _) h18_hcf5) ⟨_, rfl, (u2 rfl hb_10)⟩ rfl ?_
             refine al_ro' (ro_not up_h) ⟨_, rfl, (up_m rfl (u2 rfl hb_10))⟩ rfl ?_
             refine al_ro' (ro_pickF (u4 rfl hb_10) up_h) trivial rfl ?_
             refine al_ro' (ro_move up_h) trivial rfl ?_
             refine al_case up_h (fun hb_12 hq_12 => ?_) (fun hb_12 hq_12 => ?_)
             ·(first | replace hq_12 := bnt hq_12 | replace hq_12 := bnf hq_12 | replace hq_12 := bt hq_12 | replace hq_12 := bf hq_12 | replace hq_12 := bt' hq_12 | replace hq_12 := bf' hq_12 | skip)
              first
              |(cases hq_12; done) | (exfalso; omega)
              |(
                refine al_skip' ⟨_, rfl, .inl hb_12⟩ rfl ?_
                refine al_skip' ⟨_, rfl, .inl (up_m rfl hb_12)⟩ rfl ?_
                refine al_skip' ⟨_, rfl, .inl (u2 rfl hb_12)⟩ rfl ?_
                refine al_skip' ⟨_, rfl, .inl (up_m rfl (u2 rfl hb_12))⟩ rfl ?_
                refine al_ro' (ro_pickT (u4 rfl hb_12) ev_c) trivial rfl ?_
                refine al_ro' (ro_move up_h) trivial rfl ?_
                refine al_skip' ⟨_, rfl, .inl up_h⟩ rfl ?_
                refine al_skip' ⟨_, rfl, .inl (up_m rfl up_h)⟩ rfl ?_
                refine al_skip' ⟨_, rfl, .inl (u2 rfl up_h)⟩ rfl ?_
                refine al_ro' (ro_pickT (up_m rfl (u2 rfl up_h)) ev_c) trivial rfl ?_
                refine al_end (fun e_13 he_13 => ?_)
                have s2_13 := ef 2 he_13 (up_m rfl (u2 rfl (u8 rfl (u16 rfl s2_4))))
                have s3_13 := ef 3 he_13 (up_m rfl (u2 rfl (u8 rfl (u16 rfl s3_4))))
                have s4_13 := ef 4 he_13 (up_m rfl (u2 rfl (u8 rfl (u16 rfl s4_4))))
                have s50_13 := ef 50 he_13 up_h
                clear he_13
                refine then_n ⟨(s50_13).trans (by (refine avb ?_; simp_all; try omega)), (s2_13).trans (s2_4).symm, (s3_13).trans (s3_4).symm, (s4_13).trans (s4_4).symm, rfl⟩)
             ·(first | replace hq_12 := bnt hq_12 | replace hq_12 := bnf hq_12 | replace hq_12 := bt hq_12 | replace hq_12 := bf hq_12 | replace hq_12 := bt' hq_12 | replace hq_12 := bf' hq_12 | skip)
              first
              |(cases hq_12; done) | (exfalso; omega)
              |(
                refine al_ro' (ro_fld_ptr h18_fl23_1 rfl (up_m rfl (u16 rfl s4_4))) ⟨_, rfl, hb_12⟩ rfl ?_
                refine al_ro' (ro_eq (ro_ld_ptr h18_ty3 rfl mo2_2 up_h (by first | exact Nat.le_of_ble_eq_true rfl | omega | (simp only [lnS] <;> omega) | (simp <;> omega))) (by first | (simp only [packA_t, packA_f, iE, bE, setAt, cellsA, Value.cells, map_vc, map_vn, Nat.reduceAdd, qS, tE] <;> rfl) | rfl)) ⟨_, rfl, (up_m rfl hb_12)⟩ rfl ?_
                refine al_ro' (ro_call (evL_cons up_h (evL_cons ev_c (evL_cons ev_c evL_nil))) rfl (bWithin_ok _ _ _) h18_hcf5) ⟨_, rfl, (u2 rfl hb_12)⟩ rfl ?_
                refine al_ro' (ro_not up_h) ⟨_, rfl, (up_m rfl (u2 rfl hb_12))⟩ rfl ?_
                refine al_ro' (ro_pickF (u4 rfl hb_12) up_h) trivial rfl ?_
                refine al_ro' (ro_move up_h) trivial rfl ?_
                refine al_case up_h (fun hb_14 hq_14 => ?_) (fun hb_14 hq_14 => ?_)
                ·(first | replace hq_14 := bnt hq_14 | replace hq_14 := bnf hq_14 | replace hq_14 := bt hq_14 | replace hq_14 := bf hq_14 | replace hq_14 := bt' hq_14 | replace hq_14 := bf' hq_14 | skip)
                 first
                 |(cases hq_14; done) | (exfalso; omega)
                 |(
                   refine al_skip' ⟨_, rfl, .inl hb_14⟩ rfl ?_
                   refine al_skip' ⟨_, rfl, .inl (up_m rfl hb_14)⟩ rfl ?_
                   refine al_skip' ⟨_, rfl, .inl (u2 rfl hb_14)⟩ rfl ?_
                   refine al_ro' (ro_pickT (up_m rfl (u2 rfl hb_14)) ev_c) trivial rfl ?_
                   refine al_end (fun e_15 he_15 => ?_)
                   have s2_15 := ef 2 he_15 (up_m rfl (u2 rfl (u8 rfl (u16 rfl s2_4))))
                   have s3_15 := ef 3 he_15 (up_m rfl (u2 rfl (u8 rfl (u16 rfl s3_4))))
                   have s4_15 := ef 4 he_15 (up_m rfl (u2 rfl (u8 rfl (u16 rfl s4_4))))
                   have s50_15 := ef 50 he_15 up_h
                   clear he_15
                   refine then_n ⟨(s50_15).trans (by (refine avb ?_; simp_all; try omega)), (s2_15).trans (s2_4).symm, (s3_15).trans (s3_4).symm, (s4_15).trans (s4_4).symm, rfl⟩)
                ·(first | replace hq_14 := bnt hq_14 | replace hq_14 := bnf hq_14 | replace hq_14 := bt hq_14 | replace hq_14 := bf hq_14 | replace hq_14 := bt' hq_14 | replace hq_14 := bf' hq_14 | skip)
                 first
                 |(cases hq_14; done) | (exfalso; omega)
                 |(
                   refine al_ro' (ro_move (up_m rfl (u2 rfl (u4 rfl (u16 rfl s2_4))))) ⟨_, rfl, hb_14⟩ rfl ?_
                   refine al_ro' (ro_call (evL_cons up_h (evL_cons ev_c (evL_cons ev_c evL_nil))) rfl (bWithin_ok _ _ _) h18_hcf5) ⟨_, rfl, (up_m rfl hb_14)⟩ rfl ?_
                   refine al_ro' (ro_not up_h) ⟨_, rfl, (u2 rfl hb_14)⟩ rfl ?_
                   refine al_ro' (ro_pickF (up_m rfl (u2 rfl hb_14)) up_h) trivial rfl ?_
                   refine al_end (fun e_16 he_16 => ?_)
                   have s2_16 := ef 2 he_16 (up_m rfl (u2 rfl (u8 rfl (u16 rfl s2_4))))
                   have s3_16 := ef 3 he_16 (up_m rfl (u2 rfl (u8 rfl (u16 rfl s3_4))))
                   have s4_16 := ef 4 he_16 (up_m rfl (u2 rfl (u8 rfl (u16 rfl s4_4))))
                   have s50_16 := ef 50 he_16 up_h
                   clear he_16
                   refine then_n ⟨(s50_16).trans (by (refine avb ?_; simp_all; try omega)), (s2_16).trans (s2_4).symm, (s3_16).trans (s3_4).symm, (s4_16).trans (s4_4).symm, rfl⟩))))
     · rintro e_7 _ ⟨s50_7, k2_7, k3_7, k4_7, rfl⟩
       have s2_7 := k2_7.trans s2_4
       have s3_7 := k3_7.trans s3_4
       have s4_7 := k4_7.trans s4_4
       refine aw_case s50_7 (fun hq_17 => ?_) (fun hq_17 => ?_)
       ·(first | replace hq_17 := bnt hq_17 | replace hq_17 := bnf hq_17 | replace hq_17 := bt hq_17 | replace hq_17 := bf hq_17 | replace hq_17 := bt' hq_17 | replace hq_17 := bf' hq_17 | skip)
        first
        |(cases hq_17; done) | (exfalso; omega)
        |(
          refine aw_seq ?_
          refine aw_text (by kernel_rfl) ?_
          refine al_ro' (ro_assign ev_c) trivial rfl ?_
          refine al_end (fun e_18 he_18 => ?_)
          have s6_18 := ef 6 he_18 up_h
          clear he_18 s2_7 s3_7 s4_7 s50_7
          refine then_n ?_
          refine aw_ret ?_
          refine then_r ?_
          refine ret1 (.inr rfl) (by kernel_rfl) (resV_tmp s6_18) (.ro _ rfl) ?_
          clear s6_18 mo2_2 mo1_2 mo0_2 ml_2
          (first | rfl | (simp; done) | (exfalso; omega)))
       ·(first | replace hq_17 := bnt hq_17 | replace hq_17 := bnf hq_17 | replace hq_17 := bt hq_17 | replace hq_17 := bf hq_17 | replace hq_17 := bt' hq_17 | replace hq_17 := bf' hq_17 | skip)
        first
        |(cases hq_17; done) | (exfalso; omega)
        |(
          (have hg : (withinB u.1 (-10000) 10000 && withinB u.2 (-10000) 10000 && withinB f.1 (-10000) 10000 && withinB f.2 (-10000) 10000 && withinB z (-100) 100) = true := (by simp_all); simp only [withinB, Bool.and_eq_true, decide_eq_true_eq] at hg; have hu : Bd 10000 u := ⟨hg.1.1.1.1, hg.1.1.1.2⟩; have hf : Bd 10000 f := ⟨hg.1.1.2, hg.1.2⟩; have hz := hg.2; clear hg; have hL := both_law (u := u) (f := f) rfl rfl; have hqb := force_bd2 hu hf; have hs1 := sq_bd (by decide) hu; have hs2 := sq_bd (by decide) hf; have m1 := mulBd (A := 300000000) (B := 300000000) (a := sqV u) (b := sqV f) (by omega) (by omega); have m2 := mulBd (A := 200000000) (B := 200000000) (a := (prodV u f).2) (b := (prodV u f).2) hqb hqb; have e3 : 3 * (prodV u f).2 * (prodV u f).2 = 3 * ((prodV u f).2 * (prodV u f).2) := Int.mul_assoc _ _ _; have ht1 := tur_right (v := u) (z := z) (hu.mono (by decide)) hz; have ht2 := tur_right (v := f) (z := z) (hf.mono (by decide)) hz)
          refine aw_skip ?_
          refine then_n ?_
          refine aw_seq ?_
          refine aw_text (by kernel_rfl) ?_
          refine al_ro' (ro_eq (ro_ld_ptr h18_ty23 rfl mo1_2 s3_7 (by first | exact Nat.le_of_ble_eq_true rfl | omega | (simp only [lnS] <;> omega) | (simp <;> omega))) (by first | (simp only [packA_t, packA_f, iE, bE, setAt, cellsA, Value.cells, map_vc, map_vn, Nat.reduceAdd, qS, tE] <;> rfl) | rfl)) trivial rfl ?_
          refine al_ro' (ro_eq (ro_ld_ptr h18_ty23 rfl mo2_2 (up_m rfl s4_7) (by first | exact Nat.le_of_ble_eq_true rfl | omega | (simp only [lnS] <;> omega) | (simp <;> omega))) (by first | (simp only [packA_t, packA_f, iE, bE, setAt, cellsA, Value.cells, map_vc, map_vn, Nat.reduceAdd, qS, tE] <;> rfl) | rfl)) trivial rfl ?_
          refine al_ro' (ro_call (evL_cons (up_m rfl up_h) (evL_cons up_h evL_nil)) rfl (forceOf_ok u f (hu.mono (by decide)) (hf.mono (by decide))) h18_hcf6) trivial rfl ?_
          refine al_ro' (ro_move up_h) trivial rfl ?_
          refine al_ro' (ro_extract up_h rfl) trivial rfl ?_
          refine al_ro' (ro_extract (up_m rfl up_h) rfl) trivial rfl ?_
          refine al_ro' (ro_assign (up_m rfl up_h)) trivial rfl ?_
          refine al_ro' (ro_assign (up_m rfl up_h)) trivial rfl ?_
          refine al_end (fun e_19 he_19 => ?_)
          have s2_19 := ef 2 he_19 (u8 rfl s2_7)
          have s3_19 := ef 3 he_19 (u8 rfl s3_7)
          have s4_19 := ef 4 he_19 (u8 rfl s4_7)
          have s7_19 := ef 7 he_19 (up_m rfl up_h)
          have s8_19 := ef 8 he_19 up_h
          clear he_19 s2_7 s3_7 s4_7 s50_7
          refine then_n ?_
          refine aw_seq ?_
          refine aw_text (by kernel_rfl) ?_
          refine al_ro' (ro_eq (ro_ld_ptr h18_ty23 rfl mo1_2 s3_19 (by first | exact Nat.le_of_ble_eq_true rfl | omega | (simp only [lnS] <;> omega) | (simp <;> omega))) (by first | (simp only [packA_t, packA_f, iE, bE, setAt, cellsA, Value.cells, map_vc, map_vn, Nat.reduceAdd, qS, tE] <;> rfl) | rfl)) trivial rfl ?_
          refine al_ro' (ro_eq (ro_ld_ptr h18_ty23 rfl mo2_2 (up_m rfl s4_19) (by first | exact Nat.le_of_ble_eq_true rfl | omega | (simp only [lnS] <;> omega) | (simp <;> omega))) (by first | (simp only [packA_t, packA_f, iE, bE, setAt, cellsA, Value.cells, map_vc, map_vn, Nat.reduceAdd, qS, tE] <;> rfl) | rfl)) trivial rfl ?_
          refine al_ro' (ro_call (evL_cons (up_m rfl up_h) (evL_cons up_h evL_nil)) rfl (marginOf_ok u f (hu.mono (by decide)) (hf.mono (by decide))) h18_hcf7) trivial rfl ?_
          refine al_ro' (ro_move up_h) trivial rfl ?_
          refine al_ro' (ro_extract up_h rfl) trivial rfl ?_
          refine al_ro' (ro_extract (up_m rfl up_h) rfl) trivial rfl ?_
          refine al_ro' (ro_assign (up_m rfl up_h)) trivial rfl ?_
          refine al_ro' (ro_assign (up_m rfl up_h)) trivial rfl ?_
          refine al_end (fun e_20 he_20 => ?_)
          have s2_20 := ef 2 he_20 (u8 rfl s2_19)
          have s3_20 := ef 3 he_20 (u8 rfl s3_19)
          have s4_20 := ef 4 he_20 (u8 rfl s4_19)
          have s7_20 := ef 7 he_20 (u8 rfl s7_19)
          have s8_20 := ef 8 he_20 (u8 rfl s8_19)
          have s9_20 := ef 9 he_20 (up_m rfl up_h)
          have s10_20 := ef 10 he_20 up_h
          clear he_20 s2_19 s3_19 s4_19 s7_19 s8_19
          refine then_n ?_
          refine aw_seq ?_
          refine aw_text (by kernel_rfl) ?_
          refine al_ro' (ro_eq (ro_ld_ptr h18_ty23 rfl mo2_2 s4_20 (by first | exact Nat.le_of_ble_eq_true rfl | omega | (simp only [lnS] <;> omega) | (simp <;> omega))) (by first | (simp only [packA_t, packA_f, iE, bE, setAt, cellsA, Value.cells, map_vc, map_vn, Nat.reduceAdd, qS, tE] <;> rfl) | rfl)) trivial rfl ?_
          refine al_ro' (ro_eq (ro_ld_ptr h18_ty23 rfl mo1_2 (up_m rfl s3_20) (by first | exact Nat.le_of_ble_eq_true rfl | omega | (simp only [lnS] <;> omega) | (simp <;> omega))) (by first | (simp only [packA_t, packA_f, iE, bE, setAt, cellsA, Value.cells, map_vc, map_vn, Nat.reduceAdd, qS, tE] <;> rfl) | rfl)) trivial rfl ?_
          refine al_ro' (ro_call (evL_cons (up_m rfl up_h) (evL_cons up_h evL_nil)) rfl ((forceOf_ok f u (hf.mono (by decide)) (hu.mono (by decide))).mono (fun q h => h.trans (by rw [force_swap]))) h18_hcf6) trivial rfl ?_
          refine al_ro' (ro_move up_h) trivial rfl ?_
          refine al_ro' (ro_extract up_h rfl) trivial rfl ?_
          refine al_ro' (ro_extract (up_m rfl up_h) rfl) trivial rfl ?_
          refine al_ro' (ro_assign (up_m rfl up_h)) trivial rfl ?_
          refine al_ro' (ro_assign (up_m rfl up_h)) trivial rfl ?_
          refine al_end (fun e_21 he_21 => ?_)
          have s2_21 := ef 2 he_21 (u8 rfl s2_20)
          have s3_21 := ef 3 he_21 (u8 rfl s3_20)
          have s4_21 := ef 4 he_21 (u8 rfl s4_20)
          have s7_21 := ef 7 he_21 (u8 rfl s7_20)
          have s8_21 := ef 8 he_21 (u8 rfl s8_20)
          have s9_21 := ef 9 he_21 (u8 rfl s9_20)
          have s10_21 := ef 10 he_21 (u8 rfl s10_20)
          have s11_21 := ef 11 he_21 (up_m rfl up_h)
          have s12_21 := ef 12 he_21 up_h
          clear he_21 s10_20 s2_20 s3_20 s4_20 s7_20 s8_20 s9_20
          refine then_n ?_
          refine aw_seq ?_
          refine aw_seq ?_
          refine aw_cut (fun e mem => (evA e (.tmp 89) = .v (.bool false)) ∧ (evA e (.tmp 2) = evA e_21 (.tmp 2)) ∧ (evA e (.tmp 3) = evA e_21 (.tmp 3)) ∧ (evA e (.tmp 4) = evA e_21 (.tmp 4)) ∧ (evA e (.tmp 7) = evA e_21 (.tmp 7)) ∧ (evA e (.tmp 9) = evA e_21 (.tmp 9)) ∧ m_2 = mem) ?_ ?_
          ·
            refine aw_text (by kernel_rfl) ?_
            refine al_ro' (ro_move s8_21) trivial rfl ?_
            refine al_ro' (ro_neq up_h ev_c) trivial rfl ?_
            refine al_ro' (ro_move up_h) trivial rfl ?_
            refine al_case up_h (fun hb_23 hq_23 => ?_) (fun hb_23 hq_23 => ?_)
            ·(first | replace hq_23 := bnt hq_23 | replace hq_23 := bnf hq_23 | replace hq_23 := bt hq_23 | replace hq_23 := bf hq_23 | replace hq_23 := bt' hq_23 | replace hq_23 := bf' hq_23 | skip)
             first
             |(cases hq_23; done) | (exfalso; omega)
             |(
               refine al_skip' ⟨_, rfl, .inl hb_23⟩ rfl ?_
               refine al_skip' ⟨_, rfl, .inl (up_m rfl hb_23)⟩ rfl ?_
               refine al_ro' (ro_pickT (u2 rfl hb_23) ev_c) trivial rfl ?_
               refine al_ro' (ro_move up_h) trivial rfl ?_
               refine al_skip' ⟨_, rfl, .inl up_h⟩ rfl ?_
               refine al_skip' ⟨_, rfl, .inl (up_m rfl up_h)⟩ rfl ?_
               refine al_ro' (ro_pickT (u2 rfl up_h) ev_c) trivial rfl ?_
               refine al_ro' (ro_move up_h) trivial rfl ?_
               refine al_skip' ⟨_, rfl, .inl up_h⟩ rfl ?_
               refine al_skip' ⟨_, rfl, .inl (up_m rfl up_h)⟩ rfl ?_
               refine al_skip' ⟨_, rfl, .inl (u2 rfl up_h)⟩ rfl ?_
               refine al_skip' ⟨_, rfl, .inl (up_m rfl (u2 rfl up_h))⟩ rfl ?_
               refine al_ro' (ro_pickT (u4 rfl up_h) ev_c) trivial rfl ?_
               refine al_ro' (ro_move up_h) trivial rfl ?_
               refine al_skip' ⟨_, rfl, .inl up_h⟩ rfl ?_
               refine al_skip' ⟨_, rfl, .inl (up_m rfl up_h)⟩ rfl ?_
               refine al_skip' ⟨_, rfl, .inl (u2 rfl up_h)⟩ rfl ?_
               refine al_ro' (ro_pickT (up_m rfl (u2 rfl up_h)) ev_c) trivial rfl ?_
               refine al_end (fun e_24 he_24 => ?_)
               have s2_24 := ef 2 he_24 (up_m rfl (u4 rfl (u16 rfl s2_21)))
               have s3_24 := ef 3 he_24 (up_m rfl (u4 rfl (u16 rfl s3_21)))
               have s4_24 := ef 4 he_24 (up_m rfl (u4 rfl (u16 rfl s4_21)))
               have s7_24 := ef 7 he_24 (up_m rfl (u4 rfl (u16 rfl s7_21)))
               have s9_24 := ef 9 he_24 (up_m rfl (u4 rfl (u16 rfl s9_21)))
               have s89_24 := ef 89 he_24 up_h
               clear he_24
               refine then_n ⟨(s89_24).trans (by (first | rfl | (refine avb ?_; simp [withinB] at *; done) | (refine avb ?_; simp [withinB] at *; omega))), (s2_24).trans (s2_21).symm, (s3_24).trans (s3_21).symm, (s4_24).trans (s4_21).symm, (s7_24).trans (s7_21).symm, (s9_24).trans (s9_21).symm, rfl⟩)
            ·(first | replace hq_23 := bnt hq_23 | replace hq_23 := bnf hq_23 | replace hq_23 := bt hq_23 | replace hq_23 := bf hq_23 | replace hq_23 := bt' hq_23 | replace hq_23 := bf' hq_23 | skip)
             first
             |(cases hq_23; done) | (exfalso; omega)
             |(
               refine al_ro' (ro_move (up_m rfl (u2 rfl s10_21))) ⟨_, rfl, hb_23⟩ rfl ?_
               refine al_ro' (ro_neq up_h ev_c) ⟨_, rfl, (up_m rfl hb_23)⟩ rfl ?_
               refine al_ro' (ro_pickF (u2 rfl hb_23) up_h) trivial rfl ?_
               refine al_ro' (ro_move up_h) trivial rfl ?_
               refine al_case up_h (fun hb_25 hq_25 => ?_) (fun hb_25 hq_25 => ?_)
               ·(first | replace hq_25 := bnt hq_25 | replace hq_25 := bnf hq_25 | replace hq_25 := bt hq_25 | replace hq_25 := bf hq_25 | replace hq_25 := bt' hq_25 | replace hq_25 := bf' hq_25 | skip)
                first
                |(cases hq_25; done) | (exfalso; omega)
                |(
                  refine al_skip' ⟨_, rfl, .inl hb_25⟩ rfl ?_
                  refine al_skip' ⟨_, rfl, .inl (up_m rfl hb_25)⟩ rfl ?_
                  refine al_ro' (ro_pickT (u2 rfl hb_25) ev_c) trivial rfl ?_
                  refine al_ro' (ro_move up_h) trivial rfl ?_
                  refine al_skip' ⟨_, rfl, .inl up_h⟩ rfl ?_
                  refine al_skip' ⟨_, rfl, .inl (up_m rfl up_h)⟩ rfl ?_
                  refine al_skip' ⟨_, rfl, .inl (u2 rfl up_h)⟩ rfl ?_
                  refine al_skip' ⟨_, rfl, .inl (up_m rfl (u2 rfl up_h))⟩ rfl ?_
                  refine al_ro' (ro_pickT (u4 rfl up_h) ev_c) trivial rfl ?_
                  refine al_ro' (ro_move up_h) trivial rfl ?_
                  refine al_skip' ⟨_, rfl, .inl up_h⟩ rfl ?_
                  refine al_skip' ⟨_, rfl, .inl (up_m rfl up_h)⟩ rfl ?_
                  refine al_skip' ⟨_, rfl, .inl (u2 rfl up_h)⟩ rfl ?_
                  refine al_ro' (ro_pickT (up_m rfl (u2 rfl up_h)) ev_c) trivial rfl ?_
                  refine al_end (fun e_26 he_26 => ?_)
                  have s2_26 := ef 2 he_26 (up_m rfl (u4 rfl (u16 rfl s2_21)))
                  have s3_26 := ef 3 he_26 (up_m rfl (u4 rfl (u16 rfl s3_21)))
                  have s4_26 := ef 4 he_26 (up_m rfl (u4 rfl (u16 rfl s4_21)))
                  have s7_26 := ef 7 he_26 (up_m rfl (u4 rfl (u16 rfl s7_21)))
                  have s9_26 := ef 9 he_26 (up_m rfl (u4 rfl (u16 rfl s9_21)))
                  have s89_26 := ef 89 he_26 up_h
                  clear he_26
                  refine then_n ⟨(s89_26).trans (by (first | rfl | (refine avb ?_; simp [withinB] at *; done) | (refine avb ?_; simp [withinB] at *; omega))), (s2_26).trans (s2_21).symm, (s3_26).trans (s3_21).symm, (s4_26).trans (s4_21).symm, (s7_26).trans (s7_21).symm, (s9_26).trans (s9_21).symm, rfl⟩)
               ·(first | replace hq_25 := bnt hq_25 | replace hq_25 := bnf hq_25 | replace hq_25 := bt hq_25 | replace hq_25 := bf hq_25 | replace hq_25 := bt' hq_25 | replace hq_25 := bf' hq_25 | skip)
                first
                |(cases hq_25; done) | (exfalso; omega)
                |(
                  refine al_ro' (ro_move (up_m rfl (u2 rfl (u4 rfl s12_21)))) ⟨_, rfl, hb_25⟩ rfl ?_
                  refine al_ro' (ro_neq up_h ev_c) ⟨_, rfl, (up_m rfl hb_25)⟩ rfl ?_
                  refine al_ro' (ro_pickF (u2 rfl hb_25) up_h) trivial rfl ?_
                  refine al_ro' (ro_move up_h) trivial rfl ?_
                  refine al_case up_h (fun hb_27 hq_27 => ?_) (fun hb_27 hq_27 => ?_)
                  ·(first | replace hq_27 := bnt hq_27 | replace hq_27 := bnf hq_27 | replace hq_27 := bt hq_27 | replace hq_27 := bf hq_27 | replace hq_27 := bt' hq_27 | replace hq_27 := bf' hq_27 | skip)
                   first
                   |(cases hq_27; done) | (exfalso; omega)
                   |(
                     refine al_skip' ⟨_, rfl, .inl hb_27⟩ rfl ?_
                     refine al_skip' ⟨_, rfl, .inl (up_m rfl hb_27)⟩ rfl ?_
                     refine al_skip' ⟨_, rfl, .inl (u2 rfl hb_27)⟩ rfl ?_
                     refine al_skip' ⟨_, rfl, .inl (up_m rfl (u2 rfl hb_27))⟩ rfl ?_
                     refine al_ro' (ro_pickT (u4 rfl hb_27) ev_c) trivial rfl ?_
                     refine al_ro' (ro_move up_h) trivial rfl ?_
                     refine al_skip' ⟨_, rfl, .inl up_h⟩ rfl ?_
                     refine al_skip' ⟨_, rfl, .inl (up_m rfl up_h)⟩ rfl ?_
                     refine al_skip' ⟨_, rfl, .inl (u2 rfl up_h)⟩ rfl ?_
                     refine al_ro' (ro_pickT (up_m rfl (u2 rfl up_h)) ev_c) trivial rfl ?_
                     refine al_end (fun e_28 he_28 => ?_)
                     have s2_28 := ef 2 he_28 (up_m rfl (u4 rfl (u16 rfl s2_21)))
                     have s3_28 := ef 3 he_28 (up_m rfl (u4 rfl (u16 rfl s3_21)))
                     have s4_28 := ef 4 he_28 (up_m rfl (u4 rfl (u16 rfl s4_21)))
                     have s7_28 := ef 7 he_28 (up_m rfl (u4 rfl (u16 rfl s7_21)))
                     have s9_28 := ef 9 he_28 (up_m rfl (u4 rfl (u16 rfl s9_21)))
                     have s89_28 := ef 89 he_28 up_h
                     clear he_28
                     refine then_n ⟨(s89_28).trans (by (first | rfl | (refine avb ?_; simp [withinB] at *; done) | (refine avb ?_; simp [withinB] at *; omega))), (s2_28).trans (s2_21).symm, (s3_28).trans (s3_21).symm, (s4_28).trans (s4_21).symm, (s7_28).trans (s7_21).symm, (s9_28).trans (s9_21).symm, rfl⟩)
                  ·(first | replace hq_27 := bnt hq_27 | replace hq_27 := bnf hq_27 | replace hq_27 := bt hq_27 | replace hq_27 := bf hq_27 | replace hq_27 := bt' hq_27 | replace hq_27 := bf' hq_27 | skip)
                   first
                   |(cases hq_27; done) | (exfalso; omega)
                   |(
                     refine al_ro' (ro_move (up_m rfl (u2 rfl (u8 rfl s11_21)))) ⟨_, rfl, hb_27⟩ rfl ?_
                     refine al_ro' (ro_move (u4 rfl (u8 rfl s7_21))) ⟨_, rfl, (up_m rfl hb_27)⟩ rfl ?_
                     first | (refine al_ro' (ro_neg' up_h ?_) ⟨_, rfl, (u2 rfl hb_27)⟩ rfl ?_; · (unfold In64; omega)) | refine al_ro' (ro_neg up_h) ⟨_, rfl, (u2 rfl hb_27)⟩ rfl ?_
                     refine al_ro' (ro_neq (u2 rfl up_h) up_h) ⟨_, rfl, (up_m rfl (u2 rfl hb_27))⟩ rfl ?_
                     refine al_ro' (ro_pickF (u4 rfl hb_27) up_h) trivial rfl ?_
                     refine al_ro' (ro_move up_h) trivial rfl ?_
                     refine al_case up_h (fun hb_29 hq_29 => ?_) (fun hb_29 hq_29 => ?_)
                     ·(first | replace hq_29 := bnt hq_29 | replace hq_29 := bnf hq_29 | replace hq_29 := bt hq_29 | replace hq_29 := bf hq_29 | replace hq_29 := bt' hq_29 | replace hq_29 := bf' hq_29 | skip)
                      first
                      |(cases hq_29; done) | (exfalso; omega)
                      |(
                        refine al_skip' ⟨_, rfl, .inl hb_29⟩ rfl ?_
                        refine al_skip' ⟨_, rfl, .inl (up_m rfl hb_29)⟩ rfl ?_
                        refine al_skip' ⟨_, rfl, .inl (u2 rfl hb_29)⟩ rfl ?_
                        refine al_ro' (ro_pickT (up_m rfl (u2 rfl hb_29)) ev_c) trivial rfl ?_
                        refine al_end (fun e_30 he_30 => ?_)
                        have s2_30 := ef 2 he_30 (up_m rfl (u4 rfl (u16 rfl s2_21)))
                        have s3_30 := ef 3 he_30 (up_m rfl (u4 rfl (u16 rfl s3_21)))
                        have s4_30 := ef 4 he_30 (up_m rfl (u4 rfl (u16 rfl s4_21)))
                        have s7_30 := ef 7 he_30 (up_m rfl (u4 rfl (u16 rfl s7_21)))
                        have s9_30 := ef 9 he_30 (up_m rfl (u4 rfl (u16 rfl s9_21)))
                        have s89_30 := ef 89 he_30 up_h
                        clear he_30
                        refine then_n ⟨(s89_30).trans (by (first | rfl | (refine avb ?_; simp [withinB] at *; done) | (refine avb ?_; simp [withinB] at *; omega))), (s2_30).trans (s2_21).symm, (s3_30).trans (s3_21).symm, (s4_30).trans (s4_21).symm, (s7_30).trans (s7_21).symm, (s9_30).trans (s9_21).symm, rfl⟩)
                     ·(first | replace hq_29 := bnt hq_29 | replace hq_29 := bnf hq_29 | replace hq_29 := bt hq_29 | replace hq_29 := bf hq_29 | replace hq_29 := bt' hq_29 | replace hq_29 := bf' hq_29 | skip)
                      first
                      |(cases hq_29; done) | (exfalso; omega)
                      |(
                        refine al_ro' (ro_move (up_m rfl (u16 rfl s7_21))) ⟨_, rfl, hb_29⟩ rfl ?_
                        refine al_ro' (ro_call (evL_cons up_h (evL_cons ev_c (evL_cons ev_c evL_nil))) rfl (bWithin_ok _ _ _) h18_hcf5) ⟨_, rfl, (up_m rfl hb_29)⟩ rfl ?_
                        refine al_ro' (ro_not up_h) ⟨_, rfl, (u2 rfl hb_29)⟩ rfl ?_
                        refine al_ro' (ro_pickF (up_m rfl (u2 rfl hb_29)) up_h) trivial rfl ?_
                        refine al_end (fun e_31 he_31 => ?_)
                        have s2_31 := ef 2 he_31 (up_m rfl (u4 rfl (u16 rfl s2_21)))
                        have s3_31 := ef 3 he_31 (up_m rfl (u4 rfl (u16 rfl s3_21)))
                        have s4_31 := ef 4 he_31 (up_m rfl (u4 rfl (u16 rfl s4_21)))
                        have s7_31 := ef 7 he_31 (up_m rfl (u4 rfl (u16 rfl s7_21)))
                        have s9_31 := ef 9 he_31 (up_m rfl (u4 rfl (u16 rfl s9_21)))
                        have s89_31 := ef 89 he_31 up_h
                        clear he_31
                        refine then_n ⟨(s89_31).trans (by (first | rfl | (refine avb ?_; simp [withinB] at *; done) | (refine avb ?_; simp [withinB] at *; omega))), (s2_31).trans (s2_21).symm, (s3_31).trans (s3_21).symm, (s4_31).trans (s4_21).symm, (s7_31).trans (s7_21).symm, (s9_31).trans (s9_21).symm, rfl⟩))))
          · rintro e_22 _ ⟨s89_22, k2_22, k3_22, k4_22, k7_22, k9_22, rfl⟩
            have s2_22 := k2_22.trans s2_21
            have s3_22 := k3_22.trans s3_21
            have s4_22 := k4_22.trans s4_21
            have s7_22 := k7_22.trans s7_21
            have s9_22 := k9_22.trans s9_21
            refine aw_case s89_22 (fun hq_32 => ?_) (fun hq_32 => ?_)
            ·(first | replace hq_32 := bnt hq_32 | replace hq_32 := bnf hq_32 | replace hq_32 := bt hq_32 | replace hq_32 := bf hq_32 | replace hq_32 := bt' hq_32 | replace hq_32 := bf' hq_32 | skip)
             first
             |(cases hq_32; done) | (exfalso; omega)
             |(
               refine aw_seq ?_
               refine aw_text (by kernel_rfl) ?_
               refine al_ro' (ro_assign ev_c) trivial rfl ?_
               refine al_end (fun e_33 he_33 => ?_)
               have s6_33 := ef 6 he_33 up_h
               clear he_33 s2_22 s3_22 s4_22 s7_22 s89_22 s9_22
               refine then_n ?_
               refine aw_ret ?_
               refine then_r ?_
               refine ret1 (.inr rfl) (by kernel_rfl) (resV_tmp s6_33) (.ro _ rfl) ?_
               clear s6_33 mo2_2 mo1_2 mo0_2 ml_2
               (first | rfl | (simp; done) | (exfalso; omega)))
            ·(first | replace hq_32 := bnt hq_32 | replace hq_32 := bnf hq_32 | replace hq_32 := bt hq_32 | replace hq_32 := bf hq_32 | replace hq_32 := bt' hq_32 | replace hq_32 := bf' hq_32 | skip)
             first
             |(cases hq_32; done) | (exfalso; omega)
             |(
               refine aw_skip ?_
               refine then_n ?_
               refine aw_seq ?_
               refine aw_draw 6 (by kernel_rfl) (by kernel_rfl) (by kernel_rfl) (by kernel_rfl) ?_
               refine ds_ro' (ro_eq (ro_ld_ptr h18_ty23 rfl mo1_2 s3_22 (by first | exact Nat.le_of_ble_eq_true rfl | omega | (simp only [lnS] <;> omega) | (simp <;> omega))) (by first | (simp only [packA_t, packA_f, iE, bE, setAt, cellsA, Value.cells, map_vc, map_vn, Nat.reduceAdd, qS, tE] <;> rfl) | rfl)) trivial rfl ?_
               refine ds_ro' (ro_call (evL_cons up_h evL_nil) rfl (tNorm_ok u (hu.mono (by decide))) h18_hcf8) trivial rfl ?_
               refine ds_ro' (ro_eq (ro_ld_ptr h18_ty23 rfl mo2_2 (u2 rfl s4_22) (by first | exact Nat.le_of_ble_eq_true rfl | omega | (simp only [lnS] <;> omega) | (simp <;> omega))) (by first | (simp only [packA_t, packA_f, iE, bE, setAt, cellsA, Value.cells, map_vc, map_vn, Nat.reduceAdd, qS, tE] <;> rfl) | rfl)) trivial rfl ?_
               refine ds_ro' (ro_call (evL_cons up_h evL_nil) rfl (tNorm_ok f (hf.mono (by decide))) h18_hcf8) trivial rfl ?_
               first | (refine ds_ro' (ro_mul' (u2 rfl up_h) up_h ?_) trivial rfl ?_; · (unfold In64; omega)) | refine ds_ro' (ro_mul (u2 rfl up_h) up_h) trivial rfl ?_
               refine ds_ro' (ro_assign up_h) trivial rfl ?_
               refine ds_nil ?_
               refine al_end (fun e_34 he_34 => ?_)
               have s2_34 := ef 2 he_34 (u2 rfl (u4 rfl s2_22))
               have s3_34 := ef 3 he_34 (u2 rfl (u4 rfl s3_22))
               have s4_34 := ef 4 he_34 (u2 rfl (u4 rfl s4_22))
               have s7_34 := ef 7 he_34 (u2 rfl (u4 rfl s7_22))
               have s9_34 := ef 9 he_34 (u2 rfl (u4 rfl s9_22))
               have s13_34 := ef 13 he_34 up_h
               clear he_34 s2_22 s3_22 s4_22 s7_22 s89_22 s9_22
               refine then_n ?_
               refine aw_seq ?_
               refine aw_seq ?_
               refine aw_cut (fun e mem => (evA e (.tmp 163) = .v (.bool false)) ∧ (evA e (.tmp 2) = evA e_34 (.tmp 2)) ∧ (evA e (.tmp 3) = evA e_34 (.tmp 3)) ∧ (evA e (.tmp 4) = evA e_34 (.tmp 4)) ∧ (evA e (.tmp 7) = evA e_34 (.tmp 7)) ∧ (evA e (.tmp 9) = evA e_34 (.tmp 9)) ∧ m_2 = mem) ?_ ?_
               ·
                 refine aw_text (by kernel_rfl) ?_
                 refine al_ro' (ro_move s7_34) trivial rfl ?_
                 first | (refine al_ro' (ro_mul' ev_c up_h ?_) trivial rfl ?_; · (unfold In64; omega)) | refine al_ro' (ro_mul ev_c up_h) trivial rfl ?_
                 refine al_ro' (ro_move (u2 rfl s7_34)) trivial rfl ?_
                 first | (refine al_ro' (ro_mul' (up_m rfl up_h) up_h ?_) trivial rfl ?_; · (unfold In64; omega)) | refine al_ro' (ro_mul (up_m rfl up_h) up_h) trivial rfl ?_
                 refine al_ro' (ro_move (u4 rfl s13_34)) trivial rfl ?_
                 first | (refine al_ro' (ro_mul' ev_c up_h ?_) trivial rfl ?_; · (unfold In64; omega)) | refine al_ro' (ro_mul ev_c up_h) trivial rfl ?_
                 refine al_ro' (ro_gtr (u2 rfl up_h) up_h) trivial rfl ?_
                 refine al_ro' (ro_move up_h) trivial rfl ?_
                 refine al_case up_h (fun hb_36 hq_36 => ?_) (fun hb_36 hq_36 => ?_)
                 ·(first | replace hq_36 := bnt hq_36 | replace hq_36 := bnf hq_36 | replace hq_36 := bt hq_36 | replace hq_36 := bf hq_36 | replace hq_36 := bt' hq_36 | replace hq_36 := bf' hq_36 | skip)
                  first
                  |(cases hq_36; done) | (exfalso; omega)
                  |(
                    refine al_skip' ⟨_, rfl, .inl hb_36⟩ rfl ?_
                    refine al_skip' ⟨_, rfl, .inl (up_m rfl hb_36)⟩ rfl ?_
                    refine al_skip' ⟨_, rfl, .inl (u2 rfl hb_36)⟩ rfl ?_
                    refine al_skip' ⟨_, rfl, .inr up_h⟩ rfl ?_
                    refine al_skip' ⟨_, rfl, .inr (up_m rfl up_h)⟩ rfl ?_
                    refine al_skip' ⟨_, rfl, .inr (u2 rfl up_h)⟩ rfl ?_
                    refine al_skip' ⟨_, rfl, .inr up_h⟩ rfl ?_
                    refine al_skip' ⟨_, rfl, .inr (up_m rfl up_h)⟩ rfl ?_
                    refine al_skip' ⟨_, rfl, .inr (u2 rfl up_h)⟩ rfl ?_
                    refine al_skip' ⟨_, rfl, .inr (up_m rfl (u2 rfl up_h))⟩ rfl ?_
                    refine al_skip' ⟨_, rfl, .inr (u4 rfl up_h)⟩ rfl ?_
                    refine al_skip' ⟨_, rfl, .inr (u8 rfl up_h)⟩ rfl ?_
                    refine al_skip' ⟨_, rfl, .inl (u4 rfl (u8 rfl hb_36))⟩ rfl ?_
                    refine al_ro' (ro_pickT (up_m rfl (u4 rfl (u8 rfl hb_36))) ev_c) trivial rfl ?_
                    refine al_ro' (ro_move up_h) trivial rfl ?_
                    refine al_skip' ⟨_, rfl, .inl up_h⟩ rfl ?_
                    refine al_skip' ⟨_, rfl, .inl (up_m rfl up_h)⟩ rfl ?_
                    refine al_skip' ⟨_, rfl, .inl (u2 rfl up_h)⟩ rfl ?_
                    refine al_skip' ⟨_, rfl, .inr up_h⟩ rfl ?_
                    refine al_skip' ⟨_, rfl, .inr (up_m rfl up_h)⟩ rfl ?_
                    refine al_skip' ⟨_, rfl, .inr (u2 rfl up_h)⟩ rfl ?_
                    refine al_skip' ⟨_, rfl, .inr up_h⟩ rfl ?_
                    refine al_skip' ⟨_, rfl, .inr (up_m rfl up_h)⟩ rfl ?_
                    refine al_skip' ⟨_, rfl, .inr (u2 rfl up_h)⟩ rfl ?_
                    refine al_skip' ⟨_, rfl, .inr (up_m rfl (u2 rfl up_h))⟩ rfl ?_
                    refine al_skip' ⟨_, rfl, .inr (u4 rfl up_h)⟩ rfl ?_
                    refine al_skip' ⟨_, rfl, .inr (up_m rfl (u4 rfl up_h))⟩ rfl ?_
                    refine al_skip' ⟨_, rfl, .inr (up_m rfl (u8 rfl up_h))⟩ rfl ?_
                    refine al_skip' ⟨_, rfl, .inl (up_m rfl (u4 rfl (u8 rfl up_h)))⟩ rfl ?_
                    refine al_ro' (ro_pickT (u2 rfl (u4 rfl (u8 rfl up_h))) ev_c) trivial rfl ?_
                    refine al_ro' (ro_move up_h) trivial rfl ?_
                    refine al_skip' ⟨_, rfl, .inl up_h⟩ rfl ?_
                    refine al_skip' ⟨_, rfl, .inl (up_m rfl up_h)⟩ rfl ?_
                    refine al_skip' ⟨_, rfl, .inl (u2 rfl up_h)⟩ rfl ?_
                    refine al_skip' ⟨_, rfl, .inr up_h⟩ rfl ?_
                    refine al_skip' ⟨_, rfl, .inr (up_m rfl up_h)⟩ rfl ?_
                    refine al_skip' ⟨_, rfl, .inl (up_m rfl (u4 rfl up_h))⟩ rfl ?_
                    refine al_skip' ⟨_, rfl, .inl (u2 rfl (u4 rfl up_h))⟩ rfl ?_
                    refine al_skip' ⟨_, rfl, .inr up_h⟩ rfl ?_
                    refine al_skip' ⟨_, rfl, .inr (up_m rfl up_h)⟩ rfl ?_
                    refine al_skip' ⟨_, rfl, .inr (u2 rfl up_h)⟩ rfl ?_
                    refine al_skip' ⟨_, rfl, .inr (up_m rfl (u2 rfl up_h))⟩ rfl ?_
                    refine al_skip' ⟨_, rfl, .inr (u4 rfl up_h)⟩ rfl ?_
                    refine al_skip' ⟨_, rfl, .inl (u4 rfl (u8 rfl up_h))⟩ rfl ?_
                    refine al_ro' (ro_pickT (up_m rfl (u4 rfl (u8 rfl up_h))) ev_c) trivial rfl ?_
                    refine al_ro' (ro_move up_h) trivial rfl ?_
                    refine al_skip' ⟨_, rfl, .inl up_h⟩ rfl ?_
                    refine al_skip' ⟨_, rfl, .inl (up_m rfl up_h)⟩ rfl ?_
                    refine al_skip' ⟨_, rfl, .inl (u2 rfl up_h)⟩ rfl ?_
                    refine al_skip' ⟨_, rfl, .inr up_h⟩ rfl ?_
                    refine al_skip' ⟨_, rfl, .inr (up_m rfl up_h)⟩ rfl ?_
                    refine al_skip' ⟨_, rfl, .inl (up_m rfl (u4 rfl up_h))⟩ rfl ?_
                    refine al_skip' ⟨_, rfl, .inl (u2 rfl (u4 rfl up_h))⟩ rfl ?_
                    refine al_skip' ⟨_, rfl, .inr up_h⟩ rfl ?_
                    refine al_skip' ⟨_, rfl, .inr (up_m rfl up_h)⟩ rfl ?_
                    refine al_skip' ⟨_, rfl, .inr (u2 rfl up_h)⟩ rfl ?_
                    refine al_skip' ⟨_, rfl, .inr (up_m rfl (u2 rfl up_h))⟩ rfl ?_
                    refine al_skip' ⟨_, rfl, .inr (u4 rfl up_h)⟩ rfl ?_
                    refine al_skip' ⟨_, rfl, .inr (up_m rfl (u4 rfl up_h))⟩ rfl ?_
                    refine al_skip' ⟨_, rfl, .inl (up_m rfl (u4 rfl (u8 rfl up_h)))⟩ rfl ?_
                    refine al_ro' (ro_pickT (u2 rfl (u4 rfl (u8 rfl up_h))) ev_c) trivial rfl ?_
                    refine al_end (fun e_37 he_37 => ?_)
                    have s2_37 := ef 2 he_37 (up_m rfl (u4 rfl (u16 rfl (u16 rfl (u16 rfl (u16 rfl s2_34))))))
                    have s3_37 := ef 3 he_37 (up_m rfl (u4 rfl (u16 rfl (u16 rfl (u16 rfl (u16 rfl s3_34))))))
                    have s4_37 := ef 4 he_37 (up_m rfl (u4 rfl (u16 rfl (u16 rfl (u16 rfl (u16 rfl s4_34))))))
                    have s7_37 := ef 7 he_37 (up_m rfl (u4 rfl (u16 rfl (u16 rfl (u16 rfl (u16 rfl s7_34))))))
                    have s9_37 := ef 9 he_37 (up_m rfl (u4 rfl (u16 rfl (u16 rfl (u16 rfl (u16 rfl s9_34))))))
                    have s163_37 := ef 163 he_37 up_h
                    clear he_37
                    refine then_n ⟨(s163_37).trans (by (first | rfl | (refine avb ?_; simp at *; done) | (refine avb ?_; simp at *; omega))), (s2_37).trans (s2_34).symm, (s3_37).trans (s3_34).symm, (s4_37).trans (s4_34).symm, (s7_37).trans (s7_34).symm, (s9_37).trans (s9_34).symm, rfl⟩)
                 ·(first | replace hq_36 := bnt hq_36 | replace hq_36 := bnf hq_36 | replace hq_36 := bt hq_36 | replace hq_36 := bf hq_36 | replace hq_36 := bt' hq_36 | replace hq_36 := bf' hq_36 | skip)
                  first
                  |(cases hq_36; done) | (exfalso; omega)
                  |(
                    refine al_ro' (ro_move (u8 rfl s9_34)) ⟨_, rfl, hb_36⟩ rfl ?_
                    refine al_ro' (ro_eql up_h ev_c) ⟨_, rfl, (up_m rfl hb_36)⟩ rfl ?_
                    refine al_ro' (ro_move up_h) ⟨_, rfl, (u2 rfl hb_36)⟩ rfl ?_
                    refine al_case up_h (fun hb_38 hq_38 => ?_) (fun hb_38 hq_38 => ?_)
                    ·(first | replace hq_38 := bnt hq_38 | replace hq_38 := bnf hq_38 | replace hq_38 := bt hq_38 | replace hq_38 := bf hq_38 | replace hq_38 := bt' hq_38 | replace hq_38 := bf' hq_38 | skip)
                     first
                     |(cases hq_38; done) | (exfalso; omega)
                     |(
                       refine al_ro' (ro_move (up_m rfl (u2 rfl (u8 rfl s7_34)))) ⟨_, rfl, hb_38⟩ rfl ?_
                       refine al_ro' (ro_leq up_h ev_c) ⟨_, rfl, (up_m rfl hb_38)⟩ rfl ?_
                       refine al_ro' (ro_move up_h) ⟨_, rfl, (u2 rfl hb_38)⟩ rfl ?_
                       refine al_case up_h (fun hb_39 hq_39 => ?_) (fun hb_39 hq_39 => ?_)
                       ·(first | replace hq_39 := bnt hq_39 | replace hq_39 := bnf hq_39 | replace hq_39 := bt hq_39 | replace hq_39 := bf hq_39 | replace hq_39 := bt' hq_39 | replace hq_39 := bf' hq_39 | skip)
                        first
                        |(cases hq_39; done) | (exfalso; omega)
                        |(
                          refine al_skip' ⟨_, rfl, .inl hb_39⟩ rfl ?_
                          refine al_skip' ⟨_, rfl, .inl (up_m rfl hb_39)⟩ rfl ?_
                          refine al_skip' ⟨_, rfl, .inl (u2 rfl hb_39)⟩ rfl ?_
                          refine al_skip' ⟨_, rfl, .inl (up_m rfl (u2 rfl hb_39))⟩ rfl ?_
                          refine al_skip' ⟨_, rfl, .inl (u4 rfl hb_39)⟩ rfl ?_
                          refine al_ro' (ro_pickT (up_m rfl (u4 rfl hb_39)) ev_c) ⟨_, rfl, (u8 rfl hb_38)⟩ rfl ?_
                          refine al_ro' (ro_pickT (up_m rfl (u8 rfl hb_38)) up_h) ⟨_, rfl, (u4 rfl (u8 rfl hb_36))⟩ rfl ?_
                          refine al_ro' (ro_pickF (up_m rfl (u4 rfl (u8 rfl hb_36))) up_h) trivial rfl ?_
                          refine al_ro' (ro_move up_h) trivial rfl ?_
                          refine al_skip' ⟨_, rfl, .inl up_h⟩ rfl ?_
                          refine al_skip' ⟨_, rfl, .inl (up_m rfl up_h)⟩ rfl ?_
                          refine al_skip' ⟨_, rfl, .inl (u2 rfl up_h)⟩ rfl ?_
                          refine al_skip' ⟨_, rfl, .inr up_h⟩ rfl ?_
                          refine al_skip' ⟨_, rfl, .inr (up_m rfl up_h)⟩ rfl ?_
                          refine al_skip' ⟨_, rfl, .inr (u2 rfl up_h)⟩ rfl ?_
                          refine al_skip' ⟨_, rfl, .inr up_h⟩ rfl ?_
                          refine al_skip' ⟨_, rfl, .inr (up_m rfl up_h)⟩ rfl ?_
                          refine al_skip' ⟨_, rfl, .inr (u2 rfl up_h)⟩ rfl ?_
                          refine al_skip' ⟨_, rfl, .inr (up_m rfl (u2 rfl up_h))⟩ rfl ?_
                          refine al_skip' ⟨_, rfl, .inr (u4 rfl up_h)⟩ rfl ?_
                          refine al_skip' ⟨_, rfl, .inr (up_m rfl (u4 rfl up_h))⟩ rfl ?_
                          refine al_skip' ⟨_, rfl, .inr (up_m rfl (u8 rfl up_h))⟩ rfl ?_
                          refine al_skip' ⟨_, rfl, .inl (up_m rfl (u4 rfl (u8 rfl up_h)))⟩ rfl ?_
                          refine al_ro' (ro_pickT (u2 rfl (u4 rfl (u8 rfl up_h))) ev_c) trivial rfl ?_
                          refine al_ro' (ro_move up_h) trivial rfl ?_
                          refine al_skip' ⟨_, rfl, .inl up_h⟩ rfl ?_
                          refine al_skip' ⟨_, rfl, .inl (up_m rfl up_h)⟩ rfl ?_
                          refine al_skip' ⟨_, rfl, .inl (u2 rfl up_h)⟩ rfl ?_
                          refine al_skip' ⟨_, rfl, .inr up_h⟩ rfl ?_
                          refine al_skip' ⟨_, rfl, .inr (up_m rfl up_h)⟩ rfl ?_
                          refine al_skip' ⟨_, rfl, .inl (up_m rfl (u4 rfl up_h))⟩ rfl ?_
                          refine al_skip' ⟨_, rfl, .inl (u2 rfl (u4 rfl up_h))⟩ rfl ?_
                          refine al_skip' ⟨_, rfl, .inr up_h⟩ rfl ?_
                          refine al_skip' ⟨_, rfl, .inr (up_m rfl up_h)⟩ rfl ?_
                          refine al_skip' ⟨_, rfl, .inr (u2 rfl up_h)⟩ rfl ?_
                          refine al_skip' ⟨_, rfl, .inr (up_m rfl (u2 rfl up_h))⟩ rfl ?_
                          refine al_skip' ⟨_, rfl, .inr (u4 rfl up_h)⟩ rfl ?_
                          refine al_skip' ⟨_, rfl, .inl (u4 rfl (u8 rfl up_h))⟩ rfl ?_
                          refine al_ro' (ro_pickT (up_m rfl (u4 rfl (u8 rfl up_h))) ev_c) trivial rfl ?_
                          refine al_ro' (ro_move up_h) trivial rfl ?_
                          refine al_skip' ⟨_, rfl, .inl up_h⟩ rfl ?_
                          refine al_skip' ⟨_, rfl, .inl (up_m rfl up_h)⟩ rfl ?_
                          refine al_skip' ⟨_, rfl, .inl (u2 rfl up_h)⟩ rfl ?_
                          refine al_skip' ⟨_, rfl, .inr up_h⟩ rfl ?_
                          refine al_skip' ⟨_, rfl, .inr (up_m rfl up_h)⟩ rfl ?_
                          refine al_skip' ⟨_, rfl, .inl (up_m rfl (u4 rfl up_h))⟩ rfl ?_
                          refine al_skip' ⟨_, rfl, .inl (u2 rfl (u4 rfl up_h))⟩ rfl ?_
                          refine al_skip' ⟨_, rfl, .inr up_h⟩ rfl ?_
                          refine al_skip' ⟨_, rfl, .inr (up_m rfl up_h)⟩ rfl ?_
                          refine al_skip' ⟨_, rfl, .inr (u2 rfl up_h)⟩ rfl ?_
                          refine al_skip' ⟨_, rfl, .inr (up_m rfl (u2 rfl up_h))⟩ rfl ?_
                          refine al_skip' ⟨_, rfl, .inr (u4 rfl up_h)⟩ rfl ?_
                          refine al_skip' ⟨_, rfl, .inr (up_m rfl (u4 rfl up_h))⟩ rfl ?_
                          refine al_skip' ⟨_, rfl, .inl (up_m rfl (u4 rfl (u8 rfl up_h)))⟩ rfl ?_
                          refine al_ro' (ro_pickT (u2 rfl (u4 rfl (u8 rfl up_h))) ev_c) trivial rfl ?_
                          refine al_end (fun e_40 he_40 => ?_)
                          have s2_40 := ef 2 he_40 (up_m rfl (u4 rfl (u16 rfl (u16 rfl (u16 rfl (u16 rfl s2_34))))))
                          have s3_40 := ef 3 he_40 (up_m rfl (u4 rfl (u16 rfl (u16 rfl (u16 rfl (u16 rfl s3_34))))))
                          have s4_40 := ef 4 he_40 (up_m rfl (u4 rfl (u16 rfl (u16 rfl (u16 rfl (u16 rfl s4_34))))))
                          have s7_40 := ef 7 he_40 (up_m rfl (u4 rfl (u16 rfl (u16 rfl (u16 rfl (u16 rfl s7_34))))))
                          have s9_40 := ef 9 he_40 (up_m rfl (u4 rfl (u16 rfl (u16 rfl (u16 rfl (u16 rfl s9_34))))))
                          have s163_40 := ef 163 he_40 up_h
                          clear he_40
                          refine then_n ⟨(s163_40).trans (by (first | rfl | (refine avb ?_; simp at *; done) | (refine avb ?_; simp at *; omega))), (s2_40).trans (s2_34).symm, (s3_40).trans (s3_34).symm, (s4_40).trans (s4_34).symm, (s7_40).trans (s7_34).symm, (s9_40).trans (s9_34).symm, rfl⟩)
                       ·(first | replace hq_39 := bnt hq_39 | replace hq_39 := bnf hq_39 | replace hq_39 := bt hq_39 | replace hq_39 := bf hq_39 | replace hq_39 := bt' hq_39 | replace hq_39 := bf' hq_39 | skip)
                        first
                        |(cases hq_39; done) | (exfalso; omega)
                        |(
                          refine al_ro' (ro_move (u2 rfl (u4 rfl (u8 rfl s7_34)))) ⟨_, rfl, hb_39⟩ rfl ?_
                          refine al_ro' (ro_move (up_m rfl (u2 rfl (u4 rfl (u8 rfl s7_34))))) ⟨_, rfl, (up_m rfl hb_39)⟩ rfl ?_
                          first | (refine al_ro' (ro_mul' (up_m rfl up_h) up_h ?_) ⟨_, rfl, (u2 rfl hb_39)⟩ rfl ?_; · (unfold In64; omega)) | refine al_ro' (ro_mul (up_m rfl up_h) up_h) ⟨_, rfl, (u2 rfl hb_39)⟩ rfl ?_
                          refine al_ro' (ro_move (up_m rfl (u16 rfl s13_34))) ⟨_, rfl, (up_m rfl (u2 rfl hb_39))⟩ rfl ?_
                          refine al_ro' (ro_lss (up_m rfl up_h) up_h) ⟨_, rfl, (u4 rfl hb_39)⟩ rfl ?_
                          refine al_ro' (ro_pickF (up_m rfl (u4 rfl hb_39)) up_h) ⟨_, rfl, (u8 rfl hb_38)⟩ rfl ?_
                          refine al_ro' (ro_pickT (up_m rfl (u8 rfl hb_38)) up_h) ⟨_, rfl, (u4 rfl (u8 rfl hb_36))⟩ rfl ?_
                          refine al_ro' (ro_pickF (up_m rfl (u4 rfl (u8 rfl hb_36))) up_h) trivial rfl ?_
                          refine al_ro' (ro_move up_h) trivial rfl ?_
                          refine al_case up_h (fun hb_41 hq_41 => ?_) (fun hb_41 hq_41 => ?_)
                          ·(first | replace hq_41 := bnt hq_41 | replace hq_41 := bnf hq_41 | replace hq_41 := bt hq_41 | replace hq_41 := bf hq_41 | replace hq_41 := bt' hq_41 | replace hq_41 := bf' hq_41 | skip)
                           first
                           |(cases hq_41; done) | (exfalso; omega)
                           |(
                             refine al_skip' ⟨_, rfl, .inl hb_41⟩ rfl ?_
                             refine al_skip' ⟨_, rfl, .inl (up_m rfl hb_41)⟩ rfl ?_
                             refine al_skip' ⟨_, rfl, .inl (u2 rfl hb_41)⟩ rfl ?_
                             refine al_skip' ⟨_, rfl, .inr up_h⟩ rfl ?_
                             refine al_skip' ⟨_, rfl, .inr (up_m rfl up_h)⟩ rfl ?_
                             refine al_skip' ⟨_, rfl, .inr (u2 rfl up_h)⟩ rfl ?_
                             refine al_skip' ⟨_, rfl, .inr up_h⟩ rfl ?_
                             refine al_skip' ⟨_, rfl, .inr (up_m rfl up_h)⟩ rfl ?_
                             refine al_skip' ⟨_, rfl, .inr (u2 rfl up_h)⟩ rfl ?_
                             refine al_skip' ⟨_, rfl, .inr (up_m rfl (u2 rfl up_h))⟩ rfl ?_
                             refine al_skip' ⟨_, rfl, .inr (u4 rfl up_h)⟩ rfl ?_
                             refine al_skip' ⟨_, rfl, .inr (up_m rfl (u4 rfl up_h))⟩ rfl ?_
                             refine al_skip' ⟨_, rfl, .inr (up_m rfl (u8 rfl up_h))⟩ rfl ?_
                             refine al_skip' ⟨_, rfl, .inl (up_m rfl (u4 rfl (u8 rfl hb_41)))⟩ rfl ?_
                             refine al_ro' (ro_pickT (u2 rfl (u4 rfl (u8 rfl hb_41))) ev_c) trivial rfl ?_
                             refine al_ro' (ro_move up_h) trivial rfl ?_
                             refine al_skip' ⟨_, rfl, .inl up_h⟩ rfl ?_
                             refine al_skip' ⟨_, rfl, .inl (up_m rfl up_h)⟩ rfl ?_
                             refine al_skip' ⟨_, rfl, .inl (u2 rfl up_h)⟩ rfl ?_
                             refine al_skip' ⟨_, rfl, .inr up_h⟩ rfl ?_
                             refine al_skip' ⟨_, rfl, .inr (up_m rfl up_h)⟩ rfl ?_
                             refine al_skip' ⟨_, rfl, .inl (up_m rfl (u4 rfl up_h))⟩ rfl ?_
                             refine al_skip' ⟨_, rfl, .inl (u2 rfl (u4 rfl up_h))⟩ rfl ?_
                             refine al_skip' ⟨_, rfl, .inr up_h⟩ rfl ?_
                             refine al_skip' ⟨_, rfl, .inr (up_m rfl up_h)⟩ rfl ?_
                             refine al_skip' ⟨_, rfl, .inr (u2 rfl up_h)⟩ rfl ?_
                             refine al_skip' ⟨_, rfl, .inr (up_m rfl (u2 rfl up_h))⟩ rfl ?_
                             refine al_skip' ⟨_, rfl, .inr (u4 rfl up_h)⟩ rfl ?_
                             refine al_skip' ⟨_, rfl, .inl (u4 rfl (u8 rfl up_h))⟩ rfl ?_
                             refine al_ro' (ro_pickT (up_m rfl (u4 rfl (u8 rfl up_h))) ev_c) trivial rfl ?_
                             refine al_ro' (ro_move up_h) trivial rfl ?_
                             refine al_skip' ⟨_, rfl, .inl up_h⟩ rfl ?_
                             refine al_skip' ⟨_, rfl, .inl (up_m rfl up_h)⟩ rfl ?_
                             refine al_skip' ⟨_, rfl, .inl (u2 rfl up_h)⟩ rfl ?_
                             refine al_skip' ⟨_, rfl, .inr up_h⟩ rfl ?_
                             refine al_skip' ⟨_, rfl, .inr (up_m rfl up_h)⟩ rfl ?_
                             refine al_skip' ⟨_, rfl, .inl (up_m rfl (u4 rfl up_h))⟩ rfl ?_
                             refine al_skip' ⟨_, rfl, .inl (u2 rfl (u4 rfl up_h))⟩ rfl ?_
                             refine al_skip' ⟨_, rfl, .inr up_h⟩ rfl ?_
                             refine al_skip' ⟨_, rfl, .inr (up_m rfl up_h)⟩ rfl ?_
                             refine al_skip' ⟨_, rfl, .inr (u2 rfl up_h)⟩ rfl ?_
                             refine al_skip' ⟨_, rfl, .inr (up_m rfl (u2 rfl up_h))⟩ rfl ?_
                             refine al_skip' ⟨_, rfl, .inr (u4 rfl up_h)⟩ rfl ?_
                             refine al_skip' ⟨_, rfl, .inr (up_m rfl (u4 rfl up_h))⟩ rfl ?_
                             refine al_skip' ⟨_, rfl, .inl (up_m rfl (u4 rfl (u8 rfl up_h)))⟩ rfl ?_
                             refine al_ro' (ro_pickT (u2 rfl (u4 rfl (u8 rfl up_h))) ev_c) trivial rfl ?_
                             refine al_end (fun e_42 he_42 => ?_)
                             have s2_42 := ef 2 he_42 (up_m rfl (u4 rfl (u16 rfl (u16 rfl (u16 rfl (u16 rfl s2_34))))))
                             have s3_42 := ef 3 he_42 (up_m rfl (u4 rfl (u16 rfl (u16 rfl (u16 rfl (u16 rfl s3_34))))))
                             have s4_42 := ef 4 he_42 (up_m rfl (u4 rfl (u16 rfl (u16 rfl (u16 rfl (u16 rfl s4_34))))))
                             have s7_42 := ef 7 he_42 (up_m rfl (u4 rfl (u16 rfl (u16 rfl (u16 rfl (u16 rfl s7_34))))))
                             have s9_42 := ef 9 he_42 (up_m rfl (u4 rfl (u16 rfl (u16 rfl (u16 rfl (u16 rfl s9_34))))))
                             have s163_42 := ef 163 he_42 up_h
                             clear he_42
                             refine then_n ⟨(s163_42).trans (by (first | rfl | (refine avb ?_; simp at *; done) | (refine avb ?_; simp at *; omega))), (s2_42).trans (s2_34).symm, (s3_42).trans (s3_34).symm, (s4_42).trans (s4_34).symm, (s7_42).trans (s7_34).symm, (s9_42).trans (s9_34).symm, rfl⟩)
                          ·(first | replace hq_41 := bnt hq_41 | replace hq_41 := bnf hq_41 | replace hq_41 := bt hq_41 | replace hq_41 := bf hq_41 | replace hq_41 := bt' hq_41 | replace hq_41 := bf' hq_41 | skip)
                           first
                           |(cases hq_41; done) | (exfalso; omega)
                           |(
                             refine al_ro' (ro_move (up_m rfl (u2 rfl (u4 rfl (u16 rfl s9_34))))) ⟨_, rfl, hb_41⟩ rfl ?_
                             refine al_ro' (ro_eql up_h ev_c) ⟨_, rfl, (up_m rfl hb_41)⟩ rfl ?_
                             refine al_ro' (ro_move up_h) ⟨_, rfl, (u2 rfl hb_41)⟩ rfl ?_
                             refine al_case up_h (fun hb_43 hq_43 => ?_) (fun hb_43 hq_43 => ?_)
                             ·(first | replace hq_43 := bnt hq_43 | replace hq_43 := bnf hq_43 | replace hq_43 := bt hq_43 | replace hq_43 := bf hq_43 | replace hq_43 := bt' hq_43 | replace hq_43 := bf' hq_43 | skip)
                              first
                              |(cases hq_43; done) | (exfalso; omega)
                              |(
                                refine al_ro' (ro_move (u2 rfl (u8 rfl (u16 rfl s7_34)))) ⟨_, rfl, hb_43⟩ rfl ?_
                                refine al_ro' (ro_leq up_h ev_c) ⟨_, rfl, (up_m rfl hb_43)⟩ rfl ?_
                                refine al_ro' (ro_move up_h) ⟨_, rfl, (u2 rfl hb_43)⟩ rfl ?_
                                refine al_case up_h (fun hb_44 hq_44 => ?_) (fun hb_44 hq_44 => ?_)
                                ·(first | replace hq_44 := bnt hq_44 | replace hq_44 := bnf hq_44 | replace hq_44 := bt hq_44 | replace hq_44 := bf hq_44 | replace hq_44 := bt' hq_44 | replace hq_44 := bf' hq_44 | skip)
                                 first
                                 |(cases hq_44; done) | (exfalso; omega)
                                 |(
                                   refine al_skip' ⟨_, rfl, .inl hb_44⟩ rfl ?_
                                   refine al_skip' ⟨_, rfl, .inl (up_m rfl hb_44)⟩ rfl ?_
                                   refine al_skip' ⟨_, rfl, .inl (u2 rfl hb_44)⟩ rfl ?_
                                   refine al_skip' ⟨_, rfl, .inl (up_m rfl (u2 rfl hb_44))⟩ rfl ?_
                                   refine al_skip' ⟨_, rfl, .inl (u4 rfl hb_44)⟩ rfl ?_
                                   refine al_skip' ⟨_, rfl, .inl (up_m rfl (u4 rfl hb_44))⟩ rfl ?_
                                   refine al_ro' (ro_pickT (u2 rfl (u4 rfl hb_44)) ev_c) ⟨_, rfl, (up_m rfl (u8 rfl hb_43))⟩ rfl ?_
                                   refine al_ro' (ro_pickT (u2 rfl (u8 rfl hb_43)) up_h) ⟨_, rfl, (up_m rfl (u4 rfl (u8 rfl hb_41)))⟩ rfl ?_
                                   refine al_ro' (ro_pickF (u2 rfl (u4 rfl (u8 rfl hb_41))) up_h) trivial rfl ?_
                                   refine al_ro' (ro_move up_h) trivial rfl ?_
                                   refine al_skip' ⟨_, rfl, .inl up_h⟩ rfl ?_
                                   refine al_skip' ⟨_, rfl, .inl (up_m rfl up_h)⟩ rfl ?_
                                   refine al_skip' ⟨_, rfl, .inl (u2 rfl up_h)⟩ rfl ?_
                                   refine al_skip' ⟨_, rfl, .inr up_h⟩ rfl ?_
                                   refine al_skip' ⟨_, rfl, .inr (up_m rfl up_h)⟩ rfl ?_
                                   refine al_skip' ⟨_, rfl, .inl (up_m rfl (u4 rfl up_h))⟩ rfl ?_
                                   refine al_skip' ⟨_, rfl, .inl (u2 rfl (u4 rfl up_h))⟩ rfl ?_
                                   refine al_skip' ⟨_, rfl, .inr up_h⟩ rfl ?_
                                   refine al_skip' ⟨_, rfl, .inr (up_m rfl up_h)⟩ rfl ?_
                                   refine al_skip' ⟨_, rfl, .inr (u2 rfl up_h)⟩ rfl ?_
                                   refine al_skip' ⟨_, rfl, .inr (up_m rfl (u2 rfl up_h))⟩ rfl ?_
                                   refine al_skip' ⟨_, rfl, .inr (u4 rfl up_h)⟩ rfl ?_
                                   refine al_skip' ⟨_, rfl, .inl (u4 rfl (u8 rfl up_h))⟩ rfl ?_
                                   refine al_ro' (ro_pickT (up_m rfl (u4 rfl (u8 rfl up_h))) ev_c) trivial rfl ?_
                                   refine al_ro' (ro_move up_h) trivial rfl ?_
                                   refine al_skip' ⟨_, rfl, .inl up_h⟩ rfl ?_
                                   refine al_skip' ⟨_, rfl, .inl (up_m rfl up_h)⟩ rfl ?_
                                   refine al_skip' ⟨_, rfl, .inl (u2 rfl up_h)⟩ rfl ?_
                                   refine al_skip' ⟨_, rfl, .inr up_h⟩ rfl ?_
                                   refine al_skip' ⟨_, rfl, .inr (up_m rfl up_h)⟩ rfl ?_
                                   refine al_skip' ⟨_, rfl, .inl (up_m rfl (u4 rfl up_h))⟩ rfl ?_
                                   refine al_skip' ⟨_, rfl, .inl (u2 rfl (u4 rfl up_h))⟩ rfl ?_
                                   refine al_skip' ⟨_, rfl, .inr up_h⟩ rfl ?_
                                   refine al_skip' ⟨_, rfl, .inr (up_m rfl up_h)⟩ rfl ?_
                                   refine al_skip' ⟨_, rfl, .inr (u2 rfl up_h)⟩ rfl ?_
                                   refine al_skip' ⟨_, rfl, .inr (up_m rfl (u2 rfl up_h))⟩ rfl ?_
                                   refine al_skip' ⟨_, rfl, .inr (u4 rfl up_h)⟩ rfl ?_
                                   refine al_skip' ⟨_, rfl, .inr (up_m rfl (u4 rfl up_h))⟩ rfl ?_
                                   refine al_skip' ⟨_, rfl, .inl (up_m rfl (u4 rfl (u8 rfl up_h)))⟩ rfl ?_
                                   refine al_ro' (ro_pickT (u2 rfl (u4 rfl (u8 rfl up_h))) ev_c) trivial rfl ?_
                                   refine al_end (fun e_45 he_45 => ?_)
                                   have s2_45 := ef 2 he_45 (up_m rfl (u4 rfl (u16 rfl (u16 rfl (u16 rfl (u16 rfl s2_34))))))
                                   have s3_45 := ef 3 he_45 (up_m rfl (u4 rfl (u16 rfl (u16 rfl (u16 rfl (u16 rfl s3_34))))))
                                   have s4_45 := ef 4 he_45 (up_m rfl (u4 rfl (u16 rfl (u16 rfl (u16 rfl (u16 rfl s4_34))))))
                                   have s7_45 := ef 7 he_45 (up_m rfl (u4 rfl (u16 rfl (u16 rfl (u16 rfl (u16 rfl s7_34))))))
                                   have s9_45 := ef 9 he_45 (up_m rfl (u4 rfl (u16 rfl (u16 rfl (u16 rfl (u16 rfl s9_34))))))
                                   have s163_45 := ef 163 he_45 up_h
                                   clear he_45
                                   refine then_n ⟨(s163_45).trans (by (first | rfl | (refine avb ?_; simp at *; done) | (refine avb ?_; simp at *; omega))), (s2_45).trans (s2_34).symm, (s3_45).trans (s3_34).symm, (s4_45).trans (s4_34).symm, (s7_45).trans (s7_34).symm, (s9_45).trans (s9_34).symm, rfl⟩)
                                ·(first | replace hq_44 := bnt hq_44 | replace hq_44 := bnf hq_44 | replace hq_44 := bt hq_44 | replace hq_44 := bf hq_44 | replace hq_44 := bt' hq_44 | replace hq_44 := bf' hq_44 | skip)
                                 first
                                 |(cases hq_44; done) | (exfalso; omega)
                                 |(
                                   refine al_ro' (ro_move (up_m rfl (u4 rfl (u8 rfl (u16 rfl s7_34))))) ⟨_, rfl, hb_44⟩ rfl ?_
                                   first | (refine al_ro' (ro_mul' ev_c up_h ?_) ⟨_, rfl, (up_m rfl hb_44)⟩ rfl ?_; · (unfold In64; omega)) | refine al_ro' (ro_mul ev_c up_h) ⟨_, rfl, (up_m rfl hb_44)⟩ rfl ?_
                                   refine al_ro' (ro_move (up_m rfl (u2 rfl (u4 rfl (u8 rfl (u16 rfl s7_34)))))) ⟨_, rfl, (u2 rfl hb_44)⟩ rfl ?_
                                   first | (refine al_ro' (ro_mul' (up_m rfl up_h) up_h ?_) ⟨_, rfl, (up_m rfl (u2 rfl hb_44))⟩ rfl ?_; · (unfold In64; omega)) | refine al_ro' (ro_mul (up_m rfl up_h) up_h) ⟨_, rfl, (up_m rfl (u2 rfl hb_44))⟩ rfl ?_
                                   refine al_ro' (ro_move (up_m rfl (u16 rfl (u16 rfl s13_34)))) ⟨_, rfl, (u4 rfl hb_44)⟩ rfl ?_
                                   refine al_ro' (ro_lss (up_m rfl up_h) up_h) ⟨_, rfl, (up_m rfl (u4 rfl hb_44))⟩ rfl ?_
                                   refine al_ro' (ro_pickF (u2 rfl (u4 rfl hb_44)) up_h) ⟨_, rfl, (up_m rfl (u8 rfl hb_43))⟩ rfl ?_
                                   refine al_ro' (ro_pickT (u2 rfl (u8 rfl hb_43)) up_h) ⟨_, rfl, (up_m rfl (u4 rfl (u8 rfl hb_41)))⟩ rfl ?_
                                   refine al_ro' (ro_pickF (u2 rfl (u4 rfl (u8 rfl hb_41))) up_h) trivial rfl ?_
                                   refine al_ro' (ro_move up_h) trivial rfl ?_
                                   refine al_case up_h (fun hb_46 hq_46 => ?_) (fun hb_46 hq_46 => ?_)
                                   ·(first | replace hq_46 := bnt hq_46 | replace hq_46 := bnf hq_46 | replace hq_46 := bt hq_46 | replace hq_46 := bf hq_46 | replace hq_46 := bt' hq_46 | replace hq_46 := bf' hq_46 | skip)
                                    first
                                    |(cases hq_46; done) | (exfalso; omega)
                                    |(
                                      refine al_skip' ⟨_, rfl, .inl hb_46⟩ rfl ?_
                                      refine al_skip' ⟨_, rfl, .inl (up_m rfl hb_46)⟩ rfl ?_
                                      refine al_skip' ⟨_, rfl, .inl (u2 rfl hb_46)⟩ rfl ?_
                                      refine al_skip' ⟨_, rfl, .inr up_h⟩ rfl ?_
                                      refine al_skip' ⟨_, rfl, .inr (up_m rfl up_h)⟩ rfl ?_
                                      refine al_skip' ⟨_, rfl, .inl (up_m rfl (u4 rfl hb_46))⟩ rfl ?_
                                      refine al_skip' ⟨_, rfl, .inl (u2 rfl (u4 rfl hb_46))⟩ rfl ?_
                                      refine al_skip' ⟨_, rfl, .inr up_h⟩ rfl ?_
                                      refine al_skip' ⟨_, rfl, .inr (up_m rfl up_h)⟩ rfl ?_
                                      refine al_skip' ⟨_, rfl, .inr (u2 rfl up_h)⟩ rfl ?_
                                      refine al_skip' ⟨_, rfl, .inr (up_m rfl (u2 rfl up_h))⟩ rfl ?_
                                      refine al_skip' ⟨_, rfl, .inr (u4 rfl up_h)⟩ rfl ?_
                                      refine al_skip' ⟨_, rfl, .inl (u4 rfl (u8 rfl hb_46))⟩ rfl ?_
                                      refine al_ro' (ro_pickT (up_m rfl (u4 rfl (u8 rfl hb_46))) ev_c) trivial rfl ?_
                                      refine al_ro' (ro_move up_h) trivial rfl ?_
                                      refine al_skip' ⟨_, rfl, .inl up_h⟩ rfl ?_
                                      refine al_skip' ⟨_, rfl, .inl (up_m rfl up_h)⟩ rfl ?_
                                      refine al_skip' ⟨_, rfl, .inl (u2 rfl up_h)⟩ rfl ?_
                                      refine al_skip' ⟨_, rfl, .inr up_h⟩ rfl ?_
                                      refine al_skip' ⟨_, rfl, .inr (up_m rfl up_h)⟩ rfl ?_
                                      refine al_skip' ⟨_, rfl, .inl (up_m rfl (u4 rfl up_h))⟩ rfl ?_
                                      refine al_skip' ⟨_, rfl, .inl (u2 rfl (u4 rfl up_h))⟩ rfl ?_
                                      refine al_skip' ⟨_, rfl, .inr up_h⟩ rfl ?_
                                      refine al_skip' ⟨_, rfl, .inr (up_m rfl up_h)⟩ rfl ?_
                                      refine al_skip' ⟨_, rfl, .inr (u2 rfl up_h)⟩ rfl ?_
                                      refine al_skip' ⟨_, rfl, .inr (up_m rfl (u2 rfl up_h))⟩ rfl ?_
                                      refine al_skip' ⟨_, rfl, .inr (u4 rfl up_h)⟩ rfl ?_
                                      refine al_skip' ⟨_, rfl, .inr (up_m rfl (u4 rfl up_h))⟩ rfl ?_
                                      refine al_skip' ⟨_, rfl, .inl (up_m rfl (u4 rfl (u8 rfl up_h)))⟩ rfl ?_
                                      refine al_ro' (ro_pickT (u2 rfl (u4 rfl (u8 rfl up_h))) ev_c) trivial rfl ?_
                                      refine al_end (fun e_47 he_47 => ?_)
                                      have s2_47 := ef 2 he_47 (up_m rfl (u4 rfl (u16 rfl (u16 rfl (u16 rfl (u16 rfl s2_34))))))
                                      have s3_47 := ef 3 he_47 (up_m rfl (u4 rfl (u16 rfl (u16 rfl (u16 rfl (u16 rfl s3_34))))))
                                      have s4_47 := ef 4 he_47 (up_m rfl (u4 rfl (u16 rfl (u16 rfl (u16 rfl (u16 rfl s4_34))))))
                                      have s7_47 := ef 7 he_47 (up_m rfl (u4 rfl (u16 rfl (u16 rfl (u16 rfl (u16 rfl s7_34))))))
                                      have s9_47 := ef 9 he_47 (up_m rfl (u4 rfl (u16 rfl (u16 rfl (u16 rfl (u16 rfl s9_34))))))
                                      have s163_47 := ef 163 he_47 up_h
                                      clear he_47
                                      refine then_n ⟨(s163_47).trans (by (first | rfl | (refine avb ?_; simp at *; done) | (refine avb ?_; simp at *; omega))), (s2_47).trans (s2_34).symm, (s3_47).trans (s3_34).symm, (s4_47).trans (s4_34).symm, (s7_47).trans (s7_34).symm, (s9_47).trans (s9_34).symm, rfl⟩)
                                   ·(first | replace hq_46 := bnt hq_46 | replace hq_46 := bnf hq_46 | replace hq_46 := bt hq_46 | replace hq_46 := bf hq_46 | replace hq_46 := bt' hq_46 | replace hq_46 := bf' hq_46 | skip)
                                    first
                                    |(cases hq_46; done) | (exfalso; omega)
                                    |(
                                      refine al_ro' (ro_move (up_m rfl (u2 rfl (u4 rfl (u16 rfl (u16 rfl s9_34)))))) ⟨_, rfl, hb_46⟩ rfl ?_
                                      refine al_ro' (ro_neq up_h ev_c) ⟨_, rfl, (up_m rfl hb_46)⟩ rfl ?_
                                      refine al_ro' (ro_move up_h) ⟨_, rfl, (u2 rfl hb_46)⟩ rfl ?_
                                      refine al_case up_h (fun hb_48 hq_48 => ?_) (fun hb_48 hq_48 => ?_)
                                      ·(first | replace hq_48 := bnt hq_48 | replace hq_48 := bnf hq_48 | replace hq_48 := bt hq_48 | replace hq_48 := bf hq_48 | replace hq_48 := bt' hq_48 | replace hq_48 := bf' hq_48 | skip)
                                       first
                                       |(cases hq_48; done) | (exfalso; omega)
                                       |(
                                         refine al_ro' (ro_move (u2 rfl (u8 rfl (u16 rfl (u16 rfl s7_34))))) ⟨_, rfl, hb_48⟩ rfl ?_
                                         refine al_ro' (ro_gtr up_h ev_c) ⟨_, rfl, (up_m rfl hb_48)⟩ rfl ?_
                                         refine al_ro' (ro_pickT (u2 rfl hb_48) up_h) ⟨_, rfl, (up_m rfl (u4 rfl hb_46))⟩ rfl ?_
                                         refine al_ro' (ro_move up_h) ⟨_, rfl, (u2 rfl (u4 rfl hb_46))⟩ rfl ?_
                                         refine al_case up_h (fun hb_49 hq_49 => ?_) (fun hb_49 hq_49 => ?_)
                                         ·(first | replace hq_49 := bnt hq_49 | replace hq_49 := bnf hq_49 | replace hq_49 := bt hq_49 | replace hq_49 := bf hq_49 | replace hq_49 := bt' hq_49 | replace hq_49 := bf' hq_49 | skip)
                                          first
                                          |(cases hq_49; done) | (exfalso; omega)
                                          |(
                                            refine al_ro' (ro_move (u2 rfl (u4 rfl (u8 rfl (u16 rfl (u16 rfl s7_34)))))) ⟨_, rfl, hb_49⟩ rfl ?_
                                            refine al_ro' (ro_move (up_m rfl (u2 rfl (u4 rfl (u8 rfl (u16 rfl (u16 rfl s7_34))))))) ⟨_, rfl, (up_m rfl hb_49)⟩ rfl ?_
                                            first | (refine al_ro' (ro_mul' (up_m rfl up_h) up_h ?_) ⟨_, rfl, (u2 rfl hb_49)⟩ rfl ?_; · (unfold In64; omega)) | refine al_ro' (ro_mul (up_m rfl up_h) up_h) ⟨_, rfl, (u2 rfl hb_49)⟩ rfl ?_
                                            refine al_ro' (ro_move (up_m rfl (u16 rfl (u16 rfl (u16 rfl s13_34))))) ⟨_, rfl, (up_m rfl (u2 rfl hb_49))⟩ rfl ?_
                                            refine al_ro' (ro_gtr (up_m rfl up_h) up_h) ⟨_, rfl, (u4 rfl hb_49)⟩ rfl ?_
                                            refine al_ro' (ro_pickT (up_m rfl (u4 rfl hb_49)) up_h) ⟨_, rfl, (u4 rfl (u8 rfl hb_46))⟩ rfl ?_
                                            refine al_ro' (ro_pickF (up_m rfl (u4 rfl (u8 rfl hb_46))) up_h) trivial rfl ?_
                                            refine al_ro' (ro_move up_h) trivial rfl ?_
                                            refine al_case up_h (fun hb_50 hq_50 => ?_) (fun hb_50 hq_50 => ?_)
                                            ·(first | replace hq_50 := bnt hq_50 | replace hq_50 := bnf hq_50 | replace hq_50 := bt hq_50 | replace hq_50 := bf hq_50 | replace hq_50 := bt' hq_50 | replace hq_50 := bf' hq_50 | skip)
                                             first
                                             |(cases hq_50; done) | (exfalso; omega)
                                             |(
                                               refine al_skip' ⟨_, rfl, .inl hb_50⟩ rfl ?_
                                               refine al_skip' ⟨_, rfl, .inl (up_m rfl hb_50)⟩ rfl ?_
                                               refine al_skip' ⟨_, rfl, .inl (u2 rfl hb_50)⟩ rfl ?_
                                               refine al_skip' ⟨_, rfl, .inr up_h⟩ rfl ?_
                                               refine al_skip' ⟨_, rfl, .inr (up_m rfl up_h)⟩ rfl ?_
                                               refine al_skip' ⟨_, rfl, .inl (up_m rfl (u4 rfl hb_50))⟩ rfl ?_
                                               refine al_skip' ⟨_, rfl, .inl (u2 rfl (u4 rfl hb_50))⟩ rfl ?_
                                               refine al_skip' ⟨_, rfl, .inr up_h⟩ rfl ?_
                                               refine al_skip' ⟨_, rfl, .inr (up_m rfl up_h)⟩ rfl ?_
                                               refine al_skip' ⟨_, rfl, .inr (u2 rfl up_h)⟩ rfl ?_
                                               refine al_skip' ⟨_, rfl, .inr (up_m rfl (u2 rfl up_h))⟩ rfl ?_
                                               refine al_skip' ⟨_, rfl, .inr (u4 rfl up_h)⟩ rfl ?_
                                               refine al_skip' ⟨_, rfl, .inr (up_m rfl (u4 rfl up_h))⟩ rfl ?_
                                               refine al_skip' ⟨_, rfl, .inl (up_m rfl (u4 rfl (u8 rfl hb_50)))⟩ rfl ?_
                                               refine al_ro' (ro_pickT (u2 rfl (u4 rfl (u8 rfl hb_50))) ev_c) trivial rfl ?_
                                               refine al_end (fun e_51 he_51 => ?_)
                                               have s2_51 := ef 2 he_51 (up_m rfl (u4 rfl (u16 rfl (u16 rfl (u16 rfl (u16 rfl s2_34))))))
                                               have s3_51 := ef 3 he_51 (up_m rfl (u4 rfl (u16 rfl (u16 rfl (u16 rfl (u16 rfl s3_34))))))
                                               have s4_51 := ef 4 he_51 (up_m rfl (u4 rfl (u16 rfl (u16 rfl (u16 rfl (u16 rfl s4_34))))))
                                               have s7_51 := ef 7 he_51 (up_m rfl (u4 rfl (u16 rfl (u16 rfl (u16 rfl (u16 rfl s7_34))))))
                                               have s9_51 := ef 9 he_51 (up_m rfl (u4 rfl (u16 rfl (u16 rfl (u16 rfl (u16 rfl s9_34))))))
                                               have s163_51 := ef 163 he_51 up_h
                                               clear he_51
                                               refine then_n ⟨(s163_51).trans (by (first | rfl | (refine avb ?_; simp at *; done) | (refine avb ?_; simp at *; omega))), (s2_51).trans (s2_34).symm, (s3_51).trans (s3_34).symm, (s4_51).trans (s4_34).symm, (s7_51).trans (s7_34).symm, (s9_51).trans (s9_34).symm, rfl⟩)
                                            ·(first | replace hq_50 := bnt hq_50 | replace hq_50 := bnf hq_50 | replace hq_50 := bt hq_50 | replace hq_50 := bf hq_50 | replace hq_50 := bt' hq_50 | replace hq_50 := bf' hq_50 | skip)
                                             first
                                             |(cases hq_50; done) | (exfalso; omega)
                                             |(
                                               refine al_ro' (ro_move (u2 rfl (u4 rfl (u16 rfl (u16 rfl (u16 rfl s9_34)))))) ⟨_, rfl, hb_50⟩ rfl ?_
                                               refine al_ro' (ro_eql up_h ev_c) ⟨_, rfl, (up_m rfl hb_50)⟩ rfl ?_
                                               refine al_ro' (ro_move up_h) ⟨_, rfl, (u2 rfl hb_50)⟩ rfl ?_
                                               refine al_case up_h (fun hb_52 hq_52 => ?_) (fun hb_52 hq_52 => ?_)
                                               ·(first | replace hq_52 := bnt hq_52 | replace hq_52 := bnf hq_52 | replace hq_52 := bt hq_52 | replace hq_52 := bf hq_52 | replace hq_52 := bt' hq_52 | replace hq_52 := bf' hq_52 | skip)
                                                first
                                                |(cases hq_52; done) | (exfalso; omega)
                                                |(
                                                  refine al_ro' (ro_move (up_m rfl (u8 rfl (u16 rfl (u16 rfl (u16 rfl s7_34)))))) ⟨_, rfl, hb_52⟩ rfl ?_
                                                  refine al_ro' (ro_gtr up_h ev_c) ⟨_, rfl, (up_m rfl hb_52)⟩ rfl ?_
                                                  refine al_ro' (ro_pickT (u2 rfl hb_52) up_h) ⟨_, rfl, (up_m rfl (u4 rfl hb_50))⟩ rfl ?_
                                                  refine al_ro' (ro_move up_h) ⟨_, rfl, (u2 rfl (u4 rfl hb_50))⟩ rfl ?_
                                                  refine al_case up_h (fun hb_53 hq_53 => ?_) (fun hb_53 hq_53 => ?_)
                                                  ·(first | replace hq_53 := bnt hq_53 | replace hq_53 := bnf hq_53 | replace hq_53 := bt hq_53 | replace hq_53 := bf hq_53 | replace hq_53 := bt' hq_53 | replace hq_53 := bf' hq_53 | skip)
                                                   first
                                                   |(cases hq_53; done) | (exfalso; omega)
                                                   |(
                                                     refine al_ro' (ro_move (up_m rfl (u4 rfl (u8 rfl (u16 rfl (u16 rfl (u16 rfl s7_34))))))) ⟨_, rfl, hb_53⟩ rfl ?_
                                                     first | (refine al_ro' (ro_mul' ev_c up_h ?_) ⟨_, rfl, (up_m rfl hb_53)⟩ rfl ?_; · (unfold In64; omega)) | refine al_ro' (ro_mul ev_c up_h) ⟨_, rfl, (up_m rfl hb_53)⟩ rfl ?_
                                                     refine al_ro' (ro_move (up_m rfl (u2 rfl (u4 rfl (u8 rfl (u16 rfl (u16 rfl (u16 rfl s7_34)))))))) ⟨_, rfl, (u2 rfl hb_53)⟩ rfl ?_
                                                     first | (refine al_ro' (ro_mul' (up_m rfl up_h) up_h ?_) ⟨_, rfl, (up_m rfl (u2 rfl hb_53))⟩ rfl ?_; · (unfold In64; omega)) | refine al_ro' (ro_mul (up_m rfl up_h) up_h) ⟨_, rfl, (up_m rfl (u2 rfl hb_53))⟩ rfl ?_
                                                     refine al_ro' (ro_move (up_m rfl (u16 rfl (u16 rfl (u16 rfl (u16 rfl s13_34)))))) ⟨_, rfl, (u4 rfl hb_53)⟩ rfl ?_
                                                     refine al_ro' (ro_gtr (up_m rfl up_h) up_h) ⟨_, rfl, (up_m rfl (u4 rfl hb_53))⟩ rfl ?_
                                                     refine al_ro' (ro_pickT (u2 rfl (u4 rfl hb_53)) up_h) ⟨_, rfl, (up_m rfl (u4 rfl (u8 rfl hb_50)))⟩ rfl ?_
                                                     refine al_ro' (ro_pickF (u2 rfl (u4 rfl (u8 rfl hb_50))) up_h) trivial rfl ?_
                                                     refine al_end (fun e_54 he_54 => ?_)
                                                     have s2_54 := ef 2 he_54 (up_m rfl (u4 rfl (u16 rfl (u16 rfl (u16 rfl (u16 rfl s2_34))))))
                                                     have s3_54 := ef 3 he_54 (up_m rfl (u4 rfl (u16 rfl (u16 rfl (u16 rfl (u16 rfl s3_34))))))
                                                     have s4_54 := ef 4 he_54 (up_m rfl (u4 rfl (u16 rfl (u16 rfl (u16 rfl (u16 rfl s4_34))))))
                                                     have s7_54 := ef 7 he_54 (up_m rfl (u4 rfl (u16 rfl (u16 rfl (u16 rfl (u16 rfl s7_34))))))
                                                     have s9_54 := ef 9 he_54 (up_m rfl (u4 rfl (u16 rfl (u16 rfl (u16 rfl (u16 rfl s9_34))))))
                                                     have s163_54 := ef 163 he_54 up_h
                                                     clear he_54
                                                     refine then_n ⟨(s163_54).trans (by (first | rfl | (refine avb ?_; simp at *; done) | (refine avb ?_; simp at *; omega))), (s2_54).trans (s2_34).symm, (s3_54).trans (s3_34).symm, (s4_54).trans (s4_34).symm, (s7_54).trans (s7_34).symm, (s9_54).trans (s9_34).symm, rfl⟩)
                                                  ·(first | replace hq_53 := bnt hq_53 | replace hq_53 := bnf hq_53 | replace hq_53 := bt hq_53 | replace hq_53 := bf hq_53 | replace hq_53 := bt' hq_53 | replace hq_53 := bf' hq_53 | skip)
                                                   first
                                                   |(cases hq_53; done) | (exfalso; omega)
                                                   |(
                                                     refine al_skip' ⟨_, rfl, .inl hb_53⟩ rfl ?_
                                                     refine al_skip' ⟨_, rfl, .inl (up_m rfl hb_53)⟩ rfl ?_
                                                     refine al_skip' ⟨_, rfl, .inl (u2 rfl hb_53)⟩ rfl ?_
                                                     refine al_skip' ⟨_, rfl, .inl (up_m rfl (u2 rfl hb_53))⟩ rfl ?_
                                                     refine al_skip' ⟨_, rfl, .inl (u4 rfl hb_53)⟩ rfl ?_
                                                     refine al_skip' ⟨_, rfl, .inl (up_m rfl (u4 rfl hb_53))⟩ rfl ?_
                                                     refine al_ro' (ro_pickF (u2 rfl (u4 rfl hb_53)) ev_c) ⟨_, rfl, (up_m rfl (u4 rfl (u8 rfl hb_50)))⟩ rfl ?_
                                                     refine al_ro' (ro_pickF (u2 rfl (u4 rfl (u8 rfl hb_50))) up_h) trivial rfl ?_
                                                     refine al_end (fun e_55 he_55 => ?_)
                                                     have s2_55 := ef 2 he_55 (up_m rfl (u4 rfl (u16 rfl (u16 rfl (u16 rfl (u16 rfl s2_34))))))
                                                     have s3_55 := ef 3 he_55 (up_m rfl (u4 rfl (u16 rfl (u16 rfl (u16 rfl (u16 rfl s3_34))))))
                                                     have s4_55 := ef 4 he_55 (up_m rfl (u4 rfl (u16 rfl (u16 rfl (u16 rfl (u16 rfl s4_34))))))
                                                     have s7_55 := ef 7 he_55 (up_m rfl (u4 rfl (u16 rfl (u16 rfl (u16 rfl (u16 rfl s7_34))))))
                                                     have s9_55 := ef 9 he_55 (up_m rfl (u4 rfl (u16 rfl (u16 rfl (u16 rfl (u16 rfl s9_34))))))
                                                     have s163_55 := ef 163 he_55 up_h
                                                     clear he_55
                                                     refine then_n ⟨(s163_55).trans (by (first | rfl | (refine avb ?_; simp at *; done) | (refine avb ?_; simp at *; omega))), (s2_55).trans (s2_34).symm, (s3_55).trans (s3_34).symm, (s4_55).trans (s4_34).symm, (s7_55).trans (s7_34).symm, (s9_55).trans (s9_34).symm, rfl⟩))
                                               ·(first | replace hq_52 := bnt hq_52 | replace hq_52 := bnf hq_52 | replace hq_52 := bt hq_52 | replace hq_52 := bf hq_52 | replace hq_52 := bt' hq_52 | replace hq_52 := bf' hq_52 | skip)
                                                first
                                                |(cases hq_52; done) | (exfalso; omega)
                                                |(
                                                  refine al_skip' ⟨_, rfl, .inl hb_52⟩ rfl ?_
                                                  refine al_skip' ⟨_, rfl, .inl (up_m rfl hb_52)⟩ rfl ?_
                                                  refine al_ro' (ro_pickF (u2 rfl hb_52) ev_c) ⟨_, rfl, (up_m rfl (u4 rfl hb_50))⟩ rfl ?_
                                                  refine al_ro' (ro_move up_h) ⟨_, rfl, (u2 rfl (u4 rfl hb_50))⟩ rfl ?_
                                                  refine al_skip' ⟨_, rfl, .inl up_h⟩ rfl ?_
                                                  refine al_skip' ⟨_, rfl, .inl (up_m rfl up_h)⟩ rfl ?_
                                                  refine al_skip' ⟨_, rfl, .inl (u2 rfl up_h)⟩ rfl ?_
                                                  refine al_skip' ⟨_, rfl, .inl (up_m rfl (u2 rfl up_h))⟩ rfl ?_
                                                  refine al_skip' ⟨_, rfl, .inl (u4 rfl up_h)⟩ rfl ?_
                                                  refine al_skip' ⟨_, rfl, .inl (up_m rfl (u4 rfl up_h))⟩ rfl ?_
                                                  refine al_ro' (ro_pickF (u2 rfl (u4 rfl up_h)) ev_c) ⟨_, rfl, (up_m rfl (u4 rfl (u8 rfl hb_50)))⟩ rfl ?_
                                                  refine al_ro' (ro_pickF (u2 rfl (u4 rfl (u8 rfl hb_50))) up_h) trivial rfl ?_
                                                  refine al_end (fun e_56 he_56 => ?_)
                                                  have s2_56 := ef 2 he_56 (up_m rfl (u4 rfl (u16 rfl (u16 rfl (u16 rfl (u16 rfl s2_34))))))
                                                  have s3_56 := ef 3 he_56 (up_m rfl (u4 rfl (u16 rfl (u16 rfl (u16 rfl (u16 rfl s3_34))))))
                                                  have s4_56 := ef 4 he_56 (up_m rfl (u4 rfl (u16 rfl (u16 rfl (u16 rfl (u16 rfl s4_34))))))
                                                  have s7_56 := ef 7 he_56 (up_m rfl (u4 rfl (u16 rfl (u16 rfl (u16 rfl (u16 rfl s7_34))))))
                                                  have s9_56 := ef 9 he_56 (up_m rfl (u4 rfl (u16 rfl (u16 rfl (u16 rfl (u16 rfl s9_34))))))
                                                  have s163_56 := ef 163 he_56 up_h
                                                  clear he_56
                                                  refine then_n ⟨(s163_56).trans (by (first | rfl | (refine avb ?_; simp at *; done) | (refine avb ?_; simp at *; omega))), (s2_56).trans (s2_34).symm, (s3_56).trans (s3_34).symm, (s4_56).trans (s4_34).symm, (s7_56).trans (s7_34).symm, (s9_56).trans (s9_34).symm, rfl⟩)))
                                         ·(first | replace hq_49 := bnt hq_49 | replace hq_49 := bnf hq_49 | replace hq_49 := bt hq_49 | replace hq_49 := bf hq_49 | replace hq_49 := bt' hq_49 | replace hq_49 := bf' hq_49 | skip)
                                          first
                                          |(cases hq_49; done) | (exfalso; omega)
                                          |(
                                            refine al_skip' ⟨_, rfl, .inl hb_49⟩ rfl ?_
                                            refine al_skip' ⟨_, rfl, .inl (up_m rfl hb_49)⟩ rfl ?_
                                            refine al_skip' ⟨_, rfl, .inl (u2 rfl hb_49)⟩ rfl ?_
                                            refine al_skip' ⟨_, rfl, .inl (up_m rfl (u2 rfl hb_49))⟩ rfl ?_
                                            refine al_skip' ⟨_, rfl, .inl (u4 rfl hb_49)⟩ rfl ?_
                                            refine al_ro' (ro_pickF (up_m rfl (u4 rfl hb_49)) ev_c) ⟨_, rfl, (u4 rfl (u8 rfl hb_46))⟩ rfl ?_
                                            refine al_ro' (ro_pickF (up_m rfl (u4 rfl (u8 rfl hb_46))) up_h) trivial rfl ?_
                                            refine al_ro' (ro_move up_h) trivial rfl ?_
                                            refine al_ro' (ro_move (u2 rfl (u4 rfl (u16 rfl (u16 rfl (u16 rfl s9_34)))))) ⟨_, rfl, up_h⟩ rfl ?_
                                            refine al_ro' (ro_eql up_h ev_c) ⟨_, rfl, (up_m rfl up_h)⟩ rfl ?_
                                            refine al_ro' (ro_move up_h) ⟨_, rfl, (u2 rfl up_h)⟩ rfl ?_
                                            refine al_case up_h (fun hb_57 hq_57 => ?_) (fun hb_57 hq_57 => ?_)
                                            ·(first | replace hq_57 := bnt hq_57 | replace hq_57 := bnf hq_57 | replace hq_57 := bt hq_57 | replace hq_57 := bf hq_57 | replace hq_57 := bt' hq_57 | replace hq_57 := bf' hq_57 | skip)
                                             first
                                             |(cases hq_57; done) | (exfalso; omega)
                                             |(
                                               refine al_ro' (ro_move (up_m rfl (u8 rfl (u16 rfl (u16 rfl (u16 rfl s7_34)))))) ⟨_, rfl, hb_57⟩ rfl ?_
                                               refine al_ro' (ro_gtr up_h ev_c) ⟨_, rfl, (up_m rfl hb_57)⟩ rfl ?_
                                               refine al_ro' (ro_pickT (u2 rfl hb_57) up_h) ⟨_, rfl, (up_m rfl (u4 rfl up_h))⟩ rfl ?_
                                               refine al_ro' (ro_move up_h) ⟨_, rfl, (u2 rfl (u4 rfl up_h))⟩ rfl ?_
                                               refine al_case up_h (fun hb_58 hq_58 => ?_) (fun hb_58 hq_58 => ?_)
                                               ·(first | replace hq_58 := bnt hq_58 | replace hq_58 := bnf hq_58 | replace hq_58 := bt hq_58 | replace hq_58 := bf hq_58 | replace hq_58 := bt' hq_58 | replace hq_58 := bf' hq_58 | skip)
                                                first
                                                |(cases hq_58; done) | (exfalso; omega)
                                                |(
                                                  refine al_ro' (ro_move (up_m rfl (u4 rfl (u8 rfl (u16 rfl (u16 rfl (u16 rfl s7_34))))))) ⟨_, rfl, hb_58⟩ rfl ?_
                                                  first | (refine al_ro' (ro_mul' ev_c up_h ?_) ⟨_, rfl, (up_m rfl hb_58)⟩ rfl ?_; · (unfold In64; omega)) | refine al_ro' (ro_mul ev_c up_h) ⟨_, rfl, (up_m rfl hb_58)⟩ rfl ?_
                                                  refine al_ro' (ro_move (up_m rfl (u2 rfl (u4 rfl (u8 rfl (u16 rfl (u16 rfl (u16 rfl s7_34)))))))) ⟨_, rfl, (u2 rfl hb_58)⟩ rfl ?_
                                                  first | (refine al_ro' (ro_mul' (up_m rfl up_h) up_h ?_) ⟨_, rfl, (up_m rfl (u2 rfl hb_58))⟩ rfl ?_; · (unfold In64; omega)) | refine al_ro' (ro_mul (up_m rfl up_h) up_h) ⟨_, rfl, (up_m rfl (u2 rfl hb_58))⟩ rfl ?_
                                                  refine al_ro' (ro_move (up_m rfl (u16 rfl (u16 rfl (u16 rfl (u16 rfl s13_34)))))) ⟨_, rfl, (u4 rfl hb_58)⟩ rfl ?_
                                                  refine al_ro' (ro_gtr (up_m rfl up_h) up_h) ⟨_, rfl, (up_m rfl (u4 rfl hb_58))⟩ rfl ?_
                                                  refine al_ro' (ro_pickT (u2 rfl (u4 rfl hb_58)) up_h) ⟨_, rfl, (up_m rfl (u4 rfl (u8 rfl up_h)))⟩ rfl ?_
                                                  refine al_ro' (ro_pickF (u2 rfl (u4 rfl (u8 rfl up_h))) up_h) trivial rfl ?_
                                                  refine al_end (fun e_59 he_59 => ?_)
                                                  have s2_59 := ef 2 he_59 (up_m rfl (u4 rfl (u16 rfl (u16 rfl (u16 rfl (u16 rfl s2_34))))))
                                                  have s3_59 := ef 3 he_59 (up_m rfl (u4 rfl (u16 rfl (u16 rfl (u16 rfl (u16 rfl s3_34))))))
                                                  have s4_59 := ef 4 he_59 (up_m rfl (u4 rfl (u16 rfl (u16 rfl (u16 rfl (u16 rfl s4_34))))))
                                                  have s7_59 := ef 7 he_59 (up_m rfl (u4 rfl (u16 rfl (u16 rfl (u16 rfl (u16 rfl s7_34))))))
                                                  have s9_59 := ef 9 he_59 (up_m rfl (u4 rfl (u16 rfl (u16 rfl (u16 rfl (u16 rfl s9_34))))))
                                                  have s163_59 := ef 163 he_59 up_h
                                                  clear he_59
                                                  refine then_n ⟨(s163_59).trans (by (first | rfl | (refine avb ?_; simp at *; done) | (refine avb ?_; simp at *; omega))), (s2_59).trans (s2_34).symm, (s3_59).trans (s3_34).symm, (s4_59).trans (s4_34).symm, (s7_59).trans (s7_34).symm, (s9_59).trans (s9_34).symm, rfl⟩)
                                               ·(first | replace hq_58 := bnt hq_58 | replace hq_58 := bnf hq_58 | replace hq_58 := bt hq_58 | replace hq_58 := bf hq_58 | replace hq_58 := bt' hq_58 | replace hq_58 := bf' hq_58 | skip)
                                                first
                                                |(cases hq_58; done) | (exfalso; omega)
                                                |(
                                                  refine al_skip' ⟨_, rfl, .inl hb_58⟩ rfl ?_
                                                  refine al_skip' ⟨_, rfl, .inl (up_m rfl hb_58)⟩ rfl ?_
                                                  refine al_skip' ⟨_, rfl, .inl (u2 rfl hb_58)⟩ rfl ?_
                                                  refine al_skip' ⟨_, rfl, .inl (up_m rfl (u2 rfl hb_58))⟩ rfl ?_
                                                  refine al_skip' ⟨_, rfl, .inl (u4 rfl hb_58)⟩ rfl ?_
                                                  refine al_skip' ⟨_, rfl, .inl (up_m rfl (u4 rfl hb_58))⟩ rfl ?_
                                                  refine al_ro' (ro_pickF (u2 rfl (u4 rfl hb_58)) ev_c) ⟨_, rfl, (up_m rfl (u4 rfl (u8 rfl up_h)))⟩ rfl ?_
                                                  refine al_ro' (ro_pickF (u2 rfl (u4 rfl (u8 rfl up_h))) up_h) trivial rfl ?_
                                                  refine al_end (fun e_60 he_60 => ?_)
                                                  have s2_60 := ef 2 he_60 (up_m rfl (u4 rfl (u16 rfl (u16 rfl (u16 rfl (u16 rfl s2_34))))))
                                                  have s3_60 := ef 3 he_60 (up_m rfl (u4 rfl (u16 rfl (u16 rfl (u16 rfl (u16 rfl s3_34))))))
                                                  have s4_60 := ef 4 he_60 (up_m rfl (u4 rfl (u16 rfl (u16 rfl (u16 rfl (u16 rfl s4_34))))))
                                                  have s7_60 := ef 7 he_60 (up_m rfl (u4 rfl (u16 rfl (u16 rfl (u16 rfl (u16 rfl s7_34))))))
                                                  have s9_60 := ef 9 he_60 (up_m rfl (u4 rfl (u16 rfl (u16 rfl (u16 rfl (u16 rfl s9_34))))))
                                                  have s163_60 := ef 163 he_60 up_h
                                                  clear he_60
                                                  refine then_n ⟨(s163_60).trans (by (first | rfl | (refine avb ?_; simp at *; done) | (refine avb ?_; simp at *; omega))), (s2_60).trans (s2_34).symm, (s3_60).trans (s3_34).symm, (s4_60).trans (s4_34).symm, (s7_60).trans (s7_34).symm, (s9_60).trans (s9_34).symm, rfl⟩))
                                            ·(first | replace hq_57 := bnt hq_57 | replace hq_57 := bnf hq_57 | replace hq_57 := bt hq_57 | replace hq_57 := bf hq_57 | replace hq_57 := bt' hq_57 | replace hq_57 := bf' hq_57 | skip)
                                             first
                                             |(cases hq_57; done) | (exfalso; omega)
                                             |(
                                               refine al_skip' ⟨_, rfl, .inl hb_57⟩ rfl ?_
                                               refine al_skip' ⟨_, rfl, .inl (up_m rfl hb_57)⟩ rfl ?_
                                               refine al_ro' (ro_pickF (u2 rfl hb_57) ev_c) ⟨_, rfl, (up_m rfl (u4 rfl up_h))⟩ rfl ?_
                                               refine al_ro' (ro_move up_h) ⟨_, rfl, (u2 rfl (u4 rfl up_h))⟩ rfl ?_
                                               refine al_skip' ⟨_, rfl, .inl up_h⟩ rfl ?_
                                               refine al_skip' ⟨_, rfl, .inl (up_m rfl up_h)⟩ rfl ?_
                                               refine al_skip' ⟨_, rfl, .inl (u2 rfl up_h)⟩ rfl ?_
                                               refine al_skip' ⟨_, rfl, .inl (up_m rfl (u2 rfl up_h))⟩ rfl ?_
                                               refine al_skip' ⟨_, rfl, .inl (u4 rfl up_h)⟩ rfl ?_
                                               refine al_skip' ⟨_, rfl, .inl (up_m rfl (u4 rfl up_h))⟩ rfl ?_
                                               refine al_ro' (ro_pickF (u2 rfl (u4 rfl up_h)) ev_c) ⟨_, rfl, (up_m rfl (u4 rfl (u8 rfl up_h)))⟩ rfl ?_
                                               refine al_ro' (ro_pickF (u2 rfl (u4 rfl (u8 rfl up_h))) up_h) trivial rfl ?_
                                               refine al_end (fun e_61 he_61 => ?_)
                                               have s2_61 := ef 2 he_61 (up_m rfl (u4 rfl (u16 rfl (u16 rfl (u16 rfl (u16 rfl s2_34))))))
                                               have s3_61 := ef 3 he_61 (up_m rfl (u4 rfl (u16 rfl (u16 rfl (u16 rfl (u16 rfl s3_34))))))
                                               have s4_61 := ef 4 he_61 (up_m rfl (u4 rfl (u16 rfl (u16 rfl (u16 rfl (u16 rfl s4_34))))))
                                               have s7_61 := ef 7 he_61 (up_m rfl (u4 rfl (u16 rfl (u16 rfl (u16 rfl (u16 rfl s7_34))))))
                                               have s9_61 := ef 9 he_61 (up_m rfl (u4 rfl (u16 rfl (u16 rfl (u16 rfl (u16 rfl s9_34))))))
                                               have s163_61 := ef 163 he_61 up_h
                                               clear he_61
                                               refine then_n ⟨(s163_61).trans (by (first | rfl | (refine avb ?_; simp at *; done) | (refine avb ?_; simp at *; omega))), (s2_61).trans (s2_34).symm, (s3_61).trans (s3_34).symm, (s4_61).trans (s4_34).symm, (s7_61).trans (s7_34).symm, (s9_61).trans (s9_34).symm, rfl⟩)))
                                      ·(first | replace hq_48 := bnt hq_48 | replace hq_48 := bnf hq_48 | replace hq_48 := bt hq_48 | replace hq_48 := bf hq_48 | replace hq_48 := bt' hq_48 | replace hq_48 := bf' hq_48 | skip)
                                       first
                                       |(cases hq_48; done) | (exfalso; omega)
                                       |(
                                         refine al_skip' ⟨_, rfl, .inl hb_48⟩ rfl ?_
                                         refine al_skip' ⟨_, rfl, .inl (up_m rfl hb_48)⟩ rfl ?_
                                         refine al_ro' (ro_pickF (u2 rfl hb_48) ev_c) ⟨_, rfl, (up_m rfl (u4 rfl hb_46))⟩ rfl ?_
                                         refine al_ro' (ro_move up_h) ⟨_, rfl, (u2 rfl (u4 rfl hb_46))⟩ rfl ?_
                                         refine al_skip' ⟨_, rfl, .inl up_h⟩ rfl ?_
                                         refine al_skip' ⟨_, rfl, .inl (up_m rfl up_h)⟩ rfl ?_
                                         refine al_skip' ⟨_, rfl, .inl (u2 rfl up_h)⟩ rfl ?_
                                         refine al_skip' ⟨_, rfl, .inl (up_m rfl (u2 rfl up_h))⟩ rfl ?_
                                         refine al_skip' ⟨_, rfl, .inl (u4 rfl up_h)⟩ rfl ?_
                                         refine al_ro' (ro_pickF (up_m rfl (u4 rfl up_h)) ev_c) ⟨_, rfl, (u4 rfl (u8 rfl hb_46))⟩ rfl ?_
                                         refine al_ro' (ro_pickF (up_m rfl (u4 rfl (u8 rfl hb_46))) up_h) trivial rfl ?_
                                         refine al_ro' (ro_move up_h) trivial rfl ?_
                                         refine al_ro' (ro_move (u2 rfl (u4 rfl (u16 rfl (u16 rfl (u16 rfl s9_34)))))) ⟨_, rfl, up_h⟩ rfl ?_
                                         refine al_ro' (ro_eql up_h ev_c) ⟨_, rfl, (up_m rfl up_h)⟩ rfl ?_
                                         refine al_ro' (ro_move up_h) ⟨_, rfl, (u2 rfl up_h)⟩ rfl ?_
                                         refine al_case up_h (fun hb_62 hq_62 => ?_) (fun hb_62 hq_62 => ?_)
                                         ·(first | replace hq_62 := bnt hq_62 | replace hq_62 := bnf hq_62 | replace hq_62 := bt hq_62 | replace hq_62 := bf hq_62 | replace hq_62 := bt' hq_62 | replace hq_62 := bf' hq_62 | skip)
                                          first
                                          |(cases hq_62; done) | (exfalso; omega)
                                          |(
                                            refine al_ro' (ro_move (up_m rfl (u8 rfl (u16 rfl (u16 rfl (u16 rfl s7_34)))))) ⟨_, rfl, hb_62⟩ rfl ?_
                                            refine al_ro' (ro_gtr up_h ev_c) ⟨_, rfl, (up_m rfl hb_62)⟩ rfl ?_
                                            refine al_ro' (ro_pickT (u2 rfl hb_62) up_h) ⟨_, rfl, (up_m rfl (u4 rfl up_h))⟩ rfl ?_
                                            refine al_ro' (ro_move up_h) ⟨_, rfl, (u2 rfl (u4 rfl up_h))⟩ rfl ?_
                                            refine al_case up_h (fun hb_63 hq_63 => ?_) (fun hb_63 hq_63 => ?_)
                                            ·(first | replace hq_63 := bnt hq_63 | replace hq_63 := bnf hq_63 | replace hq_63 := bt hq_63 | replace hq_63 := bf hq_63 | replace hq_63 := bt' hq_63 | replace hq_63 := bf' hq_63 | skip)
                                             first
                                             |(cases hq_63; done) | (exfalso; omega)
                                             |(
                                               refine al_ro' (ro_move (up_m rfl (u4 rfl (u8 rfl (u16 rfl (u16 rfl (u16 rfl s7_34))))))) ⟨_, rfl, hb_63⟩ rfl ?_
                                               first | (refine al_ro' (ro_mul' ev_c up_h ?_) ⟨_, rfl, (up_m rfl hb_63)⟩ rfl ?_; · (unfold In64; omega)) | refine al_ro' (ro_mul ev_c up_h) ⟨_, rfl, (up_m rfl hb_63)⟩ rfl ?_
                                               refine al_ro' (ro_move (up_m rfl (u2 rfl (u4 rfl (u8 rfl (u16 rfl (u16 rfl (u16 rfl s7_34)))))))) ⟨_, rfl, (u2 rfl hb_63)⟩ rfl ?_
                                               first | (refine al_ro' (ro_mul' (up_m rfl up_h) up_h ?_) ⟨_, rfl, (up_m rfl (u2 rfl hb_63))⟩ rfl ?_; · (unfold In64; omega)) | refine al_ro' (ro_mul (up_m rfl up_h) up_h) ⟨_, rfl, (up_m rfl (u2 rfl hb_63))⟩ rfl ?_
                                               refine al_ro' (ro_move (up_m rfl (u16 rfl (u16 rfl (u16 rfl (u16 rfl s13_34)))))) ⟨_, rfl, (u4 rfl hb_63)⟩ rfl ?_
                                               refine al_ro' (ro_gtr (up_m rfl up_h) up_h) ⟨_, rfl, (up_m rfl (u4 rfl hb_63))⟩ rfl ?_
                                               refine al_ro' (ro_pickT (u2 rfl (u4 rfl hb_63)) up_h) ⟨_, rfl, (up_m rfl (u4 rfl (u8 rfl up_h)))⟩ rfl ?_
                                               refine al_ro' (ro_pickF (u2 rfl (u4 rfl (u8 rfl up_h))) up_h) trivial rfl ?_
                                               refine al_end (fun e_64 he_64 => ?_)
                                               have s2_64 := ef 2 he_64 (up_m rfl (u4 rfl (u16 rfl (u16 rfl (u16 rfl (u16 rfl s2_34))))))
                                               have s3_64 := ef 3 he_64 (up_m rfl (u4 rfl (u16 rfl (u16 rfl (u16 rfl (u16 rfl s3_34))))))
                                               have s4_64 := ef 4 he_64 (up_m rfl (u4 rfl (u16 rfl (u16 rfl (u16 rfl (u16 rfl s4_34))))))
                                               have s7_64 := ef 7 he_64 (up_m rfl (u4 rfl (u16 rfl (u16 rfl (u16 rfl (u16 rfl s7_34))))))
                                               have s9_64 := ef 9 he_64 (up_m rfl (u4 rfl (u16 rfl (u16 rfl (u16 rfl (u16 rfl s9_34))))))
                                               have s163_64 := ef 163 he_64 up_h
                                               clear he_64
                                               refine then_n ⟨(s163_64).trans (by (first | rfl | (refine avb ?_; simp at *; done) | (refine avb ?_; simp at *; omega))), (s2_64).trans (s2_34).symm, (s3_64).trans (s3_34).symm, (s4_64).trans (s4_34).symm, (s7_64).trans (s7_34).symm, (s9_64).trans (s9_34).symm, rfl⟩)
                                            ·(first | replace hq_63 := bnt hq_63 | replace hq_63 := bnf hq_63 | replace hq_63 := bt hq_63 | replace hq_63 := bf hq_63 | replace hq_63 := bt' hq_63 | replace hq_63 := bf' hq_63 | skip)
                                             first
                                             |(cases hq_63; done) | (exfalso; omega)
                                             |(
                                               refine al_skip' ⟨_, rfl, .inl hb_63⟩ rfl ?_
                                               refine al_skip' ⟨_, rfl, .inl (up_m rfl hb_63)⟩ rfl ?_
                                               refine al_skip' ⟨_, rfl, .inl (u2 rfl hb_63)⟩ rfl ?_
                                               refine al_skip' ⟨_, rfl, .inl (up_m rfl (u2 rfl hb_63))⟩ rfl ?_
                                               refine al_skip' ⟨_, rfl, .inl (u4 rfl hb_63)⟩ rfl ?_
                                               refine al_skip' ⟨_, rfl, .inl (up_m rfl (u4 rfl hb_63))⟩ rfl ?_
                                               refine al_ro' (ro_pickF (u2 rfl (u4 rfl hb_63)) ev_c) ⟨_, rfl, (up_m rfl (u4 rfl (u8 rfl up_h)))⟩ rfl ?_
                                               refine al_ro' (ro_pickF (u2 rfl (u4 rfl (u8 rfl up_h))) up_h) trivial rfl ?_
                                               refine al_end (fun e_65 he_65 => ?_)
                                               have s2_65 := ef 2 he_65 (up_m rfl (u4 rfl (u16 rfl (u16 rfl (u16 rfl (u16 rfl s2_34))))))
                                               have s3_65 := ef 3 he_65 (up_m rfl (u4 rfl (u16 rfl (u16 rfl (u16 rfl (u16 rfl s3_34))))))
                                               have s4_65 := ef 4 he_65 (up_m rfl (u4 rfl (u16 rfl (u16 rfl (u16 rfl (u16 rfl s4_34))))))
                                               have s7_65 := ef 7 he_65 (up_m rfl (u4 rfl (u16 rfl (u16 rfl (u16 rfl (u16 rfl s7_34))))))
                                               have s9_65 := ef 9 he_65 (up_m rfl (u4 rfl (u16 rfl (u16 rfl (u16 rfl (u16 rfl s9_34))))))
                                               have s163_65 := ef 163 he_65 up_h
                                               clear he_65
                                               refine then_n ⟨(s163_65).trans (by (first | rfl | (refine avb ?_; simp at *; done) | (refine avb ?_; simp at *; omega))), (s2_65).trans (s2_34).symm, (s3_65).trans (s3_34).symm, (s4_65).trans (s4_34).symm, (s7_65).trans (s7_34).symm, (s9_65).trans (s9_34).symm, rfl⟩))
                                         ·(first | replace hq_62 := bnt hq_62 | replace hq_62 := bnf hq_62 | replace hq_62 := bt hq_62 | replace hq_62 := bf hq_62 | replace hq_62 := bt' hq_62 | replace hq_62 := bf' hq_62 | skip)
                                          first
                                          |(cases hq_62; done) | (exfalso; omega)
                                          |(
                                            refine al_skip' ⟨_, rfl, .inl hb_62⟩ rfl ?_
                                            refine al_skip' ⟨_, rfl, .inl (up_m rfl hb_62)⟩ rfl ?_
                                            refine al_ro' (ro_pickF (u2 rfl hb_62) ev_c) ⟨_, rfl, (up_m rfl (u4 rfl up_h))⟩ rfl ?_
                                            refine al_ro' (ro_move up_h) ⟨_, rfl, (u2 rfl (u4 rfl up_h))⟩ rfl ?_
                                            refine al_skip' ⟨_, rfl, .inl up_h⟩ rfl ?_
                                            refine al_skip' ⟨_, rfl, .inl (up_m rfl up_h)⟩ rfl ?_
                                            refine al_skip' ⟨_, rfl, .inl (u2 rfl up_h)⟩ rfl ?_
                                            refine al_skip' ⟨_, rfl, .inl (up_m rfl (u2 rfl up_h))⟩ rfl ?_
                                            refine al_skip' ⟨_, rfl, .inl (u4 rfl up_h)⟩ rfl ?_
                                            refine al_skip' ⟨_, rfl, .inl (up_m rfl (u4 rfl up_h))⟩ rfl ?_
                                            refine al_ro' (ro_pickF (u2 rfl (u4 rfl up_h)) ev_c) ⟨_, rfl, (up_m rfl (u4 rfl (u8 rfl up_h)))⟩ rfl ?_
                                            refine al_ro' (ro_pickF (u2 rfl (u4 rfl (u8 rfl up_h))) up_h) trivial rfl ?_
                                            refine al_end (fun e_66 he_66 => ?_)
                                            have s2_66 := ef 2 he_66 (up_m rfl (u4 rfl (u16 rfl (u16 rfl (u16 rfl (u16 rfl s2_34))))))
                                            have s3_66 := ef 3 he_66 (up_m rfl (u4 rfl (u16 rfl (u16 rfl (u16 rfl (u16 rfl s3_34))))))
                                            have s4_66 := ef 4 he_66 (up_m rfl (u4 rfl (u16 rfl (u16 rfl (u16 rfl (u16 rfl s4_34))))))
                                            have s7_66 := ef 7 he_66 (up_m rfl (u4 rfl (u16 rfl (u16 rfl (u16 rfl (u16 rfl s7_34))))))
                                            have s9_66 := ef 9 he_66 (up_m rfl (u4 rfl (u16 rfl (u16 rfl (u16 rfl (u16 rfl s9_34))))))
                                            have s163_66 := ef 163 he_66 up_h
                                            clear he_66
                                            refine then_n ⟨(s163_66).trans (by (first | rfl | (refine avb ?_; simp at *; done) | (refine avb ?_; simp at *; omega))), (s2_66).trans (s2_34).symm, (s3_66).trans (s3_34).symm, (s4_66).trans (s4_34).symm, (s7_66).trans (s7_34).symm, (s9_66).trans (s9_34).symm, rfl⟩)))))
                             ·(first | replace hq_43 := bnt hq_43 | replace hq_43 := bnf hq_43 | replace hq_43 := bt hq_43 | replace hq_43 := bf hq_43 | replace hq_43 := bt' hq_43 | replace hq_43 := bf' hq_43 | skip)
                              first
                              |(cases hq_43; done) | (exfalso; omega)
                              |(
                                refine al_skip' ⟨_, rfl, .inl hb_43⟩ rfl ?_
                                refine al_skip' ⟨_, rfl, .inl (up_m rfl hb_43)⟩ rfl ?_
                                refine al_skip' ⟨_, rfl, .inl (u2 rfl hb_43)⟩ rfl ?_
                                refine al_skip' ⟨_, rfl, .inr up_h⟩ rfl ?_
                                refine al_skip' ⟨_, rfl, .inr (up_m rfl up_h)⟩ rfl ?_
                                refine al_skip' ⟨_, rfl, .inr (u2 rfl up_h)⟩ rfl ?_
                                refine al_skip' ⟨_, rfl, .inr (up_m rfl (u2 rfl up_h))⟩ rfl ?_
                                refine al_skip' ⟨_, rfl, .inr (u4 rfl up_h)⟩ rfl ?_
                                refine al_skip' ⟨_, rfl, .inr (up_m rfl (u4 rfl up_h))⟩ rfl ?_
                                refine al_skip' ⟨_, rfl, .inl (up_m rfl (u8 rfl hb_43))⟩ rfl ?_
                                refine al_ro' (ro_pickF (u2 rfl (u8 rfl hb_43)) ev_c) ⟨_, rfl, (up_m rfl (u4 rfl (u8 rfl hb_41)))⟩ rfl ?_
                                refine al_ro' (ro_pickF (u2 rfl (u4 rfl (u8 rfl hb_41))) up_h) trivial rfl ?_
                                refine al_ro' (ro_move up_h) trivial rfl ?_
                                refine al_ro' (ro_move (up_m rfl (u2 rfl (u4 rfl (u16 rfl (u16 rfl s9_34)))))) ⟨_, rfl, up_h⟩ rfl ?_
                                refine al_ro' (ro_neq up_h ev_c) ⟨_, rfl, (up_m rfl up_h)⟩ rfl ?_
                                refine al_ro' (ro_move up_h) ⟨_, rfl, (u2 rfl up_h)⟩ rfl ?_
                                refine al_case up_h (fun hb_67 hq_67 => ?_) (fun hb_67 hq_67 => ?_)
                                ·(first | replace hq_67 := bnt hq_67 | replace hq_67 := bnf hq_67 | replace hq_67 := bt hq_67 | replace hq_67 := bf hq_67 | replace hq_67 := bt' hq_67 | replace hq_67 := bf' hq_67 | skip)
                                 first
                                 |(cases hq_67; done) | (exfalso; omega)
                                 |(
                                   refine al_ro' (ro_move (u2 rfl (u8 rfl (u16 rfl (u16 rfl s7_34))))) ⟨_, rfl, hb_67⟩ rfl ?_
                                   refine al_ro' (ro_gtr up_h ev_c) ⟨_, rfl, (up_m rfl hb_67)⟩ rfl ?_
                                   refine al_ro' (ro_pickT (u2 rfl hb_67) up_h) ⟨_, rfl, (up_m rfl (u4 rfl up_h))⟩ rfl ?_
                                   refine al_ro' (ro_move up_h) ⟨_, rfl, (u2 rfl (u4 rfl up_h))⟩ rfl ?_
                                   refine al_case up_h (fun hb_68 hq_68 => ?_) (fun hb_68 hq_68 => ?_)
                                   ·(first | replace hq_68 := bnt hq_68 | replace hq_68 := bnf hq_68 | replace hq_68 := bt hq_68 | replace hq_68 := bf hq_68 | replace hq_68 := bt' hq_68 | replace hq_68 := bf' hq_68 | skip)
                                    first
                                    |(cases hq_68; done) | (exfalso; omega)
                                    |(
                                      refine al_ro' (ro_move (u2 rfl (u4 rfl (u8 rfl (u16 rfl (u16 rfl s7_34)))))) ⟨_, rfl, hb_68⟩ rfl ?_
                                      refine al_ro' (ro_move (up_m rfl (u2 rfl (u4 rfl (u8 rfl (u16 rfl (u16 rfl s7_34))))))) ⟨_, rfl, (up_m rfl hb_68)⟩ rfl ?_
                                      first | (refine al_ro' (ro_mul' (up_m rfl up_h) up_h ?_) ⟨_, rfl, (u2 rfl hb_68)⟩ rfl ?_; · (unfold In64; omega)) | refine al_ro' (ro_mul (up_m rfl up_h) up_h) ⟨_, rfl, (u2 rfl hb_68)⟩ rfl ?_
                                      refine al_ro' (ro_move (up_m rfl (u16 rfl (u16 rfl (u16 rfl s13_34))))) ⟨_, rfl, (up_m rfl (u2 rfl hb_68))⟩ rfl ?_
                                      refine al_ro' (ro_gtr (up_m rfl up_h) up_h) ⟨_, rfl, (u4 rfl hb_68)⟩ rfl ?_
                                      refine al_ro' (ro_pickT (up_m rfl (u4 rfl hb_68)) up_h) ⟨_, rfl, (u4 rfl (u8 rfl up_h))⟩ rfl ?_
                                      refine al_ro' (ro_pickF (up_m rfl (u4 rfl (u8 rfl up_h))) up_h) trivial rfl ?_
                                      refine al_ro' (ro_move up_h) trivial rfl ?_
                                      refine al_case up_h (fun hb_69 hq_69 => ?_) (fun hb_69 hq_69 => ?_)
                                      ·(first | replace hq_69 := bnt hq_69 | replace hq_69 := bnf hq_69 | replace hq_69 := bt hq_69 | replace hq_69 := bf hq_69 | replace hq_69 := bt' hq_69 | replace hq_69 := bf' hq_69 | skip)
                                       first
                                       |(cases hq_69; done) | (exfalso; omega)
                                       |(
                                         refine al_skip' ⟨_, rfl, .inl hb_69⟩ rfl ?_
                                         refine al_skip' ⟨_, rfl, .inl (up_m rfl hb_69)⟩ rfl ?_
                                         refine al_skip' ⟨_, rfl, .inl (u2 rfl hb_69)⟩ rfl ?_
                                         refine al_skip' ⟨_, rfl, .inr up_h⟩ rfl ?_
                                         refine al_skip' ⟨_, rfl, .inr (up_m rfl up_h)⟩ rfl ?_
                                         refine al_skip' ⟨_, rfl, .inl (up_m rfl (u4 rfl hb_69))⟩ rfl ?_
                                         refine al_skip' ⟨_, rfl, .inl (u2 rfl (u4 rfl hb_69))⟩ rfl ?_
                                         refine al_skip' ⟨_, rfl, .inr up_h⟩ rfl ?_
                                         refine al_skip' ⟨_, rfl, .inr (up_m rfl up_h)⟩ rfl ?_
                                         refine al_skip' ⟨_, rfl, .inr (u2 rfl up_h)⟩ rfl ?_
                                         refine al_skip' ⟨_, rfl, .inr (up_m rfl (u2 rfl up_h))⟩ rfl ?_
                                         refine al_skip' ⟨_, rfl, .inr (u4 rfl up_h)⟩ rfl ?_
                                         refine al_skip' ⟨_, rfl, .inr (up_m rfl (u4 rfl up_h))⟩ rfl ?_
                                         refine al_skip' ⟨_, rfl, .inl (up_m rfl (u4 rfl (u8 rfl hb_69)))⟩ rfl ?_
                                         refine al_ro' (ro_pickT (u2 rfl (u4 rfl (u8 rfl hb_69))) ev_c) trivial rfl ?_
                                         refine al_end (fun e_70 he_70 => ?_)
                                         have s2_70 := ef 2 he_70 (up_m rfl (u4 rfl (u16 rfl (u16 rfl (u16 rfl (u16 rfl s2_34))))))
                                         have s3_70 := ef 3 he_70 (up_m rfl (u4 rfl (u16 rfl (u16 rfl (u16 rfl (u16 rfl s3_34))))))
                                         have s4_70 := ef 4 he_70 (up_m rfl (u4 rfl (u16 rfl (u16 rfl (u16 rfl (u16 rfl s4_34))))))
                                         have s7_70 := ef 7 he_70 (up_m rfl (u4 rfl (u16 rfl (u16 rfl (u16 rfl (u16 rfl s7_34))))))
                                         have s9_70 := ef 9 he_70 (up_m rfl (u4 rfl (u16 rfl (u16 rfl (u16 rfl (u16 rfl s9_34))))))
                                         have s163_70 := ef 163 he_70 up_h
                                         clear he_70
                                         refine then_n ⟨(s163_70).trans (by (first | rfl | (refine avb ?_; simp at *; done) | (refine avb ?_; simp at *; omega))), (s2_70).trans (s2_34).symm, (s3_70).trans (s3_34).symm, (s4_70).trans (s4_34).symm, (s7_70).trans (s7_34).symm, (s9_70).trans (s9_34).symm, rfl⟩)
                                      ·(first | replace hq_69 := bnt hq_69 | replace hq_69 := bnf hq_69 | replace hq_69 := bt hq_69 | replace hq_69 := bf hq_69 | replace hq_69 := bt' hq_69 | replace hq_69 := bf' hq_69 | skip)
                                       first
                                       |(cases hq_69; done) | (exfalso; omega)
                                       |(
                                         refine al_ro' (ro_move (u2 rfl (u4 rfl (u16 rfl (u16 rfl (u16 rfl s9_34)))))) ⟨_, rfl, hb_69⟩ rfl ?_
                                         refine al_ro' (ro_eql up_h ev_c) ⟨_, rfl, (up_m rfl hb_69)⟩ rfl ?_
                                         refine al_ro' (ro_move up_h) ⟨_, rfl, (u2 rfl hb_69)⟩ rfl ?_
                                         refine al_case up_h (fun hb_71 hq_71 => ?_) (fun hb_71 hq_71 => ?_)
                                         ·(first | replace hq_71 := bnt hq_71 | replace hq_71 := bnf hq_71 | replace hq_71 := bt hq_71 | replace hq_71 := bf hq_71 | replace hq_71 := bt' hq_71 | replace hq_71 := bf' hq_71 | skip)
                                          first
                                          |(cases hq_71; done) | (exfalso; omega)
                                          |(
                                            refine al_ro' (ro_move (up_m rfl (u8 rfl (u16 rfl (u16 rfl (u16 rfl s7_34)))))) ⟨_, rfl, hb_71⟩ rfl ?_
                                            refine al_ro' (ro_gtr up_h ev_c) ⟨_, rfl, (up_m rfl hb_71)⟩ rfl ?_
                                            refine al_ro' (ro_pickT (u2 rfl hb_71) up_h) ⟨_, rfl, (up_m rfl (u4 rfl hb_69))⟩ rfl ?_
                                            refine al_ro' (ro_move up_h) ⟨_, rfl, (u2 rfl (u4 rfl hb_69))⟩ rfl ?_
                                            refine al_case up_h (fun hb_72 hq_72 => ?_) (fun hb_72 hq_72 => ?_)
                                            ·(first | replace hq_72 := bnt hq_72 | replace hq_72 := bnf hq_72 | replace hq_72 := bt hq_72 | replace hq_72 := bf hq_72 | replace hq_72 := bt' hq_72 | replace hq_72 := bf' hq_72 | skip)
                                             first
                                             |(cases hq_72; done) | (exfalso; omega)
                                             |(
                                               refine al_ro' (ro_move (up_m rfl (u4 rfl (u8 rfl (u16 rfl (u16 rfl (u16 rfl s7_34))))))) ⟨_, rfl, hb_72⟩ rfl ?_
                                               first | (refine al_ro' (ro_mul' ev_c up_h ?_) ⟨_, rfl, (up_m rfl hb_72)⟩ rfl ?_; · (unfold In64; omega)) | refine al_ro' (ro_mul ev_c up_h) ⟨_, rfl, (up_m rfl hb_72)⟩ rfl ?_
                                               refine al_ro' (ro_move (up_m rfl (u2 rfl (u4 rfl (u8 rfl (u16 rfl (u16 rfl (u16 rfl s7_34)))))))) ⟨_, rfl, (u2 rfl hb_72)⟩ rfl ?_
                                               first | (refine al_ro' (ro_mul' (up_m rfl up_h) up_h ?_) ⟨_, rfl, (up_m rfl (u2 rfl hb_72))⟩ rfl ?_; · (unfold In64; omega)) | refine al_ro' (ro_mul (up_m rfl up_h) up_h) ⟨_, rfl, (up_m rfl (u2 rfl hb_72))⟩ rfl ?_
                                               refine al_ro' (ro_move (up_m rfl (u16 rfl (u16 rfl (u16 rfl (u16 rfl s13_34)))))) ⟨_, rfl, (u4 rfl hb_72)⟩ rfl ?_
                                               refine al_ro' (ro_gtr (up_m rfl up_h) up_h) ⟨_, rfl, (up_m rfl (u4 rfl hb_72))⟩ rfl ?_
                                               refine al_ro' (ro_pickT (u2 rfl (u4 rfl hb_72)) up_h) ⟨_, rfl, (up_m rfl (u4 rfl (u8 rfl hb_69)))⟩ rfl ?_
                                               refine al_ro' (ro_pickF (u2 rfl (u4 rfl (u8 rfl hb_69))) up_h) trivial rfl ?_
                                               refine al_end (fun e_73 he_73 => ?_)
                                               have s2_73 := ef 2 he_73 (up_m rfl (u4 rfl (u16 rfl (u16 rfl (u16 rfl (u16 rfl s2_34))))))
                                               have s3_73 := ef 3 he_73 (up_m rfl (u4 rfl (u16 rfl (u16 rfl (u16 rfl (u16 rfl s3_34))))))
                                               have s4_73 := ef 4 he_73 (up_m rfl (u4 rfl (u16 rfl (u16 rfl (u16 rfl (u16 rfl s4_34))))))
                                               have s7_73 := ef 7 he_73 (up_m rfl (u4 rfl (u16 rfl (u16 rfl (u16 rfl (u16 rfl s7_34))))))
                                               have s9_73 := ef 9 he_73 (up_m rfl (u4 rfl (u16 rfl (u16 rfl (u16 rfl (u16 rfl s9_34))))))
                                               have s163_73 := ef 163 he_73 up_h
                                               clear he_73
                                               refine then_n ⟨(s163_73).trans (by (first | rfl | (refine avb ?_; simp at *; done) | (refine avb ?_; simp at *; omega))), (s2_73).trans (s2_34).symm, (s3_73).trans (s3_34).symm, (s4_73).trans (s4_34).symm, (s7_73).trans (s7_34).symm, (s9_73).trans (s9_34).symm, rfl⟩)
                                            ·(first | replace hq_72 := bnt hq_72 | replace hq_72 := bnf hq_72 | replace hq_72 := bt hq_72 | replace hq_72 := bf hq_72 | replace hq_72 := bt' hq_72 | replace hq_72 := bf' hq_72 | skip)
                                             first
                                             |(cases hq_72; done) | (exfalso; omega)
                                             |(
                                               refine al_skip' ⟨_, rfl, .inl hb_72⟩ rfl ?_
                                               refine al_skip' ⟨_, rfl, .inl (up_m rfl hb_72)⟩ rfl ?_
                                               refine al_skip' ⟨_, rfl, .inl (u2 rfl hb_72)⟩ rfl ?_
                                               refine al_skip' ⟨_, rfl, .inl (up_m rfl (u2 rfl hb_72))⟩ rfl ?_
                                               refine al_skip' ⟨_, rfl, .inl (u4 rfl hb_72)⟩ rfl ?_
                                               refine al_skip' ⟨_, rfl, .inl (up_m rfl (u4 rfl hb_72))⟩ rfl ?_
                                               refine al_ro' (ro_pickF (u2 rfl (u4 rfl hb_72)) ev_c) ⟨_, rfl, (up_m rfl (u4 rfl (u8 rfl hb_69)))⟩ rfl ?_
                                               refine al_ro' (ro_pickF (u2 rfl (u4 rfl (u8 rfl hb_69))) up_h) trivial rfl ?_
                                               refine al_end (fun e_74 he_74 => ?_)
                                               have s2_74 := ef 2 he_74 (up_m rfl (u4 rfl (u16 rfl (u16 rfl (u16 rfl (u16 rfl s2_34))))))
                                               have s3_74 := ef 3 he_74 (up_m rfl (u4 rfl (u16 rfl (u16 rfl (u16 rfl (u16 rfl s3_34))))))
                                               have s4_74 := ef 4 he_74 (up_m rfl (u4 rfl (u16 rfl (u16 rfl (u16 rfl (u16 rfl s4_34))))))
                                               have s7_74 := ef 7 he_74 (up_m rfl (u4 rfl (u16 rfl (u16 rfl (u16 rfl (u16 rfl s7_34))))))
                                               have s9_74 := ef 9 he_74 (up_m rfl (u4 rfl (u16 rfl (u16 rfl (u16 rfl (u16 rfl s9_34))))))
                                               have s163_74 := ef 163 he_74 up_h
                                               clear he_74
                                               refine then_n ⟨(s163_74).trans (by (first | rfl | (refine avb ?_; simp at *; done) | (refine avb ?_; simp at *; omega))), (s2_74).trans (s2_34).symm, (s3_74).trans (s3_34).symm, (s4_74).trans (s4_34).symm, (s7_74).trans (s7_34).symm, (s9_74).trans (s9_34).symm, rfl⟩))
                                         ·(first | replace hq_71 := bnt hq_71 | replace hq_71 := bnf hq_71 | replace hq_71 := bt hq_71 | replace hq_71 := bf hq_71 | replace hq_71 := bt' hq_71 | replace hq_71 := bf' hq_71 | skip)
                                          first
                                          |(cases hq_71; done) | (exfalso; omega)
                                          |(
                                            refine al_skip' ⟨_, rfl, .inl hb_71⟩ rfl ?_
                                            refine al_skip' ⟨_, rfl, .inl (up_m rfl hb_71)⟩ rfl ?_
                                            refine al_ro' (ro_pickF (u2 rfl hb_71) ev_c) ⟨_, rfl, (up_m rfl (u4 rfl hb_69))⟩ rfl ?_
                                            refine al_ro' (ro_move up_h) ⟨_, rfl, (u2 rfl (u4 rfl hb_69))⟩ rfl ?_
                                            refine al_skip' ⟨_, rfl, .inl up_h⟩ rfl ?_
                                            refine al_skip' ⟨_, rfl, .inl (up_m rfl up_h)⟩ rfl ?_
                                            refine al_skip' ⟨_, rfl, .inl (u2 rfl up_h)⟩ rfl ?_
                                            refine al_skip' ⟨_, rfl, .inl (up_m rfl (u2 rfl up_h))⟩ rfl ?_
                                            refine al_skip' ⟨_, rfl, .inl (u4 rfl up_h)⟩ rfl ?_
                                            refine al_skip' ⟨_, rfl, .inl (up_m rfl (u4 rfl up_h))⟩ rfl ?_
                                            refine al_ro' (ro_pickF (u2 rfl (u4 rfl up_h)) ev_c) ⟨_, rfl, (up_m rfl (u4 rfl (u8 rfl hb_69)))⟩ rfl ?_
                                            refine al_ro' (ro_pickF (u2 rfl (u4 rfl (u8 rfl hb_69))) up_h) trivial rfl ?_
                                            refine al_end (fun e_75 he_75 => ?_)
                                            have s2_75 := ef 2 he_75 (up_m rfl (u4 rfl (u16 rfl (u16 rfl (u16 rfl (u16 rfl s2_34))))))
                                            have s3_75 := ef 3 he_75 (up_m rfl (u4 rfl (u16 rfl (u16 rfl (u16 rfl (u16 rfl s3_34))))))
                                            have s4_75 := ef 4 he_75 (up_m rfl (u4 rfl (u16 rfl (u16 rfl (u16 rfl (u16 rfl s4_34))))))
                                            have s7_75 := ef 7 he_75 (up_m rfl (u4 rfl (u16 rfl (u16 rfl (u16 rfl (u16 rfl s7_34))))))
                                            have s9_75 := ef 9 he_75 (up_m rfl (u4 rfl (u16 rfl (u16 rfl (u16 rfl (u16 rfl s9_34))))))
                                            have s163_75 := ef 163 he_75 up_h
                                            clear he_75
                                            refine then_n ⟨(s163_75).trans (by (first | rfl | (refine avb ?_; simp at *; done) | (refine avb ?_; simp at *; omega))), (s2_75).trans (s2_34).symm, (s3_75).trans (s3_34).symm, (s4_75).trans (s4_34).symm, (s7_75).trans (s7_34).symm, (s9_75).trans (s9_34).symm, rfl⟩)))
                                   ·(first | replace hq_68 := bnt hq_68 | replace hq_68 := bnf hq_68 | replace hq_68 := bt hq_68 | replace hq_68 := bf hq_68 | replace hq_68 := bt' hq_68 | replace hq_68 := bf' hq_68 | skip)
                                    first
                                    |(cases hq_68; done) | (exfalso; omega)
                                    |(
                                      refine al_skip' ⟨_, rfl, .inl hb_68⟩ rfl ?_
                                      refine al_skip' ⟨_, rfl, .inl (up_m rfl hb_68)⟩ rfl ?_
                                      refine al_skip' ⟨_, rfl, .inl (u2 rfl hb_68)⟩ rfl ?_
                                      refine al_skip' ⟨_, rfl, .inl (up_m rfl (u2 rfl hb_68))⟩ rfl ?_
                                      refine al_skip' ⟨_, rfl, .inl (u4 rfl hb_68)⟩ rfl ?_
                                      refine al_ro' (ro_pickF (up_m rfl (u4 rfl hb_68)) ev_c) ⟨_, rfl, (u4 rfl (u8 rfl up_h))⟩ rfl ?_
                                      refine al_ro' (ro_pickF (up_m rfl (u4 rfl (u8 rfl up_h))) up_h) trivial rfl ?_
                                      refine al_ro' (ro_move up_h) trivial rfl ?_
                                      refine al_ro' (ro_move (u2 rfl (u4 rfl (u16 rfl (u16 rfl (u16 rfl s9_34)))))) ⟨_, rfl, up_h⟩ rfl ?_
                                      refine al_ro' (ro_eql up_h ev_c) ⟨_, rfl, (up_m rfl up_h)⟩ rfl ?_
                                      refine al_ro' (ro_move up_h) ⟨_, rfl, (u2 rfl up_h)⟩ rfl ?_
                                      refine al_case up_h (fun hb_76 hq_76 => ?_) (fun hb_76 hq_76 => ?_)
                                      ·(first | replace hq_76 := bnt hq_76 | replace hq_76 := bnf hq_76 | replace hq_76 := bt hq_76 | replace hq_76 := bf hq_76 | replace hq_76 := bt' hq_76 | replace hq_76 := bf' hq_76 | skip)
                                       first
                                       |(cases hq_76; done) | (exfalso; omega)
                                       |(
                                         refine al_ro' (ro_move (up_m rfl (u8 rfl (u16 rfl (u16 rfl (u16 rfl s7_34)))))) ⟨_, rfl, hb_76⟩ rfl ?_
                                         refine al_ro' (ro_gtr up_h ev_c) ⟨_, rfl, (up_m rfl hb_76)⟩ rfl ?_
                                         refine al_ro' (ro_pickT (u2 rfl hb_76) up_h) ⟨_, rfl, (up_m rfl (u4 rfl up_h))⟩ rfl ?_
                                         refine al_ro' (ro_move up_h) ⟨_, rfl, (u2 rfl (u4 rfl up_h))⟩ rfl ?_
                                         refine al_case up_h (fun hb_77 hq_77 => ?_) (fun hb_77 hq_77 => ?_)
                                         ·(first | replace hq_77 := bnt hq_77 | replace hq_77 := bnf hq_77 | replace hq_77 := bt hq_77 | replace hq_77 := bf hq_77 | replace hq_77 := bt' hq_77 | replace hq_77 := bf' hq_77 | skip)
                                          first
                                          |(cases hq_77; done) | (exfalso; omega)
                                          |(
                                            refine al_ro' (ro_move (up_m rfl (u4 rfl (u8 rfl (u16 rfl (u16 rfl (u16 rfl s7_34))))))) ⟨_, rfl, hb_77⟩ rfl ?_
                                            first | (refine al_ro' (ro_mul' ev_c up_h ?_) ⟨_, rfl, (up_m rfl hb_77)⟩ rfl ?_; · (unfold In64; omega)) | refine al_ro' (ro_mul ev_c up_h) ⟨_, rfl, (up_m rfl hb_77)⟩ rfl ?_
                                            refine al_ro' (ro_move (up_m rfl (u2 rfl (u4 rfl (u8 rfl (u16 rfl (u16 rfl (u16 rfl s7_34)))))))) ⟨_, rfl, (u2 rfl hb_77)⟩ rfl ?_
                                            first | (refine al_ro' (ro_mul' (up_m rfl up_h) up_h ?_) ⟨_, rfl, (up_m rfl (u2 rfl hb_77))⟩ rfl ?_; · (unfold In64; omega)) | refine al_ro' (ro_mul (up_m rfl up_h) up_h) ⟨_, rfl, (up_m rfl (u2 rfl hb_77))⟩ rfl ?_
                                            refine al_ro' (ro_move (up_m rfl (u16 rfl (u16 rfl (u16 rfl (u16 rfl s13_34)))))) ⟨_, rfl, (u4 rfl hb_77)⟩ rfl ?_
                                            refine al_ro' (ro_gtr (up_m rfl up_h) up_h) ⟨_, rfl, (up_m rfl (u4 rfl hb_77))⟩ rfl ?_
                                            refine al_ro' (ro_pickT (u2 rfl (u4 rfl hb_77)) up_h) ⟨_, rfl, (up_m rfl (u4 rfl (u8 rfl up_h)))⟩ rfl ?_
                                            refine al_ro' (ro_pickF (u2 rfl (u4 rfl (u8 rfl up_h))) up_h) trivial rfl ?_
                                            refine al_end (fun e_78 he_78 => ?_)
                                            have s2_78 := ef 2 he_78 (up_m rfl (u4 rfl (u16 rfl (u16 rfl (u16 rfl (u16 rfl s2_34))))))
                                            have s3_78 := ef 3 he_78 (up_m rfl (u4 rfl (u16 rfl (u16 rfl (u16 rfl (u16 rfl s3_34))))))
                                            have s4_78 := ef 4 he_78 (up_m rfl (u4 rfl (u16 rfl (u16 rfl (u16 rfl (u16 rfl s4_34))))))
                                            have s7_78 := ef 7 he_78 (up_m rfl (u4 rfl (u16 rfl (u16 rfl (u16 rfl (u16 rfl s7_34))))))
                                            have s9_78 := ef 9 he_78 (up_m rfl (u4 rfl (u16 rfl (u16 rfl (u16 rfl (u16 rfl s9_34))))))
                                            have s163_78 := ef 163 he_78 up_h
                                            clear he_78
                                            refine then_n ⟨(s163_78).trans (by (first | rfl | (refine avb ?_; simp at *; done) | (refine avb ?_; simp at *; omega))), (s2_78).trans (s2_34).symm, (s3_78).trans (s3_34).symm, (s4_78).trans (s4_34).symm, (s7_78).trans (s7_34).symm, (s9_78).trans (s9_34).symm, rfl⟩)
                                         ·(first | replace hq_77 := bnt hq_77 | replace hq_77 := bnf hq_77 | replace hq_77 := bt hq_77 | replace hq_77 := bf hq_77 | replace hq_77 := bt' hq_77 | replace hq_77 := bf' hq_77 | skip)
                                          first
                                          |(cases hq_77; done) | (exfalso; omega)
                                          |(
                                            refine al_skip' ⟨_, rfl, .inl hb_77⟩ rfl ?_
                                            refine al_skip' ⟨_, rfl, .inl (up_m rfl hb_77)⟩ rfl ?_
                                            refine al_skip' ⟨_, rfl, .inl (u2 rfl hb_77)⟩ rfl ?_
                                            refine al_skip' ⟨_, rfl, .inl (up_m rfl (u2 rfl hb_77))⟩ rfl ?_
                                            refine al_skip' ⟨_, rfl, .inl (u4 rfl hb_77)⟩ rfl ?_
                                            refine al_skip' ⟨_, rfl, .inl (up_m rfl (u4 rfl hb_77))⟩ rfl ?_
                                            refine al_ro' (ro_pickF (u2 rfl (u4 rfl hb_77)) ev_c) ⟨_, rfl, (up_m rfl (u4 rfl (u8 rfl up_h)))⟩ rfl ?_
                                            refine al_ro' (ro_pickF (u2 rfl (u4 rfl (u8 rfl up_h))) up_h) trivial rfl ?_
                                            refine al_end (fun e_79 he_79 => ?_)
                                            have s2_79 := ef 2 he_79 (up_m rfl (u4 rfl (u16 rfl (u16 rfl (u16 rfl (u16 rfl s2_34))))))
                                            have s3_79 := ef 3 he_79 (up_m rfl (u4 rfl (u16 rfl (u16 rfl (u16 rfl (u16 rfl s3_34))))))
                                            have s4_79 := ef 4 he_79 (up_m rfl (u4 rfl (u16 rfl (u16 rfl (u16 rfl (u16 rfl s4_34))))))
                                            have s7_79 := ef 7 he_79 (up_m rfl (u4 rfl (u16 rfl (u16 rfl (u16 rfl (u16 rfl s7_34))))))
                                            have s9_79 := ef 9 he_79 (up_m rfl (u4 rfl (u16 rfl (u16 rfl (u16 rfl (u16 rfl s9_34))))))
                                            have s163_79 := ef 163 he_79 up_h
                                            clear he_79
                                            refine then_n ⟨(s163_79).trans (by (first | rfl | (refine avb ?_; simp at *; done) | (refine avb ?_; simp at *; omega))), (s2_79).trans (s2_34).symm, (s3_79).trans (s3_34).symm, (s4_79).trans (s4_34).symm, (s7_79).trans (s7_34).symm, (s9_79).trans (s9_34).symm, rfl⟩))
                                      ·(first | replace hq_76 := bnt hq_76 | replace hq_76 := bnf hq_76 | replace hq_76 := bt hq_76 | replace hq_76 := bf hq_76 | replace hq_76 := bt' hq_76 | replace hq_76 := bf' hq_76 | skip)
                                       first
                                       |(cases hq_76; done) | (exfalso; omega)
                                       |(
                                         refine al_skip' ⟨_, rfl, .inl hb_76⟩ rfl ?_
                                         refine al_skip' ⟨_, rfl, .inl (up_m rfl hb_76)⟩ rfl ?_
                                         refine al_ro' (ro_pickF (u2 rfl hb_76) ev_c) ⟨_, rfl, (up_m rfl (u4 rfl up_h))⟩ rfl ?_
                                         refine al_ro' (ro_move up_h) ⟨_, rfl, (u2 rfl (u4 rfl up_h))⟩ rfl ?_
                                         refine al_skip' ⟨_, rfl, .inl up_h⟩ rfl ?_
                                         refine al_skip' ⟨_, rfl, .inl (up_m rfl up_h)⟩ rfl ?_
                                         refine al_skip' ⟨_, rfl, .inl (u2 rfl up_h)⟩ rfl ?_
                                         refine al_skip' ⟨_, rfl, .inl (up_m rfl (u2 rfl up_h))⟩ rfl ?_
                                         refine al_skip' ⟨_, rfl, .inl (u4 rfl up_h)⟩ rfl ?_
                                         refine al_skip' ⟨_, rfl, .inl (up_m rfl (u4 rfl up_h))⟩ rfl ?_
                                         refine al_ro' (ro_pickF (u2 rfl (u4 rfl up_h)) ev_c) ⟨_, rfl, (up_m rfl (u4 rfl (u8 rfl up_h)))⟩ rfl ?_
                                         refine al_ro' (ro_pickF (u2 rfl (u4 rfl (u8 rfl up_h))) up_h) trivial rfl ?_
                                         refine al_end (fun e_80 he_80 => ?_)
                                         have s2_80 := ef 2 he_80 (up_m rfl (u4 rfl (u16 rfl (u16 rfl (u16 rfl (u16 rfl s2_34))))))
                                         have s3_80 := ef 3 he_80 (up_m rfl (u4 rfl (u16 rfl (u16 rfl (u16 rfl (u16 rfl s3_34))))))
                                         have s4_80 := ef 4 he_80 (up_m rfl (u4 rfl (u16 rfl (u16 rfl (u16 rfl (u16 rfl s4_34))))))
                                         have s7_80 := ef 7 he_80 (up_m rfl (u4 rfl (u16 rfl (u16 rfl (u16 rfl (u16 rfl s7_34))))))
                                         have s9_80 := ef 9 he_80 (up_m rfl (u4 rfl (u16 rfl (u16 rfl (u16 rfl (u16 rfl s9_34))))))
                                         have s163_80 := ef 163 he_80 up_h
                                         clear he_80
                                         refine then_n ⟨(s163_80).trans (by (first | rfl | (refine avb ?_; simp at *; done) | (refine avb ?_; simp at *; omega))), (s2_80).trans (s2_34).symm, (s3_80).trans (s3_34).symm, (s4_80).trans (s4_34).symm, (s7_80).trans (s7_34).symm, (s9_80).trans (s9_34).symm, rfl⟩)))
                                ·(first | replace hq_67 := bnt hq_67 | replace hq_67 := bnf hq_67 | replace hq_67 := bt hq_67 | replace hq_67 := bf hq_67 | replace hq_67 := bt' hq_67 | replace hq_67 := bf' hq_67 | skip)
                                 first
                                 |(cases hq_67; done) | (exfalso; omega)
                                 |(
                                   refine al_skip' ⟨_, rfl, .inl hb_67⟩ rfl ?_
                                   refine al_skip' ⟨_, rfl, .inl (up_m rfl hb_67)⟩ rfl ?_
                                   refine al_ro' (ro_pickF (u2 rfl hb_67) ev_c) ⟨_, rfl, (up_m rfl (u4 rfl up_h))⟩ rfl ?_
                                   refine al_ro' (ro_move up_h) ⟨_, rfl, (u2 rfl (u4 rfl up_h))⟩ rfl ?_
                                   refine al_skip' ⟨_, rfl, .inl up_h⟩ rfl ?_
                                   refine al_skip' ⟨_, rfl, .inl (up_m rfl up_h)⟩ rfl ?_
                                   refine al_skip' ⟨_, rfl, .inl (u2 rfl up_h)⟩ rfl ?_
                                   refine al_skip' ⟨_, rfl, .inl (up_m rfl (u2 rfl up_h))⟩ rfl ?_
                                   refine al_skip' ⟨_, rfl, .inl (u4 rfl up_h)⟩ rfl ?_
                                   refine al_ro' (ro_pickF (up_m rfl (u4 rfl up_h)) ev_c) ⟨_, rfl, (u4 rfl (u8 rfl up_h))⟩ rfl ?_
                                   refine al_ro' (ro_pickF (up_m rfl (u4 rfl (u8 rfl up_h))) up_h) trivial rfl ?_
                                   refine al_ro' (ro_move up_h) trivial rfl ?_
                                   refine al_ro' (ro_move (u2 rfl (u4 rfl (u16 rfl (u16 rfl (u16 rfl s9_34)))))) ⟨_, rfl, up_h⟩ rfl ?_
                                   refine al_ro' (ro_eql up_h ev_c) ⟨_, rfl, (up_m rfl up_h)⟩ rfl ?_
                                   refine al_ro' (ro_move up_h) ⟨_, rfl, (u2 rfl up_h)⟩ rfl ?_
                                   refine al_case up_h (fun hb_81 hq_81 => ?_) (fun hb_81 hq_81 => ?_)
                                   ·(first | replace hq_81 := bnt hq_81 | replace hq_81 := bnf hq_81 | replace hq_81 := bt hq_81 | replace hq_81 := bf hq_81 | replace hq_81 := bt' hq_81 | replace hq_81 := bf' hq_81 | skip)
                                    first
                                    |(cases hq_81; done) | (exfalso; omega)
                                    |(
                                      refine al_ro' (ro_move (up_m rfl (u8 rfl (u16 rfl (u16 rfl (u16 rfl s7_34)))))) ⟨_, rfl, hb_81⟩ rfl ?_
                                      refine al_ro' (ro_gtr up_h ev_c) ⟨_, rfl, (up_m rfl hb_81)⟩ rfl ?_
                                      refine al_ro' (ro_pickT (u2 rfl hb_81) up_h) ⟨_, rfl, (up_m rfl (u4 rfl up_h))⟩ rfl ?_
                                      refine al_ro' (ro_move up_h) ⟨_, rfl, (u2 rfl (u4 rfl up_h))⟩ rfl ?_
                                      refine al_case up_h (fun hb_82 hq_82 => ?_) (fun hb_82 hq_82 => ?_)
                                      ·(first | replace hq_82 := bnt hq_82 | replace hq_82 := bnf hq_82 | replace hq_82 := bt hq_82 | replace hq_82 := bf hq_82 | replace hq_82 := bt' hq_82 | replace hq_82 := bf' hq_82 | skip)
                                       first
                                       |(cases hq_82; done) | (exfalso; omega)
                                       |(
                                         refine al_ro' (ro_move (up_m rfl (u4 rfl (u8 rfl (u16 rfl (u16 rfl (u16 rfl s7_34))))))) ⟨_, rfl, hb_82⟩ rfl ?_
                                         first | (refine al_ro' (ro_mul' ev_c up_h ?_) ⟨_, rfl, (up_m rfl hb_82)⟩ rfl ?_; · (unfold In64; omega)) | refine al_ro' (ro_mul ev_c up_h) ⟨_, rfl, (up_m rfl hb_82)⟩ rfl ?_
                                         refine al_ro' (ro_move (up_m rfl (u2 rfl (u4 rfl (u8 rfl (u16 rfl (u16 rfl (u16 rfl s7_34)))))))) ⟨_, rfl, (u2 rfl hb_82)⟩ rfl ?_
                                         first | (refine al_ro' (ro_mul' (up_m rfl up_h) up_h ?_) ⟨_, rfl, (up_m rfl (u2 rfl hb_82))⟩ rfl ?_; · (unfold In64; omega)) | refine al_ro' (ro_mul (up_m rfl up_h) up_h) ⟨_, rfl, (up_m rfl (u2 rfl hb_82))⟩ rfl ?_
                                         refine al_ro' (ro_move (up_m rfl (u16 rfl (u16 rfl (u16 rfl (u16 rfl s13_34)))))) ⟨_, rfl, (u4 rfl hb_82)⟩ rfl ?_
                                         refine al_ro' (ro_gtr (up_m rfl up_h) up_h) ⟨_, rfl, (up_m rfl (u4 rfl hb_82))⟩ rfl ?_
                                         refine al_ro' (ro_pickT (u2 rfl (u4 rfl hb_82)) up_h) ⟨_, rfl, (up_m rfl (u4 rfl (u8 rfl up_h)))⟩ rfl ?_
                                         refine al_ro' (ro_pickF (u2 rfl (u4 rfl (u8 rfl up_h))) up_h) trivial rfl ?_
                                         refine al_end (fun e_83 he_83 => ?_)
                                         have s2_83 := ef 2 he_83 (up_m rfl (u4 rfl (u16 rfl (u16 rfl (u16 rfl (u16 rfl s2_34))))))
                                         have s3_83 := ef 3 he_83 (up_m rfl (u4 rfl (u16 rfl (u16 rfl (u16 rfl (u16 rfl s3_34))))))
                                         have s4_83 := ef 4 he_83 (up_m rfl (u4 rfl (u16 rfl (u16 rfl (u16 rfl (u16 rfl s4_34))))))
                                         have s7_83 := ef 7 he_83 (up_m rfl (u4 rfl (u16 rfl (u16 rfl (u16 rfl (u16 rfl s7_34))))))
                                         have s9_83 := ef 9 he_83 (up_m rfl (u4 rfl (u16 rfl (u16 rfl (u16 rfl (u16 rfl s9_34))))))
                                         have s163_83 := ef 163 he_83 up_h
                                         clear he_83
                                         refine then_n ⟨(s163_83).trans (by (first | rfl | (refine avb ?_; simp at *; done) | (refine avb ?_; simp at *; omega))), (s2_83).trans (s2_34).symm, (s3_83).trans (s3_34).symm, (s4_83).trans (s4_34).symm, (s7_83).trans (s7_34).symm, (s9_83).trans (s9_34).symm, rfl⟩)
                                      ·(first | replace hq_82 := bnt hq_82 | replace hq_82 := bnf hq_82 | replace hq_82 := bt hq_82 | replace hq_82 := bf hq_82 | replace hq_82 := bt' hq_82 | replace hq_82 := bf' hq_82 | skip)
                                       first
                                       |(cases hq_82; done) | (exfalso; omega)
                                       |(
                                         refine al_skip' ⟨_, rfl, .inl hb_82⟩ rfl ?_
                                         refine al_skip' ⟨_, rfl, .inl (up_m rfl hb_82)⟩ rfl ?_
                                         refine al_skip' ⟨_, rfl, .inl (u2 rfl hb_82)⟩ rfl ?_
                                         refine al_skip' ⟨_, rfl, .inl (up_m rfl (u2 rfl hb_82))⟩ rfl ?_
                                         refine al_skip' ⟨_, rfl, .inl (u4 rfl hb_82)⟩ rfl ?_
                                         refine al_skip' ⟨_, rfl, .inl (up_m rfl (u4 rfl hb_82))⟩ rfl ?_
                                         refine al_ro' (ro_pickF (u2 rfl (u4 rfl hb_82)) ev_c) ⟨_, rfl, (up_m rfl (u4 rfl (u8 rfl up_h)))⟩ rfl ?_
                                         refine al_ro' (ro_pickF (u2 rfl (u4 rfl (u8 rfl up_h))) up_h) trivial rfl ?_
                                         refine al_end (fun e_84 he_84 => ?_)
                                         have s2_84 := ef 2 he_84 (up_m rfl (u4 rfl (u16 rfl (u16 rfl (u16 rfl (u16 rfl s2_34))))))
                                         have s3_84 := ef 3 he_84 (up_m rfl (u4 rfl (u16 rfl (u16 rfl (u16 rfl (u16 rfl s3_34))))))
                                         have s4_84 := ef 4 he_84 (up_m rfl (u4 rfl (u16 rfl (u16 rfl (u16 rfl (u16 rfl s4_34))))))
                                         have s7_84 := ef 7 he_84 (up_m rfl (u4 rfl (u16 rfl (u16 rfl (u16 rfl (u16 rfl s7_34))))))
                                         have s9_84 := ef 9 he_84 (up_m rfl (u4 rfl (u16 rfl (u16 rfl (u16 rfl (u16 rfl s9_34))))))
                                         have s163_84 := ef 163 he_84 up_h
                                         clear he_84
                                         refine then_n ⟨(s163_84).trans (by (first | rfl | (refine avb ?_; simp at *; done) | (refine avb ?_; simp at *; omega))), (s2_84).trans (s2_34).symm, (s3_84).trans (s3_34).symm, (s4_84).trans (s4_34).symm, (s7_84).trans (s7_34).symm, (s9_84).trans (s9_34).symm, rfl⟩))
                                   ·(first | replace hq_81 := bnt hq_81 | replace hq_81 := bnf hq_81 | replace hq_81 := bt hq_81 | replace hq_81 := bf hq_81 | replace hq_81 := bt' hq_81 | replace hq_81 := bf' hq_81 | skip)
                                    first
                                    |(cases hq_81; done) | (exfalso; omega)
                                    |(
                                      refine al_skip' ⟨_, rfl, .inl hb_81⟩ rfl ?_
                                      refine al_skip' ⟨_, rfl, .inl (up_m rfl hb_81)⟩ rfl ?_
                                      refine al_ro' (ro_pickF (u2 rfl hb_81) ev_c) ⟨_, rfl, (up_m rfl (u4 rfl up_h))⟩ rfl ?_
                                      refine al_ro' (ro_move up_h) ⟨_, rfl, (u2 rfl (u4 rfl up_h))⟩ rfl ?_
                                      refine al_skip' ⟨_, rfl, .inl up_h⟩ rfl ?_
                                      refine al_skip' ⟨_, rfl, .inl (up_m rfl up_h)⟩ rfl ?_
                                      refine al_skip' ⟨_, rfl, .inl (u2 rfl up_h)⟩ rfl ?_
                                      refine al_skip' ⟨_, rfl, .inl (up_m rfl (u2 rfl up_h))⟩ rfl ?_
                                      refine al_skip' ⟨_, rfl, .inl (u4 rfl up_h)⟩ rfl ?_
                                      refine al_skip' ⟨_, rfl, .inl (up_m rfl (u4 rfl up_h))⟩ rfl ?_
                                      refine al_ro' (ro_pickF (u2 rfl (u4 rfl up_h)) ev_c) ⟨_, rfl, (up_m rfl (u4 rfl (u8 rfl up_h)))⟩ rfl ?_
                                      refine al_ro' (ro_pickF (u2 rfl (u4 rfl (u8 rfl up_h))) up_h) trivial rfl ?_
                                      refine al_end (fun e_85 he_85 => ?_)
                                      have s2_85 := ef 2 he_85 (up_m rfl (u4 rfl (u16 rfl (u16 rfl (u16 rfl (u16 rfl s2_34))))))
                                      have s3_85 := ef 3 he_85 (up_m rfl (u4 rfl (u16 rfl (u16 rfl (u16 rfl (u16 rfl s3_34))))))
                                      have s4_85 := ef 4 he_85 (up_m rfl (u4 rfl (u16 rfl (u16 rfl (u16 rfl (u16 rfl s4_34))))))
                                      have s7_85 := ef 7 he_85 (up_m rfl (u4 rfl (u16 rfl (u16 rfl (u16 rfl (u16 rfl s7_34))))))
                                      have s9_85 := ef 9 he_85 (up_m rfl (u4 rfl (u16 rfl (u16 rfl (u16 rfl (u16 rfl s9_34))))))
                                      have s163_85 := ef 163 he_85 up_h
                                      clear he_85
                                      refine then_n ⟨(s163_85).trans (by (first | rfl | (refine avb ?_; simp at *; done) | (refine avb ?_; simp at *; omega))), (s2_85).trans (s2_34).symm, (s3_85).trans (s3_34).symm, (s4_85).trans (s4_34).symm, (s7_85).trans (s7_34).symm, (s9_85).trans (s9_34).symm, rfl⟩))))))
                    ·(first | replace hq_38 := bnt hq_38 | replace hq_38 := bnf hq_38 | replace hq_38 := bt hq_38 | replace hq_38 := bf hq_38 | replace hq_38 := bt' hq_38 | replace hq_38 := bf' hq_38 | skip)
                     first
                     |(cases hq_38; done) | (exfalso; omega)
                     |(
                       refine al_skip' ⟨_, rfl, .inl hb_38⟩ rfl ?_
                       refine al_skip' ⟨_, rfl, .inl (up_m rfl hb_38)⟩ rfl ?_
                       refine al_skip' ⟨_, rfl, .inl (u2 rfl hb_38)⟩ rfl ?_
                       refine al_skip' ⟨_, rfl, .inr up_h⟩ rfl ?_
                       refine al_skip' ⟨_, rfl, .inr (up_m rfl up_h)⟩ rfl ?_
                       refine al_skip' ⟨_, rfl, .inr (u2 rfl up_h)⟩ rfl ?_
                       refine al_skip' ⟨_, rfl, .inr (up_m rfl (u2 rfl up_h))⟩ rfl ?_
                       refine al_skip' ⟨_, rfl, .inr (u4 rfl up_h)⟩ rfl ?_
                       refine al_skip' ⟨_, rfl, .inl (u8 rfl hb_38)⟩ rfl ?_
                       refine al_ro' (ro_pickF (up_m rfl (u8 rfl hb_38)) ev_c) ⟨_, rfl, (u4 rfl (u8 rfl hb_36))⟩ rfl ?_
                       refine al_ro' (ro_pickF (up_m rfl (u4 rfl (u8 rfl hb_36))) up_h) trivial rfl ?_
                       refine al_ro' (ro_move up_h) trivial rfl ?_
                       refine al_ro' (ro_move (up_m rfl (u2 rfl (u4 rfl (u16 rfl s9_34))))) ⟨_, rfl, up_h⟩ rfl ?_
                       refine al_ro' (ro_eql up_h ev_c) ⟨_, rfl, (up_m rfl up_h)⟩ rfl ?_
                       refine al_ro' (ro_move up_h) ⟨_, rfl, (u2 rfl up_h)⟩ rfl ?_
                       refine al_case up_h (fun hb_86 hq_86 => ?_) (fun hb_86 hq_86 => ?_)
                       ·(first | replace hq_86 := bnt hq_86 | replace hq_86 := bnf hq_86 | replace hq_86 := bt hq_86 | replace hq_86 := bf hq_86 | replace hq_86 := bt' hq_86 | replace hq_86 := bf' hq_86 | skip)
                        first
                        |(cases hq_86; done) | (exfalso; omega)
                        |(
                          refine al_ro' (ro_move (u2 rfl (u8 rfl (u16 rfl s7_34)))) ⟨_, rfl, hb_86⟩ rfl ?_
                          refine al_ro' (ro_leq up_h ev_c) ⟨_, rfl, (up_m rfl hb_86)⟩ rfl ?_
                          refine al_ro' (ro_move up_h) ⟨_, rfl, (u2 rfl hb_86)⟩ rfl ?_
                          refine al_case up_h (fun hb_87 hq_87 => ?_) (fun hb_87 hq_87 => ?_)
                          ·(first | replace hq_87 := bnt hq_87 | replace hq_87 := bnf hq_87 | replace hq_87 := bt hq_87 | replace hq_87 := bf hq_87 | replace hq_87 := bt' hq_87 | replace hq_87 := bf' hq_87 | skip)
                           first
                           |(cases hq_87; done) | (exfalso; omega)
                           |(
                             refine al_skip' ⟨_, rfl, .inl hb_87⟩ rfl ?_
                             refine al_skip' ⟨_, rfl, .inl (up_m rfl hb_87)⟩ rfl ?_
                             refine al_skip' ⟨_, rfl, .inl (u2 rfl hb_87)⟩ rfl ?_
                             refine al_skip' ⟨_, rfl, .inl (up_m rfl (u2 rfl hb_87))⟩ rfl ?_
                             refine al_skip' ⟨_, rfl, .inl (u4 rfl hb_87)⟩ rfl ?_
                             refine al_skip' ⟨_, rfl, .inl (up_m rfl (u4 rfl hb_87))⟩ rfl ?_
                             refine al_ro' (ro_pickT (u2 rfl (u4 rfl hb_87)) ev_c) ⟨_, rfl, (up_m rfl (u8 rfl hb_86))⟩ rfl ?_
                             refine al_ro' (ro_pickT (u2 rfl (u8 rfl hb_86)) up_h) ⟨_, rfl, (up_m rfl (u4 rfl (u8 rfl up_h)))⟩ rfl ?_
                             refine al_ro' (ro_pickF (u2 rfl (u4 rfl (u8 rfl up_h))) up_h) trivial rfl ?_
                             refine al_ro' (ro_move up_h) trivial rfl ?_
                             refine al_skip' ⟨_, rfl, .inl up_h⟩ rfl ?_
                             refine al_skip' ⟨_, rfl, .inl (up_m rfl up_h)⟩ rfl ?_
                             refine al_skip' ⟨_, rfl, .inl (u2 rfl up_h)⟩ rfl ?_
                             refine al_skip' ⟨_, rfl, .inr up_h⟩ rfl ?_
                             refine al_skip' ⟨_, rfl, .inr (up_m rfl up_h)⟩ rfl ?_
                             refine al_skip' ⟨_, rfl, .inl (up_m rfl (u4 rfl up_h))⟩ rfl ?_
                             refine al_skip' ⟨_, rfl, .inl (u2 rfl (u4 rfl up_h))⟩ rfl ?_
                             refine al_skip' ⟨_, rfl, .inr up_h⟩ rfl ?_
                             refine al_skip' ⟨_, rfl, .inr (up_m rfl up_h)⟩ rfl ?_
                             refine al_skip' ⟨_, rfl, .inr (u2 rfl up_h)⟩ rfl ?_
                             refine al_skip' ⟨_, rfl, .inr (up_m rfl (u2 rfl up_h))⟩ rfl ?_
                             refine al_skip' ⟨_, rfl, .inr (u4 rfl up_h)⟩ rfl ?_
                             refine al_skip' ⟨_, rfl, .inl (u4 rfl (u8 rfl up_h))⟩ rfl ?_
                             refine al_ro' (ro_pickT (up_m rfl (u4 rfl (u8 rfl up_h))) ev_c) trivial rfl ?_
                             refine al_ro' (ro_move up_h) trivial rfl ?_
                             refine al_skip' ⟨_, rfl, .inl up_h⟩ rfl ?_
                             refine al_skip' ⟨_, rfl, .inl (up_m rfl up_h)⟩ rfl ?_
                             refine al_skip' ⟨_, rfl, .inl (u2 rfl up_h)⟩ rfl ?_
                             refine al_skip' ⟨_, rfl, .inr up_h⟩ rfl ?_
                             refine al_skip' ⟨_, rfl, .inr (up_m rfl up_h)⟩ rfl ?_
                             refine al_skip' ⟨_, rfl, .inl (up_m rfl (u4 rfl up_h))⟩ rfl ?_
                             refine al_skip' ⟨_, rfl, .inl (u2 rfl (u4 rfl up_h))⟩ rfl ?_
                             refine al_skip' ⟨_, rfl, .inr up_h⟩ rfl ?_
                             refine al_skip' ⟨_, rfl, .inr (up_m rfl up_h)⟩ rfl ?_
                             refine al_skip' ⟨_, rfl, .inr (u2 rfl up_h)⟩ rfl ?_
                             refine al_skip' ⟨_, rfl, .inr (up_m rfl (u2 rfl up_h))⟩ rfl ?_
                             refine al_skip' ⟨_, rfl, .inr (u4 rfl up_h)⟩ rfl ?_
                             refine al_skip' ⟨_, rfl, .inr (up_m rfl (u4 rfl up_h))⟩ rfl ?_
                             refine al_skip' ⟨_, rfl, .inl (up_m rfl (u4 rfl (u8 rfl up_h)))⟩ rfl ?_
                             refine al_ro' (ro_pickT (u2 rfl (u4 rfl (u8 rfl up_h))) ev_c) trivial rfl ?_
                             refine al_end (fun e_88 he_88 => ?_)
                             have s2_88 := ef 2 he_88 (up_m rfl (u4 rfl (u16 rfl (u16 rfl (u16 rfl (u16 rfl s2_34))))))
                             have s3_88 := ef 3 he_88 (up_m rfl (u4 rfl (u16 rfl (u16 rfl (u16 rfl (u16 rfl s3_34))))))
                             have s4_88 := ef 4 he_88 (up_m rfl (u4 rfl (u16 rfl (u16 rfl (u16 rfl (u16 rfl s4_34))))))
                             have s7_88 := ef 7 he_88 (up_m rfl (u4 rfl (u16 rfl (u16 rfl (u16 rfl (u16 rfl s7_34))))))
                             have s9_88 := ef 9 he_88 (up_m rfl (u4 rfl (u16 rfl (u16 rfl (u16 rfl (u16 rfl s9_34))))))
                             have s163_88 := ef 163 he_88 up_h
                             clear he_88
                             refine then_n ⟨(s163_88).trans (by (first | rfl | (refine avb ?_; simp at *; done) | (refine avb ?_; simp at *; omega))), (s2_88).trans (s2_34).symm, (s3_88).trans (s3_34).symm, (s4_88).trans (s4_34).symm, (s7_88).trans (s7_34).symm, (s9_88).trans (s9_34).symm, rfl⟩)
                          ·(first | replace hq_87 := bnt hq_87 | replace hq_87 := bnf hq_87 | replace hq_87 := bt hq_87 | replace hq_87 := bf hq_87 | replace hq_87 := bt' hq_87 | replace hq_87 := bf' hq_87 | skip)
                           first
                           |(cases hq_87; done) | (exfalso; omega)
                           |(
                             refine al_ro' (ro_move (up_m rfl (u4 rfl (u8 rfl (u16 rfl s7_34))))) ⟨_, rfl, hb_87⟩ rfl ?_
                             first | (refine al_ro' (ro_mul' ev_c up_h ?_) ⟨_, rfl, (up_m rfl hb_87)⟩ rfl ?_; · (unfold In64; omega)) | refine al_ro' (ro_mul ev_c up_h) ⟨_, rfl, (up_m rfl hb_87)⟩ rfl ?_
                             refine al_ro' (ro_move (up_m rfl (u2 rfl (u4 rfl (u8 rfl (u16 rfl s7_34)))))) ⟨_, rfl, (u2 rfl hb_87)⟩ rfl ?_
                             first | (refine al_ro' (ro_mul' (up_m rfl up_h) up_h ?_) ⟨_, rfl, (up_m rfl (u2 rfl hb_87))⟩ rfl ?_; · (unfold In64; omega)) | refine al_ro' (ro_mul (up_m rfl up_h) up_h) ⟨_, rfl, (up_m rfl (u2 rfl hb_87))⟩ rfl ?_
                             refine al_ro' (ro_move (up_m rfl (u16 rfl (u16 rfl s13_34)))) ⟨_, rfl, (u4 rfl hb_87)⟩ rfl ?_
                             refine al_ro' (ro_lss (up_m rfl up_h) up_h) ⟨_, rfl, (up_m rfl (u4 rfl hb_87))⟩ rfl ?_
                             refine al_ro' (ro_pickF (u2 rfl (u4 rfl hb_87)) up_h) ⟨_, rfl, (up_m rfl (u8 rfl hb_86))⟩ rfl ?_
                             refine al_ro' (ro_pickT (u2 rfl (u8 rfl hb_86)) up_h) ⟨_, rfl, (up_m rfl (u4 rfl (u8 rfl up_h)))⟩ rfl ?_
                             refine al_ro' (ro_pickF (u2 rfl (u4 rfl (u8 rfl up_h))) up_h) trivial rfl ?_
                             refine al_ro' (ro_move up_h) trivial rfl ?_
                             refine al_case up_h (fun hb_89 hq_89 => ?_) (fun hb_89 hq_89 => ?_)
                             ·(first | replace hq_89 := bnt hq_89 | replace hq_89 := bnf hq_89 | replace hq_89 := bt hq_89 | replace hq_89 := bf hq_89 | replace hq_89 := bt' hq_89 | replace hq_89 := bf' hq_89 | skip)
                              first
                              |(cases hq_89; done) | (exfalso; omega)
                              |(
                                refine al_skip' ⟨_, rfl, .inl hb_89⟩ rfl ?_
                                refine al_skip' ⟨_, rfl, .inl (up_m rfl hb_89)⟩ rfl ?_
                                refine al_skip' ⟨_, rfl, .inl (u2 rfl hb_89)⟩ rfl ?_
                                refine al_skip' ⟨_, rfl, .inr up_h⟩ rfl ?_
                                refine al_skip' ⟨_, rfl, .inr (up_m rfl up_h)⟩ rfl ?_
                                refine al_skip' ⟨_, rfl, .inl (up_m rfl (u4 rfl hb_89))⟩ rfl ?_
                                refine al_skip' ⟨_, rfl, .inl (u2 rfl (u4 rfl hb_89))⟩ rfl ?_
                                refine al_skip' ⟨_, rfl, .inr up_h⟩ rfl ?_
                                refine al_skip' ⟨_, rfl, .inr (up_m rfl up_h)⟩ rfl ?_
                                refine al_skip' ⟨_, rfl, .inr (u2 rfl up_h)⟩ rfl ?_
                                refine al_skip' ⟨_, rfl, .inr (up_m rfl (u2 rfl up_h))⟩ rfl ?_
                                refine al_skip' ⟨_, rfl, .inr (u4 rfl up_h)⟩ rfl ?_
                                refine al_skip' ⟨_, rfl, .inl (u4 rfl (u8 rfl hb_89))⟩ rfl ?_
                                refine al_ro' (ro_pickT (up_m rfl (u4 rfl (u8 rfl hb_89))) ev_c) trivial rfl ?_
                                refine al_ro' (ro_move up_h) trivial rfl ?_
                                refine al_skip' ⟨_, rfl, .inl up_h⟩ rfl ?_
                                refine al_skip' ⟨_, rfl, .inl (up_m rfl up_h)⟩ rfl ?_
                                refine al_skip' ⟨_, rfl, .inl (u2 rfl up_h)⟩ rfl ?_
                                refine al_skip' ⟨_, rfl, .inr up_h⟩ rfl ?_
                                refine al_skip' ⟨_, rfl, .inr (up_m rfl up_h)⟩ rfl ?_
                                refine al_skip' ⟨_, rfl, .inl (up_m rfl (u4 rfl up_h))⟩ rfl ?_
                                refine al_skip' ⟨_, rfl, .inl (u2 rfl (u4 rfl up_h))⟩ rfl ?_
                                refine al_skip' ⟨_, rfl, .inr up_h⟩ rfl ?_
                                refine al_skip' ⟨_, rfl, .inr (up_m rfl up_h)⟩ rfl ?_
                                refine al_skip' ⟨_, rfl, .inr (u2 rfl up_h)⟩ rfl ?_
                                refine al_skip' ⟨_, rfl, .inr (up_m rfl (u2 rfl up_h))⟩ rfl ?_
                                refine al_skip' ⟨_, rfl, .inr (u4 rfl up_h)⟩ rfl ?_
                                refine al_skip' ⟨_, rfl, .inr (up_m rfl (u4 rfl up_h))⟩ rfl ?_
                                refine al_skip' ⟨_, rfl, .inl (up_m rfl (u4 rfl (u8 rfl up_h)))⟩ rfl ?_
                                refine al_ro' (ro_pickT (u2 rfl (u4 rfl (u8 rfl up_h))) ev_c) trivial rfl ?_
                                refine al_end (fun e_90 he_90 => ?_)
                                have s2_90 := ef 2 he_90 (up_m rfl (u4 rfl (u16 rfl (u16 rfl (u16 rfl (u16 rfl s2_34))))))
                                have s3_90 := ef 3 he_90 (up_m rfl (u4 rfl (u16 rfl (u16 rfl (u16 rfl (u16 rfl s3_34))))))
                                have s4_90 := ef 4 he_90 (up_m rfl (u4 rfl (u16 rfl (u16 rfl (u16 rfl (u16 rfl s4_34))))))
                                have s7_90 := ef 7 he_90 (up_m rfl (u4 rfl (u16 rfl (u16 rfl (u16 rfl (u16 rfl s7_34))))))
                                have s9_90 := ef 9 he_90 (up_m rfl (u4 rfl (u16 rfl (u16 rfl (u16 rfl (u16 rfl s9_34))))))
                                have s163_90 := ef 163 he_90 up_h
                                clear he_90
                                refine then_n ⟨(s163_90).trans (by (first | rfl | (refine avb ?_; simp at *; done) | (refine avb ?_; simp at *; omega))), (s2_90).trans (s2_34).symm, (s3_90).trans (s3_34).symm, (s4_90).trans (s4_34).symm, (s7_90).trans (s7_34).symm, (s9_90).trans (s9_34).symm, rfl⟩)
                             ·(first | replace hq_89 := bnt hq_89 | replace hq_89 := bnf hq_89 | replace hq_89 := bt hq_89 | replace hq_89 := bf hq_89 | replace hq_89 := bt' hq_89 | replace hq_89 := bf' hq_89 | skip)
                              first
                              |(cases hq_89; done) | (exfalso; omega)
                              |(
                                refine al_ro' (ro_move (up_m rfl (u2 rfl (u4 rfl (u16 rfl (u16 rfl s9_34)))))) ⟨_, rfl, hb_89⟩ rfl ?_
                                refine al_ro' (ro_neq up_h ev_c) ⟨_, rfl, (up_m rfl hb_89)⟩ rfl ?_
                                refine al_ro' (ro_move up_h) ⟨_, rfl, (u2 rfl hb_89)⟩ rfl ?_
                                refine al_case up_h (fun hb_91 hq_91 => ?_) (fun hb_91 hq_91 => ?_)
                                ·(first | replace hq_91 := bnt hq_91 | replace hq_91 := bnf hq_91 | replace hq_91 := bt hq_91 | replace hq_91 := bf hq_91 | replace hq_91 := bt' hq_91 | replace hq_91 := bf' hq_91 | skip)
                                 first
                                 |(cases hq_91; done) | (exfalso; omega)
                                 |(
                                   refine al_ro' (ro_move (u2 rfl (u8 rfl (u16 rfl (u16 rfl s7_34))))) ⟨_, rfl, hb_91⟩ rfl ?_
                                   refine al_ro' (ro_gtr up_h ev_c) ⟨_, rfl, (up_m rfl hb_91)⟩ rfl ?_
                                   refine al_ro' (ro_pickT (u2 rfl hb_91) up_h) ⟨_, rfl, (up_m rfl (u4 rfl hb_89))⟩ rfl ?_
                                   refine al_ro' (ro_move up_h) ⟨_, rfl, (u2 rfl (u4 rfl hb_89))⟩ rfl ?_
                                   refine al_case up_h (fun hb_92 hq_92 => ?_) (fun hb_92 hq_92 => ?_)
                                   ·(first | replace hq_92 := bnt hq_92 | replace hq_92 := bnf hq_92 | replace hq_92 := bt hq_92 | replace hq_92 := bf hq_92 | replace hq_92 := bt' hq_92 | replace hq_92 := bf' hq_92 | skip)
                                    first
                                    |(cases hq_92; done) | (exfalso; omega)
                                    |(
                                      refine al_ro' (ro_move (u2 rfl (u4 rfl (u8 rfl (u16 rfl (u16 rfl s7_34)))))) ⟨_, rfl, hb_92⟩ rfl ?_
                                      refine al_ro' (ro_move (up_m rfl (u2 rfl (u4 rfl (u8 rfl (u16 rfl (u16 rfl s7_34))))))) ⟨_, rfl, (up_m rfl hb_92)⟩ rfl ?_
                                      first | (refine al_ro' (ro_mul' (up_m rfl up_h) up_h ?_) ⟨_, rfl, (u2 rfl hb_92)⟩ rfl ?_; · (unfold In64; omega)) | refine al_ro' (ro_mul (up_m rfl up_h) up_h) ⟨_, rfl, (u2 rfl hb_92)⟩ rfl ?_
                                      refine al_ro' (ro_move (up_m rfl (u16 rfl (u16 rfl (u16 rfl s13_34))))) ⟨_, rfl, (up_m rfl (u2 rfl hb_92))⟩ rfl ?_
                                      refine al_ro' (ro_gtr (up_m rfl up_h) up_h) ⟨_, rfl, (u4 rfl hb_92)⟩ rfl ?_
                                      refine al_ro' (ro_pickT (up_m rfl (u4 rfl hb_92)) up_h) ⟨_, rfl, (u4 rfl (u8 rfl hb_89))⟩ rfl ?_
                                      refine al_ro' (ro_pickF (up_m rfl (u4 rfl (u8 rfl hb_89))) up_h) trivial rfl ?_
                                      refine al_ro' (ro_move up_h) trivial rfl ?_
                                      refine al_case up_h (fun hb_93 hq_93 => ?_) (fun hb_93 hq_93 => ?_)
                                      ·(first | replace hq_93 := bnt hq_93 | replace hq_93 := bnf hq_93 | replace hq_93 := bt hq_93 | replace hq_93 := bf hq_93 | replace hq_93 := bt' hq_93 | replace hq_93 := bf' hq_93 | skip)
                                       first
                                       |(cases hq_93; done) | (exfalso; omega)
                                       |(
                                         refine al_skip' ⟨_, rfl, .inl hb_93⟩ rfl ?_
                                         refine al_skip' ⟨_, rfl, .inl (up_m rfl hb_93)⟩ rfl ?_
                                         refine al_skip' ⟨_, rfl, .inl (u2 rfl hb_93)⟩ rfl ?_
                                         refine al_skip' ⟨_, rfl, .inr up_h⟩ rfl ?_
                                         refine al_skip' ⟨_, rfl, .inr (up_m rfl up_h)⟩ rfl ?_
                                         refine al_skip' ⟨_, rfl, .inl (up_m rfl (u4 rfl hb_93))⟩ rfl ?_
                                         refine al_skip' ⟨_, rfl, .inl (u2 rfl (u4 rfl hb_93))⟩ rfl ?_
                                         refine al_skip' ⟨_, rfl, .inr up_h⟩ rfl ?_
                                         refine al_skip' ⟨_, rfl, .inr (up_m rfl up_h)⟩ rfl ?_
                                         refine al_skip' ⟨_, rfl, .inr (u2 rfl up_h)⟩ rfl ?_
                                         refine al_skip' ⟨_, rfl, .inr (up_m rfl (u2 rfl up_h))⟩ rfl ?_
                                         refine al_skip' ⟨_, rfl, .inr (u4 rfl up_h)⟩ rfl ?_
                                         refine al_skip' ⟨_, rfl, .inr (up_m rfl (u4 rfl up_h))⟩ rfl ?_
                                         refine al_skip' ⟨_, rfl, .inl (up_m rfl (u4 rfl (u8 rfl hb_93)))⟩ rfl ?_
                                         refine al_ro' (ro_pickT (u2 rfl (u4 rfl (u8 rfl hb_93))) ev_c) trivial rfl ?_
                                         refine al_end (fun e_94 he_94 => ?_)
                                         have s2_94 := ef 2 he_94 (up_m rfl (u4 rfl (u16 rfl (u16 rfl (u16 rfl (u16 rfl s2_34))))))
                                         have s3_94 := ef 3 he_94 (up_m rfl (u4 rfl (u16 rfl (u16 rfl (u16 rfl (u16 rfl s3_34))))))
                                         have s4_94 := ef 4 he_94 (up_m rfl (u4 rfl (u16 rfl (u16 rfl (u16 rfl (u16 rfl s4_34))))))
                                         have s7_94 := ef 7 he_94 (up_m rfl (u4 rfl (u16 rfl (u16 rfl (u16 rfl (u16 rfl s7_34))))))
                                         have s9_94 := ef 9 he_94 (up_m rfl (u4 rfl (u16 rfl (u16 rfl (u16 rfl (u16 rfl s9_34))))))
                                         have s163_94 := ef 163 he_94 up_h
                                         clear he_94
                                         refine then_n ⟨(s163_94).trans (by (first | rfl | (refine avb ?_; simp at *; done) | (refine avb ?_; simp at *; omega))), (s2_94).trans (s2_34).symm, (s3_94).trans (s3_34).symm, (s4_94).trans (s4_34).symm, (s7_94).trans (s7_34).symm, (s9_94).trans (s9_34).symm, rfl⟩)
                                      ·(first | replace hq_93 := bnt hq_93 | replace hq_93 := bnf hq_93 | replace hq_93 := bt hq_93 | replace hq_93 := bf hq_93 | replace hq_93 := bt' hq_93 | replace hq_93 := bf' hq_93 | skip)
                                       first
                                       |(cases hq_93; done) | (exfalso; omega)
                                       |(
                                         refine al_ro' (ro_move (u2 rfl (u4 rfl (u16 rfl (u16 rfl (u16 rfl s9_34)))))) ⟨_, rfl, hb_93⟩ rfl ?_
                                         refine al_ro' (ro_eql up_h ev_c) ⟨_, rfl, (up_m rfl hb_93)⟩ rfl ?_
                                         refine al_ro' (ro_move up_h) ⟨_, rfl, (u2 rfl hb_93)⟩ rfl ?_
                                         refine al_case up_h (fun hb_95 hq_95 => ?_) (fun hb_95 hq_95 => ?_)
                                         ·(first | replace hq_95 := bnt hq_95 | replace hq_95 := bnf hq_95 | replace hq_95 := bt hq_95 | replace hq_95 := bf hq_95 | replace hq_95 := bt' hq_95 | replace hq_95 := bf' hq_95 | skip)
                                          first
                                          |(cases hq_95; done) | (exfalso; omega)
                                          |(
                                            refine al_ro' (ro_move (up_m rfl (u8 rfl (u16 rfl (u16 rfl (u16 rfl s7_34)))))) ⟨_, rfl, hb_95⟩ rfl ?_
                                            refine al_ro' (ro_gtr up_h ev_c) ⟨_, rfl, (up_m rfl hb_95)⟩ rfl ?_
                                            refine al_ro' (ro_pickT (u2 rfl hb_95) up_h) ⟨_, rfl, (up_m rfl (u4 rfl hb_93))⟩ rfl ?_
                                            refine al_ro' (ro_move up_h) ⟨_, rfl, (u2 rfl (u4 rfl hb_93))⟩ rfl ?_
                                            refine al_case up_h (fun hb_96 hq_96 => ?_) (fun hb_96 hq_96 => ?_)
                                            ·(first | replace hq_96 := bnt hq_96 | replace hq_96 := bnf hq_96 | replace hq_96 := bt hq_96 | replace hq_96 := bf hq_96 | replace hq_96 := bt' hq_96 | replace hq_96 := bf' hq_96 | skip)
                                             first
                                             |(cases hq_96; done) | (exfalso; omega)
                                             |(
                                               refine al_ro' (ro_move (up_m rfl (u4 rfl (u8 rfl (u16 rfl (u16 rfl (u16 rfl s7_34))))))) ⟨_, rfl, hb_96⟩ rfl ?_
                                               first | (refine al_ro' (ro_mul' ev_c up_h ?_) ⟨_, rfl, (up_m rfl hb_96)⟩ rfl ?_; · (unfold In64; omega)) | refine al_ro' (ro_mul ev_c up_h) ⟨_, rfl, (up_m rfl hb_96)⟩ rfl ?_
                                               refine al_ro' (ro_move (up_m rfl (u2 rfl (u4 rfl (u8 rfl (u16 rfl (u16 rfl (u16 rfl s7_34)))))))) ⟨_, rfl, (u2 rfl hb_96)⟩ rfl ?_
                                               first | (refine al_ro' (ro_mul' (up_m rfl up_h) up_h ?_) ⟨_, rfl, (up_m rfl (u2 rfl hb_96))⟩ rfl ?_; · (unfold In64; omega)) | refine al_ro' (ro_mul (up_m rfl up_h) up_h) ⟨_, rfl, (up_m rfl (u2 rfl hb_96))⟩ rfl ?_
                                               refine al_ro' (ro_move (up_m rfl (u16 rfl (u16 rfl (u16 rfl (u16 rfl s13_34)))))) ⟨_, rfl, (u4 rfl hb_96)⟩ rfl ?_
                                               refine al_ro' (ro_gtr (up_m rfl up_h) up_h) ⟨_, rfl, (up_m rfl (u4 rfl hb_96))⟩ rfl ?_
                                               refine al_ro' (ro_pickT (u2 rfl (u4 rfl hb_96)) up_h) ⟨_, rfl, (up_m rfl (u4 rfl (u8 rfl hb_93)))⟩ rfl ?_
                                               refine al_ro' (ro_pickF (u2 rfl (u4 rfl (u8 rfl hb_93))) up_h) trivial rfl ?_
                                               refine al_end (fun e_97 he_97 => ?_)
                                               have s2_97 := ef 2 he_97 (up_m rfl (u4 rfl (u16 rfl (u16 rfl (u16 rfl (u16 rfl s2_34))))))
                                               have s3_97 := ef 3 he_97 (up_m rfl (u4 rfl (u16 rfl (u16 rfl (u16 rfl (u16 rfl s3_34))))))
                                               have s4_97 := ef 4 he_97 (up_m rfl (u4 rfl (u16 rfl (u16 rfl (u16 rfl (u16 rfl s4_34))))))
                                               have s7_97 := ef 7 he_97 (up_m rfl (u4 rfl (u16 rfl (u16 rfl (u16 rfl (u16 rfl s7_34))))))
                                               have s9_97 := ef 9 he_97 (up_m rfl (u4 rfl (u16 rfl (u16 rfl (u16 rfl (u16 rfl s9_34))))))
                                               have s163_97 := ef 163 he_97 up_h
                                               clear he_97
                                               refine then_n ⟨(s163_97).trans (by (first | rfl | (refine avb ?_; simp at *; done) | (refine avb ?_; simp at *; omega))), (s2_97).trans (s2_34).symm, (s3_97).trans (s3_34).symm, (s4_97).trans (s4_34).symm, (s7_97).trans (s7_34).symm, (s9_97).trans (s9_34).symm, rfl⟩)
                                            ·(first | replace hq_96 := bnt hq_96 | replace hq_96 := bnf hq_96 | replace hq_96 := bt hq_96 | replace hq_96 := bf hq_96 | replace hq_96 := bt' hq_96 | replace hq_96 := bf' hq_96 | skip)
                                             first
                                             |(cases hq_96; done) | (exfalso; omega)
                                             |(
                                               refine al_skip' ⟨_, rfl, .inl hb_96⟩ rfl ?_
                                               refine al_skip' ⟨_, rfl, .inl (up_m rfl hb_96)⟩ rfl ?_
                                               refine al_skip' ⟨_, rfl, .inl (u2 rfl hb_96)⟩ rfl ?_
                                               refine al_skip' ⟨_, rfl, .inl (up_m rfl (u2 rfl hb_96))⟩ rfl ?_
                                               refine al_skip' ⟨_, rfl, .inl (u4 rfl hb_96)⟩ rfl ?_
                                               refine al_skip' ⟨_, rfl, .inl (up_m rfl (u4 rfl hb_96))⟩ rfl ?_
                                               refine al_ro' (ro_pickF (u2 rfl (u4 rfl hb_96)) ev_c) ⟨_, rfl, (up_m rfl (u4 rfl (u8 rfl hb_93)))⟩ rfl ?_
                                               refine al_ro' (ro_pickF (u2 rfl (u4 rfl (u8 rfl hb_93))) up_h) trivial rfl ?_
                                               refine al_end (fun e_98 he_98 => ?_)
                                               have s2_98 := ef 2 he_98 (up_m rfl (u4 rfl (u16 rfl (u16 rfl (u16 rfl (u16 rfl s2_34))))))
                                               have s3_98 := ef 3 he_98 (up_m rfl (u4 rfl (u16 rfl (u16 rfl (u16 rfl (u16 rfl s3_34))))))
                                               have s4_98 := ef 4 he_98 (up_m rfl (u4 rfl (u16 rfl (u16 rfl (u16 rfl (u16 rfl s4_34))))))
                                               have s7_98 := ef 7 he_98 (up_m rfl (u4 rfl (u16 rfl (u16 rfl (u16 rfl (u16 rfl s7_34))))))
                                               have s9_98 := ef 9 he_98 (up_m rfl (u4 rfl (u16 rfl (u16 rfl (u16 rfl (u16 rfl s9_34))))))
                                               have s163_98 := ef 163 he_98 up_h
                                               clear he_98
                                               refine then_n ⟨(s163_98).trans (by (first | rfl | (refine avb ?_; simp at *; done) | (refine avb ?_; simp at *; omega))), (s2_98).trans (s2_34).symm, (s3_98).trans (s3_34).symm, (s4_98).trans (s4_34).symm, (s7_98).trans (s7_34).symm, (s9_98).trans (s9_34).symm, rfl⟩))
                                         ·(first | replace hq_95 := bnt hq_95 | replace hq_95 := bnf hq_95 | replace hq_95 := bt hq_95 | replace hq_95 := bf hq_95 | replace hq_95 := bt' hq_95 | replace hq_95 := bf' hq_95 | skip)
                                          first
                                          |(cases hq_95; done) | (exfalso; omega)
                                          |(
                                            refine al_skip' ⟨_, rfl, .inl hb_95⟩ rfl ?_
                                            refine al_skip' ⟨_, rfl, .inl (up_m rfl hb_95)⟩ rfl ?_
                                            refine al_ro' (ro_pickF (u2 rfl hb_95) ev_c) ⟨_, rfl, (up_m rfl (u4 rfl hb_93))⟩ rfl ?_
                                            refine al_ro' (ro_move up_h) ⟨_, rfl, (u2 rfl (u4 rfl hb_93))⟩ rfl ?_
                                            refine al_skip' ⟨_, rfl, .inl up_h⟩ rfl ?_
                                            refine al_skip' ⟨_, rfl, .inl (up_m rfl up_h)⟩ rfl ?_
                                            refine al_skip' ⟨_, rfl, .inl (u2 rfl up_h)⟩ rfl ?_
                                            refine al_skip' ⟨_, rfl, .inl (up_m rfl (u2 rfl up_h))⟩ rfl ?_
                                            refine al_skip' ⟨_, rfl, .inl (u4 rfl up_h)⟩ rfl ?_
                                            refine al_skip' ⟨_, rfl, .inl (up_m rfl (u4 rfl up_h))⟩ rfl ?_
                                            refine al_ro' (ro_pickF (u2 rfl (u4 rfl up_h)) ev_c) ⟨_, rfl, (up_m rfl (u4 rfl (u8 rfl hb_93)))⟩ rfl ?_
                                            refine al_ro' (ro_pickF (u2 rfl (u4 rfl (u8 rfl hb_93))) up_h) trivial rfl ?_
                                            refine al_end (fun e_99 he_99 => ?_)
                                            have s2_99 := ef 2 he_99 (up_m rfl (u4 rfl (u16 rfl (u16 rfl (u16 rfl (u16 rfl s2_34))))))
                                            have s3_99 := ef 3 he_99 (up_m rfl (u4 rfl (u16 rfl (u16 rfl (u16 rfl (u16 rfl s3_34))))))
                                            have s4_99 := ef 4 he_99 (up_m rfl (u4 rfl (u16 rfl (u16 rfl (u16 rfl (u16 rfl s4_34))))))
                                            have s7_99 := ef 7 he_99 (up_m rfl (u4 rfl (u16 rfl (u16 rfl (u16 rfl (u16 rfl s7_34))))))
                                            have s9_99 := ef 9 he_99 (up_m rfl (u4 rfl (u16 rfl (u16 rfl (u16 rfl (u16 rfl s9_34))))))
                                            have s163_99 := ef 163 he_99 up_h
                                            clear he_99
                                            refine then_n ⟨(s163_99).trans (by (first | rfl | (refine avb ?_; simp at *; done) | (refine avb ?_; simp at *; omega))), (s2_99).trans (s2_34).symm, (s3_99).trans (s3_34).symm, (s4_99).trans (s4_34).symm, (s7_99).trans (s7_34).symm, (s9_99).trans (s9_34).symm, rfl⟩)))
                                   ·(first | replace hq_92 := bnt hq_92 | replace hq_92 := bnf hq_92 | replace hq_92 := bt hq_92 | replace hq_92 := bf hq_92 | replace hq_92 := bt' hq_92 | replace hq_92 := bf' hq_92 | skip)
                                    first
                                    |(cases hq_92; done) | (exfalso; omega)
                                    |(
                                      refine al_skip' ⟨_, rfl, .inl hb_92⟩ rfl ?_
                                      refine al_skip' ⟨_, rfl, .inl (up_m rfl hb_92)⟩ rfl ?_
                                      refine al_skip' ⟨_, rfl, .inl (u2 rfl hb_92)⟩ rfl ?_
                                      refine al_skip' ⟨_, rfl, .inl (up_m rfl (u2 rfl hb_92))⟩ rfl ?_
                                      refine al_skip' ⟨_, rfl, .inl (u4 rfl hb_92)⟩ rfl ?_
                                      refine al_ro' (ro_pickF (up_m rfl (u4 rfl hb_92)) ev_c) ⟨_, rfl, (u4 rfl (u8 rfl hb_89))⟩ rfl ?_
                                      refine al_ro' (ro_pickF (up_m rfl (u4 rfl (u8 rfl hb_89))) up_h) trivial rfl ?_
                                      refine al_ro' (ro_move up_h) trivial rfl ?_
                                      refine al_ro' (ro_move (u2 rfl (u4 rfl (u16 rfl (u16 rfl (u16 rfl s9_34)))))) ⟨_, rfl, up_h⟩ rfl ?_
                                      refine al_ro' (ro_eql up_h ev_c) ⟨_, rfl, (up_m rfl up_h)⟩ rfl ?_
                                      refine al_ro' (ro_move up_h) ⟨_, rfl, (u2 rfl up_h)⟩ rfl ?_
                                      refine al_case up_h (fun hb_100 hq_100 => ?_) (fun hb_100 hq_100 => ?_)
                                      ·(first | replace hq_100 := bnt hq_100 | replace hq_100 := bnf hq_100 | replace hq_100 := bt hq_100 | replace hq_100 := bf hq_100 | replace hq_100 := bt' hq_100 | replace hq_100 := bf' hq_100 | skip)
                                       first
                                       |(cases hq_100; done) | (exfalso; omega)
                                       |(
                                         refine al_ro' (ro_move (up_m rfl (u8 rfl (u16 rfl (u16 rfl (u16 rfl s7_34)))))) ⟨_, rfl, hb_100⟩ rfl ?_
                                         refine al_ro' (ro_gtr up_h ev_c) ⟨_, rfl, (up_m rfl hb_100)⟩ rfl ?_
                                         refine al_ro' (ro_pickT (u2 rfl hb_100) up_h) ⟨_, rfl, (up_m rfl (u4 rfl up_h))⟩ rfl ?_
                                         refine al_ro' (ro_move up_h) ⟨_, rfl, (u2 rfl (u4 rfl up_h))⟩ rfl ?_
                                         refine al_case up_h (fun hb_101 hq_101 => ?_) (fun hb_101 hq_101 => ?_)
                                         ·(first | replace hq_101 := bnt hq_101 | replace hq_101 := bnf hq_101 | replace hq_101 := bt hq_101 | replace hq_101 := bf hq_101 | replace hq_101 := bt' hq_101 | replace hq_101 := bf' hq_101 | skip)
                                          first
                                          |(cases hq_101; done) | (exfalso; omega)
                                          |(
                                            refine al_ro' (ro_move (up_m rfl (u4 rfl (u8 rfl (u16 rfl (u16 rfl (u16 rfl s7_34))))))) ⟨_, rfl, hb_101⟩ rfl ?_
                                            first | (refine al_ro' (ro_mul' ev_c up_h ?_) ⟨_, rfl, (up_m rfl hb_101)⟩ rfl ?_; · (unfold In64; omega)) | refine al_ro' (ro_mul ev_c up_h) ⟨_, rfl, (up_m rfl hb_101)⟩ rfl ?_
                                            refine al_ro' (ro_move (up_m rfl (u2 rfl (u4 rfl (u8 rfl (u16 rfl (u16 rfl (u16 rfl s7_34)))))))) ⟨_, rfl, (u2 rfl hb_101)⟩ rfl ?_
                                            first | (refine al_ro' (ro_mul' (up_m rfl up_h) up_h ?_) ⟨_, rfl, (up_m rfl (u2 rfl hb_101))⟩ rfl ?_; · (unfold In64; omega)) | refine al_ro' (ro_mul (up_m rfl up_h) up_h) ⟨_, rfl, (up_m rfl (u2 rfl hb_101))⟩ rfl ?_
                                            refine al_ro' (ro_move (up_m rfl (u16 rfl (u16 rfl (u16 rfl (u16 rfl s13_34)))))) ⟨_, rfl, (u4 rfl hb_101)⟩ rfl ?_
                                            refine al_ro' (ro_gtr (up_m rfl up_h) up_h) ⟨_, rfl, (up_m rfl (u4 rfl hb_101))⟩ rfl ?_
                                            refine al_ro' (ro_pickT (u2 rfl (u4 rfl hb_101)) up_h) ⟨_, rfl, (up_m rfl (u4 rfl (u8 rfl up_h)))⟩ rfl ?_
                                            refine al_ro' (ro_pickF (u2 rfl (u4 rfl (u8 rfl up_h))) up_h) trivial rfl ?_
                                            refine al_end (fun e_102 he_102 => ?_)
                                            have s2_102 := ef 2 he_102 (up_m rfl (u4 rfl (u16 rfl (u16 rfl (u16 rfl (u16 rfl s2_34))))))
                                            have s3_102 := ef 3 he_102 (up_m rfl (u4 rfl (u16 rfl (u16 rfl (u16 rfl (u16 rfl s3_34))))))
                                            have s4_102 := ef 4 he_102 (up_m rfl (u4 rfl (u16 rfl (u16 rfl (u16 rfl (u16 rfl s4_34))))))
                                            have s7_102 := ef 7 he_102 (up_m rfl (u4 rfl (u16 rfl (u16 rfl (u16 rfl (u16 rfl s7_34))))))
                                            have s9_102 := ef 9 he_102 (up_m rfl (u4 rfl (u16 rfl (u16 rfl (u16 rfl (u16 rfl s9_34))))))
                                            have s163_102 := ef 163 he_102 up_h
                                            clear he_102
                                            refine then_n ⟨(s163_102).trans (by (first | rfl | (refine avb ?_; simp at *; done) | (refine avb ?_; simp at *; omega))), (s2_102).trans (s2_34).symm, (s3_102).trans (s3_34).symm, (s4_102).trans (s4_34).symm, (s7_102).trans (s7_34).symm, (s9_102).trans (s9_34).symm, rfl⟩)
                                         ·(first | replace hq_101 := bnt hq_101 | replace hq_101 := bnf hq_101 | replace hq_101 := bt hq_101 | replace hq_101 := bf hq_101 | replace hq_101 := bt' hq_101 | replace hq_101 := bf' hq_101 | skip)
                                          first
                                          |(cases hq_101; done) | (exfalso; omega)
                                          |(
                                            refine al_skip' ⟨_, rfl, .inl hb_101⟩ rfl ?_
                                            refine al_skip' ⟨_, rfl, .inl (up_m rfl hb_101)⟩ rfl ?_
                                            refine al_skip' ⟨_, rfl, .inl (u2 rfl hb_101)⟩ rfl ?_
                                            refine al_skip' ⟨_, rfl, .inl (up_m rfl (u2 rfl hb_101))⟩ rfl ?_
                                            refine al_skip' ⟨_, rfl, .inl (u4 rfl hb_101)⟩ rfl ?_
                                            refine al_skip' ⟨_, rfl, .inl (up_m rfl (u4 rfl hb_101))⟩ rfl ?_
                                            refine al_ro' (ro_pickF (u2 rfl (u4 rfl hb_101)) ev_c) ⟨_, rfl, (up_m rfl (u4 rfl (u8 rfl up_h)))⟩ rfl ?_
                                            refine al_ro' (ro_pickF (u2 rfl (u4 rfl (u8 rfl up_h))) up_h) trivial rfl ?_
                                            refine al_end (fun e_103 he_103 => ?_)
                                            have s2_103 := ef 2 he_103 (up_m rfl (u4 rfl (u16 rfl (u16 rfl (u16 rfl (u16 rfl s2_34))))))
                                            have s3_103 := ef 3 he_103 (up_m rfl (u4 rfl (u16 rfl (u16 rfl (u16 rfl (u16 rfl s3_34))))))
                                            have s4_103 := ef 4 he_103 (up_m rfl (u4 rfl (u16 rfl (u16 rfl (u16 rfl (u16 rfl s4_34))))))
                                            have s7_103 := ef 7 he_103 (up_m rfl (u4 rfl (u16 rfl (u16 rfl (u16 rfl (u16 rfl s7_34))))))
                                            have s9_103 := ef 9 he_103 (up_m rfl (u4 rfl (u16 rfl (u16 rfl (u16 rfl (u16 rfl s9_34))))))
                                            have s163_103 := ef 163 he_103 up_h
                                            clear he_103
                                            refine then_n ⟨(s163_103).trans (by (first | rfl | (refine avb ?_; simp at *; done) | (refine avb ?_; simp at *; omega))), (s2_103).trans (s2_34).symm, (s3_103).trans (s3_34).symm, (s4_103).trans (s4_34).symm, (s7_103).trans (s7_34).symm, (s9_103).trans (s9_34).symm, rfl⟩))
                                      ·(first | replace hq_100 := bnt hq_100 | replace hq_100 := bnf hq_100 | replace hq_100 := bt hq_100 | replace hq_100 := bf hq_100 | replace hq_100 := bt' hq_100 | replace hq_100 := bf' hq_100 | skip)
                                       first
                                       |(cases hq_100; done) | (exfalso; omega)
                                       |(
                                         refine al_skip' ⟨_, rfl, .inl hb_100⟩ rfl ?_
                                         refine al_skip' ⟨_, rfl, .inl (up_m rfl hb_100)⟩ rfl ?_
                                         refine al_ro' (ro_pickF (u2 rfl hb_100) ev_c) ⟨_, rfl, (up_m rfl (u4 rfl up_h))⟩ rfl ?_
                                         refine al_ro' (ro_move up_h) ⟨_, rfl, (u2 rfl (u4 rfl up_h))⟩ rfl ?_
                                         refine al_skip' ⟨_, rfl, .inl up_h⟩ rfl ?_
                                         refine al_skip' ⟨_, rfl, .inl (up_m rfl up_h)⟩ rfl ?_
                                         refine al_skip' ⟨_, rfl, .inl (u2 rfl up_h)⟩ rfl ?_
                                         refine al_skip' ⟨_, rfl, .inl (up_m rfl (u2 rfl up_h))⟩ rfl ?_
                                         refine al_skip' ⟨_, rfl, .inl (u4 rfl up_h)⟩ rfl ?_
                                         refine al_skip' ⟨_, rfl, .inl (up_m rfl (u4 rfl up_h))⟩ rfl ?_
                                         refine al_ro' (ro_pickF (u2 rfl (u4 rfl up_h)) ev_c) ⟨_, rfl, (up_m rfl (u4 rfl (u8 rfl up_h)))⟩ rfl ?_
                                         refine al_ro' (ro_pickF (u2 rfl (u4 rfl (u8 rfl up_h))) up_h) trivial rfl ?_
                                         refine al_end (fun e_104 he_104 => ?_)
                                         have s2_104 := ef 2 he_104 (up_m rfl (u4 rfl (u16 rfl (u16 rfl (u16 rfl (u16 rfl s2_34))))))
                                         have s3_104 := ef 3 he_104 (up_m rfl (u4 rfl (u16 rfl (u16 rfl (u16 rfl (u16 rfl s3_34))))))
                                         have s4_104 := ef 4 he_104 (up_m rfl (u4 rfl (u16 rfl (u16 rfl (u16 rfl (u16 rfl s4_34))))))
                                         have s7_104 := ef 7 he_104 (up_m rfl (u4 rfl (u16 rfl (u16 rfl (u16 rfl (u16 rfl s7_34))))))
                                         have s9_104 := ef 9 he_104 (up_m rfl (u4 rfl (u16 rfl (u16 rfl (u16 rfl (u16 rfl s9_34))))))
                                         have s163_104 := ef 163 he_104 up_h
                                         clear he_104
                                         refine then_n ⟨(s163_104).trans (by (first | rfl | (refine avb ?_; simp at *; done) | (refine avb ?_; simp at *; omega))), (s2_104).trans (s2_34).symm, (s3_104).trans (s3_34).symm, (s4_104).trans (s4_34).symm, (s7_104).trans (s7_34).symm, (s9_104).trans (s9_34).symm, rfl⟩)))
                                ·(first | replace hq_91 := bnt hq_91 | replace hq_91 := bnf hq_91 | replace hq_91 := bt hq_91 | replace hq_91 := bf hq_91 | replace hq_91 := bt' hq_91 | replace hq_91 := bf' hq_91 | skip)
                                 first
                                 |(cases hq_91; done) | (exfalso; omega)
                                 |(
                                   refine al_skip' ⟨_, rfl, .inl hb_91⟩ rfl ?_
                                   refine al_skip' ⟨_, rfl, .inl (up_m rfl hb_91)⟩ rfl ?_
                                   refine al_ro' (ro_pickF (u2 rfl hb_91) ev_c) ⟨_, rfl, (up_m rfl (u4 rfl hb_89))⟩ rfl ?_
                                   refine al_ro' (ro_move up_h) ⟨_, rfl, (u2 rfl (u4 rfl hb_89))⟩ rfl ?_
                                   refine al_skip' ⟨_, rfl, .inl up_h⟩ rfl ?_
                                   refine al_skip' ⟨_, rfl, .inl (up_m rfl up_h)⟩ rfl ?_
                                   refine al_skip' ⟨_, rfl, .inl (u2 rfl up_h)⟩ rfl ?_
                                   refine al_skip' ⟨_, rfl, .inl (up_m rfl (u2 rfl up_h))⟩ rfl ?_
                                   refine al_skip' ⟨_, rfl, .inl (u4 rfl up_h)⟩ rfl ?_
                                   refine al_ro' (ro_pickF (up_m rfl (u4 rfl up_h)) ev_c) ⟨_, rfl, (u4 rfl (u8 rfl hb_89))⟩ rfl ?_
                                   refine al_ro' (ro_pickF (up_m rfl (u4 rfl (u8 rfl hb_89))) up_h) trivial rfl ?_
                                   refine al_ro' (ro_move up_h) trivial rfl ?_
                                   refine al_ro' (ro_move (u2 rfl (u4 rfl (u16 rfl (u16 rfl (u16 rfl s9_34)))))) ⟨_, rfl, up_h⟩ rfl ?_
                                   refine al_ro' (ro_eql up_h ev_c) ⟨_, rfl, (up_m rfl up_h)⟩ rfl ?_
                                   refine al_ro' (ro_move up_h) ⟨_, rfl, (u2 rfl up_h)⟩ rfl ?_
                                   refine al_case up_h (fun hb_105 hq_105 => ?_) (fun hb_105 hq_105 => ?_)
                                   ·(first | replace hq_105 := bnt hq_105 | replace hq_105 := bnf hq_105 | replace hq_105 := bt hq_105 | replace hq_105 := bf hq_105 | replace hq_105 := bt' hq_105 | replace hq_105 := bf' hq_105 | skip)
                                    first
                                    |(cases hq_105; done) | (exfalso; omega)
                                    |(
                                      refine al_ro' (ro_move (up_m rfl (u8 rfl (u16 rfl (u16 rfl (u16 rfl s7_34)))))) ⟨_, rfl, hb_105⟩ rfl ?_
                                      refine al_ro' (ro_gtr up_h ev_c) ⟨_, rfl, (up_m rfl hb_105)⟩ rfl ?_
                                      refine al_ro' (ro_pickT (u2 rfl hb_105) up_h) ⟨_, rfl, (up_m rfl (u4 rfl up_h))⟩ rfl ?_
                                      refine al_ro' (ro_move up_h) ⟨_, rfl, (u2 rfl (u4 rfl up_h))⟩ rfl ?_
                                      refine al_case up_h (fun hb_106 hq_106 => ?_) (fun hb_106 hq_106 => ?_)
                                      ·(first | replace hq_106 := bnt hq_106 | replace hq_106 := bnf hq_106 | replace hq_106 := bt hq_106 | replace hq_106 := bf hq_106 | replace hq_106 := bt' hq_106 | replace hq_106 := bf' hq_106 | skip)
                                       first
                                       |(cases hq_106; done) | (exfalso; omega)
                                       |(
                                         refine al_ro' (ro_move (up_m rfl (u4 rfl (u8 rfl (u16 rfl (u16 rfl (u16 rfl s7_34))))))) ⟨_, rfl, hb_106⟩ rfl ?_
                                         first | (refine al_ro' (ro_mul' ev_c up_h ?_) ⟨_, rfl, (up_m rfl hb_106)⟩ rfl ?_; · (unfold In64; omega)) | refine al_ro' (ro_mul ev_c up_h) ⟨_, rfl, (up_m rfl hb_106)⟩ rfl ?_
                                         refine al_ro' (ro_move (up_m rfl (u2 rfl (u4 rfl (u8 rfl (u16 rfl (u16 rfl (u16 rfl s7_34)))))))) ⟨_, rfl, (u2 rfl hb_106)⟩ rfl ?_
                                         first | (refine al_ro' (ro_mul' (up_m rfl up_h) up_h ?_) ⟨_, rfl, (up_m rfl (u2 rfl hb_106))⟩ rfl ?_; · (unfold In64; omega)) | refine al_ro' (ro_mul (up_m rfl up_h) up_h) ⟨_, rfl, (up_m rfl (u2 rfl hb_106))⟩ rfl ?_
                                         refine al_ro' (ro_move (up_m rfl (u16 rfl (u16 rfl (u16 rfl (u16 rfl s13_34)))))) ⟨_, rfl, (u4 rfl hb_106)⟩ rfl ?_
                                         refine al_ro' (ro_gtr (up_m rfl up_h) up_h) ⟨_, rfl, (up_m rfl (u4 rfl hb_106))⟩ rfl ?_
                                         refine al_ro' (ro_pickT (u2 rfl (u4 rfl hb_106)) up_h) ⟨_, rfl, (up_m rfl (u4 rfl (u8 rfl up_h)))⟩ rfl ?_
                                         refine al_ro' (ro_pickF (u2 rfl (u4 rfl (u8 rfl up_h))) up_h) trivial rfl ?_
                                         refine al_end (fun e_107 he_107 => ?_)
                                         have s2_107 := ef 2 he_107 (up_m rfl (u4 rfl (u16 rfl (u16 rfl (u16 rfl (u16 rfl s2_34))))))
                                         have s3_107 := ef 3 he_107 (up_m rfl (u4 rfl (u16 rfl (u16 rfl (u16 rfl (u16 rfl s3_34))))))
                                         have s4_107 := ef 4 he_107 (up_m rfl (u4 rfl (u16 rfl (u16 rfl (u16 rfl (u16 rfl s4_34))))))
                                         have s7_107 := ef 7 he_107 (up_m rfl (u4 rfl (u16 rfl (u16 rfl (u16 rfl (u16 rfl s7_34))))))
                                         have s9_107 := ef 9 he_107 (up_m rfl (u4 rfl (u16 rfl (u16 rfl (u16 rfl (u16 rfl s9_34))))))
                                         have s163_107 := ef 163 he_107 up_h
                                         clear he_107
                                         refine then_n ⟨(s163_107).trans (by (first | rfl | (refine avb ?_; simp at *; done) | (refine avb ?_; simp at *; omega))), (s2_107).trans (s2_34).symm, (s3_107).trans (s3_34).symm, (s4_107).trans (s4_34).symm, (s7_107).trans (s7_34).symm, (s9_107).trans (s9_34).symm, rfl⟩)
                                      ·(first | replace hq_106 := bnt hq_106 | replace hq_106 := bnf hq_106 | replace hq_106 := bt hq_106 | replace hq_106 := bf hq_106 | replace hq_106 := bt' hq_106 | replace hq_106 := bf' hq_106 | skip)
                                       first
                                       |(cases hq_106; done) | (exfalso; omega)
                                       |(
                                         refine al_skip' ⟨_, rfl, .inl hb_106⟩ rfl ?_
                                         refine al_skip' ⟨_, rfl, .inl (up_m rfl hb_106)⟩ rfl ?_
                                         refine al_skip' ⟨_, rfl, .inl (u2 rfl hb_106)⟩ rfl ?_
                                         refine al_skip' ⟨_, rfl, .inl (up_m rfl (u2 rfl hb_106))⟩ rfl ?_
                                         refine al_skip' ⟨_, rfl, .inl (u4 rfl hb_106)⟩ rfl ?_
                                         refine al_skip' ⟨_, rfl, .inl (up_m rfl (u4 rfl hb_106))⟩ rfl ?_
                                         refine al_ro' (ro_pickF (u2 rfl (u4 rfl hb_106)) ev_c) ⟨_, rfl, (up_m rfl (u4 rfl (u8 rfl up_h)))⟩ rfl ?_
                                         refine al_ro' (ro_pickF (u2 rfl (u4 rfl (u8 rfl up_h))) up_h) trivial rfl ?_
                                         refine al_end (fun e_108 he_108 => ?_)
                                         have s2_108 := ef 2 he_108 (up_m rfl (u4 rfl (u16 rfl (u16 rfl (u16 rfl (u16 rfl s2_34))))))
                                         have s3_108 := ef 3 he_108 (up_m rfl (u4 rfl (u16 rfl (u16 rfl (u16 rfl (u16 rfl s3_34))))))
                                         have s4_108 := ef 4 he_108 (up_m rfl (u4 rfl (u16 rfl (u16 rfl (u16 rfl (u16 rfl s4_34))))))
                                         have s7_108 := ef 7 he_108 (up_m rfl (u4 rfl (u16 rfl (u16 rfl (u16 rfl (u16 rfl s7_34))))))
                                         have s9_108 := ef 9 he_108 (up_m rfl (u4 rfl (u16 rfl (u16 rfl (u16 rfl (u16 rfl s9_34))))))
                                         have s163_108 := ef 163 he_108 up_h
                                         clear he_108
                                         refine then_n ⟨(s163_108).trans (by (first | rfl | (refine avb ?_; simp at *; done) | (refine avb ?_; simp at *; omega))), (s2_108).trans (s2_34).symm, (s3_108).trans (s3_34).symm, (s4_108).trans (s4_34).symm, (s7_108).trans (s7_34).symm, (s9_108).trans (s9_34).symm, rfl⟩))
                                   ·(first | replace hq_105 := bnt hq_105 | replace hq_105 := bnf hq_105 | replace hq_105 := bt hq_105 | replace hq_105 := bf hq_105 | replace hq_105 := bt' hq_105 | replace hq_105 := bf' hq_105 | skip)
                                    first
                                    |(cases hq_105; done) | (exfalso; omega)
                                    |(
                                      refine al_skip' ⟨_, rfl, .inl hb_105⟩ rfl ?_
                                      refine al_skip' ⟨_, rfl, .inl (up_m rfl hb_105)⟩ rfl ?_
                                      refine al_ro' (ro_pickF (u2 rfl hb_105) ev_c) ⟨_, rfl, (up_m rfl (u4 rfl up_h))⟩ rfl ?_
                                      refine al_ro' (ro_move up_h) ⟨_, rfl, (u2 rfl (u4 rfl up_h))⟩ rfl ?_
                                      refine al_skip' ⟨_, rfl, .inl up_h⟩ rfl ?_
                                      refine al_skip' ⟨_, rfl, .inl (up_m rfl up_h)⟩ rfl ?_
                                      refine al_skip' ⟨_, rfl, .inl (u2 rfl up_h)⟩ rfl ?_
                                      refine al_skip' ⟨_, rfl, .inl (up_m rfl (u2 rfl up_h))⟩ rfl ?_
                                      refine al_skip' ⟨_, rfl, .inl (u4 rfl up_h)⟩ rfl ?_
                                      refine al_skip' ⟨_, rfl, .inl (up_m rfl (u4 rfl up_h))⟩ rfl ?_
                                      refine al_ro' (ro_pickF (u2 rfl (u4 rfl up_h)) ev_c) ⟨_, rfl, (up_m rfl (u4 rfl (u8 rfl up_h)))⟩ rfl ?_
                                      refine al_ro' (ro_pickF (u2 rfl (u4 rfl (u8 rfl up_h))) up_h) trivial rfl ?_
                                      refine al_end (fun e_109 he_109 => ?_)
                                      have s2_109 := ef 2 he_109 (up_m rfl (u4 rfl (u16 rfl (u16 rfl (u16 rfl (u16 rfl s2_34))))))
                                      have s3_109 := ef 3 he_109 (up_m rfl (u4 rfl (u16 rfl (u16 rfl (u16 rfl (u16 rfl s3_34))))))
                                      have s4_109 := ef 4 he_109 (up_m rfl (u4 rfl (u16 rfl (u16 rfl (u16 rfl (u16 rfl s4_34))))))
                                      have s7_109 := ef 7 he_109 (up_m rfl (u4 rfl (u16 rfl (u16 rfl (u16 rfl (u16 rfl s7_34))))))
                                      have s9_109 := ef 9 he_109 (up_m rfl (u4 rfl (u16 rfl (u16 rfl (u16 rfl (u16 rfl s9_34))))))
                                      have s163_109 := ef 163 he_109 up_h
                                      clear he_109
                                      refine then_n ⟨(s163_109).trans (by (first | rfl | (refine avb ?_; simp at *; done) | (refine avb ?_; simp at *; omega))), (s2_109).trans (s2_34).symm, (s3_109).trans (s3_34).symm, (s4_109).trans (s4_34).symm, (s7_109).trans (s7_34).symm, (s9_109).trans (s9_34).symm, rfl⟩)))))
                       ·(first | replace hq_86 := bnt hq_86 | replace hq_86 := bnf hq_86 | replace hq_86 := bt hq_86 | replace hq_86 := bf hq_86 | replace hq_86 := bt' hq_86 | replace hq_86 := bf' hq_86 | skip)
                        first
                        |(cases hq_86; done) | (exfalso; omega)
                        |(
                          refine al_skip' ⟨_, rfl, .inl hb_86⟩ rfl ?_
                          refine al_skip' ⟨_, rfl, .inl (up_m rfl hb_86)⟩ rfl ?_
                          refine al_skip' ⟨_, rfl, .inl (u2 rfl hb_86)⟩ rfl ?_
                          refine al_skip' ⟨_, rfl, .inr up_h⟩ rfl ?_
                          refine al_skip' ⟨_, rfl, .inr (up_m rfl up_h)⟩ rfl ?_
                          refine al_skip' ⟨_, rfl, .inr (u2 rfl up_h)⟩ rfl ?_
                          refine al_skip' ⟨_, rfl, .inr (up_m rfl (u2 rfl up_h))⟩ rfl ?_
                          refine al_skip' ⟨_, rfl, .inr (u4 rfl up_h)⟩ rfl ?_
                          refine al_skip' ⟨_, rfl, .inr (up_m rfl (u4 rfl up_h))⟩ rfl ?_
                          refine al_skip' ⟨_, rfl, .inl (up_m rfl (u8 rfl hb_86))⟩ rfl ?_
                          refine al_ro' (ro_pickF (u2 rfl (u8 rfl hb_86)) ev_c) ⟨_, rfl, (up_m rfl (u4 rfl (u8 rfl up_h)))⟩ rfl ?_
                          refine al_ro' (ro_pickF (u2 rfl (u4 rfl (u8 rfl up_h))) up_h) trivial rfl ?_
                          refine al_ro' (ro_move up_h) trivial rfl ?_
                          refine al_ro' (ro_move (up_m rfl (u2 rfl (u4 rfl (u16 rfl (u16 rfl s9_34)))))) ⟨_, rfl, up_h⟩ rfl ?_
                          refine al_ro' (ro_neq up_h ev_c) ⟨_, rfl, (up_m rfl up_h)⟩ rfl ?_
                          refine al_ro' (ro_move up_h) ⟨_, rfl, (u2 rfl up_h)⟩ rfl ?_
                          refine al_case up_h (fun hb_110 hq_110 => ?_) (fun hb_110 hq_110 => ?_)
                          ·(first | replace hq_110 := bnt hq_110 | replace hq_110 := bnf hq_110 | replace hq_110 := bt hq_110 | replace hq_110 := bf hq_110 | replace hq_110 := bt' hq_110 | replace hq_110 := bf' hq_110 | skip)
                           first
                           |(cases hq_110; done) | (exfalso; omega)
                           |(
                             refine al_ro' (ro_move (u2 rfl (u8 rfl (u16 rfl (u16 rfl s7_34))))) ⟨_, rfl, hb_110⟩ rfl ?_
                             refine al_ro' (ro_gtr up_h ev_c) ⟨_, rfl, (up_m rfl hb_110)⟩ rfl ?_
                             refine al_ro' (ro_pickT (u2 rfl hb_110) up_h) ⟨_, rfl, (up_m rfl (u4 rfl up_h))⟩ rfl ?_
                             refine al_ro' (ro_move up_h) ⟨_, rfl, (u2 rfl (u4 rfl up_h))⟩ rfl ?_
                             refine al_case up_h (fun hb_111 hq_111 => ?_) (fun hb_111 hq_111 => ?_)
                             ·(first | replace hq_111 := bnt hq_111 | replace hq_111 := bnf hq_111 | replace hq_111 := bt hq_111 | replace hq_111 := bf hq_111 | replace hq_111 := bt' hq_111 | replace hq_111 := bf' hq_111 | skip)
                              first
                              |(cases hq_111; done) | (exfalso; omega)
                              |(
                                refine al_ro' (ro_move (u2 rfl (u4 rfl (u8 rfl (u16 rfl (u16 rfl s7_34)))))) ⟨_, rfl, hb_111⟩ rfl ?_
                                refine al_ro' (ro_move (up_m rfl (u2 rfl (u4 rfl (u8 rfl (u16 rfl (u16 rfl s7_34))))))) ⟨_, rfl, (up_m rfl hb_111)⟩ rfl ?_
                                first | (refine al_ro' (ro_mul' (up_m rfl up_h) up_h ?_) ⟨_, rfl, (u2 rfl hb_111)⟩ rfl ?_; · (unfold In64; omega)) | refine al_ro' (ro_mul (up_m rfl up_h) up_h) ⟨_, rfl, (u2 rfl hb_111)⟩ rfl ?_
                                refine al_ro' (ro_move (up_m rfl (u16 rfl (u16 rfl (u16 rfl s13_34))))) ⟨_, rfl, (up_m rfl (u2 rfl hb_111))⟩ rfl ?_
                                refine al_ro' (ro_gtr (up_m rfl up_h) up_h) ⟨_, rfl, (u4 rfl hb_111)⟩ rfl ?_
                                refine al_ro' (ro_pickT (up_m rfl (u4 rfl hb_111)) up_h) ⟨_, rfl, (u4 rfl (u8 rfl up_h))⟩ rfl ?_
                                refine al_ro' (ro_pickF (up_m rfl (u4 rfl (u8 rfl up_h))) up_h) trivial rfl ?_
                                refine al_ro' (ro_move up_h) trivial rfl ?_
                                refine al_case up_h (fun hb_112 hq_112 => ?_) (fun hb_112 hq_112 => ?_)
                                ·(first | replace hq_112 := bnt hq_112 | replace hq_112 := bnf hq_112 | replace hq_112 := bt hq_112 | replace hq_112 := bf hq_112 | replace hq_112 := bt' hq_112 | replace hq_112 := bf' hq_112 | skip)
                                 first
                                 |(cases hq_112; done) | (exfalso; omega)
                                 |(
                                   refine al_skip' ⟨_, rfl, .inl hb_112⟩ rfl ?_
                                   refine al_skip' ⟨_, rfl, .inl (up_m rfl hb_112)⟩ rfl ?_
                                   refine al_skip' ⟨_, rfl, .inl (u2 rfl hb_112)⟩ rfl ?_
                                   refine al_skip' ⟨_, rfl, .inr up_h⟩ rfl ?_
                                   refine al_skip' ⟨_, rfl, .inr (up_m rfl up_h)⟩ rfl ?_
                                   refine al_skip' ⟨_, rfl, .inl (up_m rfl (u4 rfl hb_112))⟩ rfl ?_
                                   refine al_skip' ⟨_, rfl, .inl (u2 rfl (u4 rfl hb_112))⟩ rfl ?_
                                   refine al_skip' ⟨_, rfl, .inr up_h⟩ rfl ?_
                                   refine al_skip' ⟨_, rfl, .inr (up_m rfl up_h)⟩ rfl ?_
                                   refine al_skip' ⟨_, rfl, .inr (u2 rfl up_h)⟩ rfl ?_
                                   refine al_skip' ⟨_, rfl, .inr (up_m rfl (u2 rfl up_h))⟩ rfl ?_
                                   refine al_skip' ⟨_, rfl, .inr (u4 rfl up_h)⟩ rfl ?_
                                   refine al_skip' ⟨_, rfl, .inr (up_m rfl (u4 rfl up_h))⟩ rfl ?_
                                   refine al_skip' ⟨_, rfl, .inl (up_m rfl (u4 rfl (u8 rfl hb_112)))⟩ rfl ?_
                                   refine al_ro' (ro_pickT (u2 rfl (u4 rfl (u8 rfl hb_112))) ev_c) trivial rfl ?_
                                   refine al_end (fun e_113 he_113 => ?_)
                                   have s2_113 := ef 2 he_113 (up_m rfl (u4 rfl (u16 rfl (u16 rfl (u16 rfl (u16 rfl s2_34))))))
                                   have s3_113 := ef 3 he_113 (up_m rfl (u4 rfl (u16 rfl (u16 rfl (u16 rfl (u16 rfl s3_34))))))
                                   have s4_113 := ef 4 he_113 (up_m rfl (u4 rfl (u16 rfl (u16 rfl (u16 rfl (u16 rfl s4_34))))))
                                   have s7_113 := ef 7 he_113 (up_m rfl (u4 rfl (u16 rfl (u16 rfl (u16 rfl (u16 rfl s7_34))))))
                                   have s9_113 := ef 9 he_113 (up_m rfl (u4 rfl (u16 rfl (u16 rfl (u16 rfl (u16 rfl s9_34))))))
                                   have s163_113 := ef 163 he_113 up_h
                                   clear he_113
                                   refine then_n ⟨(s163_113).trans (by (first | rfl | (refine avb ?_; simp at *; done) | (refine avb ?_; simp at *; omega))), (s2_113).trans (s2_34).symm, (s3_113).trans (s3_34).symm, (s4_113).trans (s4_34).symm, (s7_113).trans (s7_34).symm, (s9_113).trans (s9_34).symm, rfl⟩)
                                ·(first | replace hq_112 := bnt hq_112 | replace hq_112 := bnf hq_112 | replace hq_112 := bt hq_112 | replace hq_112 := bf hq_112 | replace hq_112 := bt' hq_112 | replace hq_112 := bf' hq_112 | skip)
                                 first
                                 |(cases hq_112; done) | (exfalso; omega)
                                 |(
                                   refine al_ro' (ro_move (u2 rfl (u4 rfl (u16 rfl (u16 rfl (u16 rfl s9_34)))))) ⟨_, rfl, hb_112⟩ rfl ?_
                                   refine al_ro' (ro_eql up_h ev_c) ⟨_, rfl, (up_m rfl hb_112)⟩ rfl ?_
                                   refine al_ro' (ro_move up_h) ⟨_, rfl, (u2 rfl hb_112)⟩ rfl ?_
                                   refine al_case up_h (fun hb_114 hq_114 => ?_) (fun hb_114 hq_114 => ?_)
                                   ·(first | replace hq_114 := bnt hq_114 | replace hq_114 := bnf hq_114 | replace hq_114 := bt hq_114 | replace hq_114 := bf hq_114 | replace hq_114 := bt' hq_114 | replace hq_114 := bf' hq_114 | skip)
                                    first
                                    |(cases hq_114; done) | (exfalso; omega)
                                    |(
                                      refine al_ro' (ro_move (up_m rfl (u8 rfl (u16 rfl (u16 rfl (u16 rfl s7_34)))))) ⟨_, rfl, hb_114⟩ rfl ?_
                                      refine al_ro' (ro_gtr up_h ev_c) ⟨_, rfl, (up_m rfl hb_114)⟩ rfl ?_
                                      refine al_ro' (ro_pickT (u2 rfl hb_114) up_h) ⟨_, rfl, (up_m rfl (u4 rfl hb_112))⟩ rfl ?_
                                      refine al_ro' (ro_move up_h) ⟨_, rfl, (u2 rfl (u4 rfl hb_112))⟩ rfl ?_
                                      refine al_case up_h (fun hb_115 hq_115 => ?_) (fun hb_115 hq_115 => ?_)
                                      ·(first | replace hq_115 := bnt hq_115 | replace hq_115 := bnf hq_115 | replace hq_115 := bt hq_115 | replace hq_115 := bf hq_115 | replace hq_115 := bt' hq_115 | replace hq_115 := bf' hq_115 | skip)
                                       first
                                       |(cases hq_115; done) | (exfalso; omega)
                                       |(
                                         refine al_ro' (ro_move (up_m rfl (u4 rfl (u8 rfl (u16 rfl (u16 rfl (u16 rfl s7_34))))))) ⟨_, rfl, hb_115⟩ rfl ?_
                                         first | (refine al_ro' (ro_mul' ev_c up_h ?_) ⟨_, rfl, (up_m rfl hb_115)⟩ rfl ?_; · (unfold In64; omega)) | refine al_ro' (ro_mul ev_c up_h) ⟨_, rfl, (up_m rfl hb_115)⟩ rfl ?_
                                         refine al_ro' (ro_move (up_m rfl (u2 rfl (u4 rfl (u8 rfl (u16 rfl (u16 rfl (u16 rfl s7_34)))))))) ⟨_, rfl, (u2 rfl hb_115)⟩ rfl ?_
                                         first | (refine al_ro' (ro_mul' (up_m rfl up_h) up_h ?_) ⟨_, rfl, (up_m rfl (u2 rfl hb_115))⟩ rfl ?_; · (unfold In64; omega)) | refine al_ro' (ro_mul (up_m rfl up_h) up_h) ⟨_, rfl, (up_m rfl (u2 rfl hb_115))⟩ rfl ?_
                                         refine al_ro' (ro_move (up_m rfl (u16 rfl (u16 rfl (u16 rfl (u16 rfl s13_34)))))) ⟨_, rfl, (u4 rfl hb_115)⟩ rfl ?_
                                         refine al_ro' (ro_gtr (up_m rfl up_h) up_h) ⟨_, rfl, (up_m rfl (u4 rfl hb_115))⟩ rfl ?_
                                         refine al_ro' (ro_pickT (u2 rfl (u4 rfl hb_115)) up_h) ⟨_, rfl, (up_m rfl (u4 rfl (u8 rfl hb_112)))⟩ rfl ?_
                                         refine al_ro' (ro_pickF (u2 rfl (u4 rfl (u8 rfl hb_112))) up_h) trivial rfl ?_
                                         refine al_end (fun e_116 he_116 => ?_)
                                         have s2_116 := ef 2 he_116 (up_m rfl (u4 rfl (u16 rfl (u16 rfl (u16 rfl (u16 rfl s2_34))))))
                                         have s3_116 := ef 3 he_116 (up_m rfl (u4 rfl (u16 rfl (u16 rfl (u16 rfl (u16 rfl s3_34))))))
                                         have s4_116 := ef 4 he_116 (up_m rfl (u4 rfl (u16 rfl (u16 rfl (u16 rfl (u16 rfl s4_34))))))
                                         have s7_116 := ef 7 he_116 (up_m rfl (u4 rfl (u16 rfl (u16 rfl (u16 rfl (u16 rfl s7_34))))))
                                         have s9_116 := ef 9 he_116 (up_m rfl (u4 rfl (u16 rfl (u16 rfl (u16 rfl (u16 rfl s9_34))))))
                                         have s163_116 := ef 163 he_116 up_h
                                         clear he_116
                                         refine then_n ⟨(s163_116).trans (by (first | rfl | (refine avb ?_; simp at *; done) | (refine avb ?_; simp at *; omega))), (s2_116).trans (s2_34).symm, (s3_116).trans (s3_34).symm, (s4_116).trans (s4_34).symm, (s7_116).trans (s7_34).symm, (s9_116).trans (s9_34).symm, rfl⟩)
                                      ·(first | replace hq_115 := bnt hq_115 | replace hq_115 := bnf hq_115 | replace hq_115 := bt hq_115 | replace hq_115 := bf hq_115 | replace hq_115 := bt' hq_115 | replace hq_115 := bf' hq_115 | skip)
                                       first
                                       |(cases hq_115; done) | (exfalso; omega)
                                       |(
                                         refine al_skip' ⟨_, rfl, .inl hb_115⟩ rfl ?_
                                         refine al_skip' ⟨_, rfl, .inl (up_m rfl hb_115)⟩ rfl ?_
                                         refine al_skip' ⟨_, rfl, .inl (u2 rfl hb_115)⟩ rfl ?_
                                         refine al_skip' ⟨_, rfl, .inl (up_m rfl (u2 rfl hb_115))⟩ rfl ?_
                                         refine al_skip' ⟨_, rfl, .inl (u4 rfl hb_115)⟩ rfl ?_
                                         refine al_skip' ⟨_, rfl, .inl (up_m rfl (u4 rfl hb_115))⟩ rfl ?_
                                         refine al_ro' (ro_pickF (u2 rfl (u4 rfl hb_115)) ev_c) ⟨_, rfl, (up_m rfl (u4 rfl (u8 rfl hb_112)))⟩ rfl ?_
                                         refine al_ro' (ro_pickF (u2 rfl (u4 rfl (u8 rfl hb_112))) up_h) trivial rfl ?_
                                         refine al_end (fun e_117 he_117 => ?_)
                                         have s2_117 := ef 2 he_117 (up_m rfl (u4 rfl (u16 rfl (u16 rfl (u16 rfl (u16 rfl s2_34))))))
                                         have s3_117 := ef 3 he_117 (up_m rfl (u4 rfl (u16 rfl (u16 rfl (u16 rfl (u16 rfl s3_34))))))
                                         have s4_117 := ef 4 he_117 (up_m rfl (u4 rfl (u16 rfl (u16 rfl (u16 rfl (u16 rfl s4_34))))))
                                         have s7_117 := ef 7 he_117 (up_m rfl (u4 rfl (u16 rfl (u16 rfl (u16 rfl (u16 rfl s7_34))))))
                                         have s9_117 := ef 9 he_117 (up_m rfl (u4 rfl (u16 rfl (u16 rfl (u16 rfl (u16 rfl s9_34))))))
                                         have s163_117 := ef 163 he_117 up_h
                                         clear he_117
                                         refine then_n ⟨(s163_117).trans (by (first | rfl | (refine avb ?_; simp at *; done) | (refine avb ?_; simp at *; omega))), (s2_117).trans (s2_34).symm, (s3_117).trans (s3_34).symm, (s4_117).trans (s4_34).symm, (s7_117).trans (s7_34).symm, (s9_117).trans (s9_34).symm, rfl⟩))
                                   ·(first | replace hq_114 := bnt hq_114 | replace hq_114 := bnf hq_114 | replace hq_114 := bt hq_114 | replace hq_114 := bf hq_114 | replace hq_114 := bt' hq_114 | replace hq_114 := bf' hq_114 | skip)
                                    first
                                    |(cases hq_114; done) | (exfalso; omega)
                                    |(
                                      refine al_skip' ⟨_, rfl, .inl hb_114⟩ rfl ?_
                                      refine al_skip' ⟨_, rfl, .inl (up_m rfl hb_114)⟩ rfl ?_
                                      refine al_ro' (ro_pickF (u2 rfl hb_114) ev_c) ⟨_, rfl, (up_m rfl (u4 rfl hb_112))⟩ rfl ?_
                                      refine al_ro' (ro_move up_h) ⟨_, rfl, (u2 rfl (u4 rfl hb_112))⟩ rfl ?_
                                      refine al_skip' ⟨_, rfl, .inl up_h⟩ rfl ?_
                                      refine al_skip' ⟨_, rfl, .inl (up_m rfl up_h)⟩ rfl ?_
                                      refine al_skip' ⟨_, rfl, .inl (u2 rfl up_h)⟩ rfl ?_
                                      refine al_skip' ⟨_, rfl, .inl (up_m rfl (u2 rfl up_h))⟩ rfl ?_
                                      refine al_skip' ⟨_, rfl, .inl (u4 rfl up_h)⟩ rfl ?_
                                      refine al_skip' ⟨_, rfl, .inl (up_m rfl (u4 rfl up_h))⟩ rfl ?_
                                      refine al_ro' (ro_pickF (u2 rfl (u4 rfl up_h)) ev_c) ⟨_, rfl, (up_m rfl (u4 rfl (u8 rfl hb_112)))⟩ rfl ?_
                                      refine al_ro' (ro_pickF (u2 rfl (u4 rfl (u8 rfl hb_112))) up_h) trivial rfl ?_
                                      refine al_end (fun e_118 he_118 => ?_)
                                      have s2_118 := ef 2 he_118 (up_m rfl (u4 rfl (u16 rfl (u16 rfl (u16 rfl (u16 rfl s2_34))))))
                                      have s3_118 := ef 3 he_118 (up_m rfl (u4 rfl (u16 rfl (u16 rfl (u16 rfl (u16 rfl s3_34))))))
                                      have s4_118 := ef 4 he_118 (up_m rfl (u4 rfl (u16 rfl (u16 rfl (u16 rfl (u16 rfl s4_34))))))
                                      have s7_118 := ef 7 he_118 (up_m rfl (u4 rfl (u16 rfl (u16 rfl (u16 rfl (u16 rfl s7_34))))))
                                      have s9_118 := ef 9 he_118 (up_m rfl (u4 rfl (u16 rfl (u16 rfl (u16 rfl (u16 rfl s9_34))))))
                                      have s163_118 := ef 163 he_118 up_h
                                      clear he_118
                                      refine then_n ⟨(s163_118).trans (by (first | rfl | (refine avb ?_; simp at *; done) | (refine avb ?_; simp at *; omega))), (s2_118).trans (s2_34).symm, (s3_118).trans (s3_34).symm, (s4_118).trans (s4_34).symm, (s7_118).trans (s7_34).symm, (s9_118).trans (s9_34).symm, rfl⟩)))
                             ·(first | replace hq_111 := bnt hq_111 | replace hq_111 := bnf hq_111 | replace hq_111 := bt hq_111 | replace hq_111 := bf hq_111 | replace hq_111 := bt' hq_111 | replace hq_111 := bf' hq_111 | skip)
                              first
                              |(cases hq_111; done) | (exfalso; omega)
                              |(
                                refine al_skip' ⟨_, rfl, .inl hb_111⟩ rfl ?_
                                refine al_skip' ⟨_, rfl, .inl (up_m rfl hb_111)⟩ rfl ?_
                                refine al_skip' ⟨_, rfl, .inl (u2 rfl hb_111)⟩ rfl ?_
                                refine al_skip' ⟨_, rfl, .inl (up_m rfl (u2 rfl hb_111))⟩ rfl ?_
                                refine al_skip' ⟨_, rfl, .inl (u4 rfl hb_111)⟩ rfl ?_
                                refine al_ro' (ro_pickF (up_m rfl (u4 rfl hb_111)) ev_c) ⟨_, rfl, (u4 rfl (u8 rfl up_h))⟩ rfl ?_
                                refine al_ro' (ro_pickF (up_m rfl (u4 rfl (u8 rfl up_h))) up_h) trivial rfl ?_
                                refine al_ro' (ro_move up_h) trivial rfl ?_
                                refine al_ro' (ro_move (u2 rfl (u4 rfl (u16 rfl (u16 rfl (u16 rfl s9_34)))))) ⟨_, rfl, up_h⟩ rfl ?_
                                refine al_ro' (ro_eql up_h ev_c) ⟨_, rfl, (up_m rfl up_h)⟩ rfl ?_
                                refine al_ro' (ro_move up_h) ⟨_, rfl, (u2 rfl up_h)⟩ rfl ?_
                                refine al_case up_h (fun hb_119 hq_119 => ?_) (fun hb_119 hq_119 => ?_)
                                ·(first | replace hq_119 := bnt hq_119 | replace hq_119 := bnf hq_119 | replace hq_119 := bt hq_119 | replace hq_119 := bf hq_119 | replace hq_119 := bt' hq_119 | replace hq_119 := bf' hq_119 | skip)
                                 first
                                 |(cases hq_119; done) | (exfalso; omega)
                                 |(
                                   refine al_ro' (ro_move (up_m rfl (u8 rfl (u16 rfl (u16 rfl (u16 rfl s7_34)))))) ⟨_, rfl, hb_119⟩ rfl ?_
                                   refine al_ro' (ro_gtr up_h ev_c) ⟨_, rfl, (up_m rfl hb_119)⟩ rfl ?_
                                   refine al_ro' (ro_pickT (u2 rfl hb_119) up_h) ⟨_, rfl, (up_m rfl (u4 rfl up_h))⟩ rfl ?_
                                   refine al_ro' (ro_move up_h) ⟨_, rfl, (u2 rfl (u4 rfl up_h))⟩ rfl ?_
                                   refine al_case up_h (fun hb_120 hq_120 => ?_) (fun hb_120 hq_120 => ?_)
                                   ·(first | replace hq_120 := bnt hq_120 | replace hq_120 := bnf hq_120 | replace hq_120 := bt hq_120 | replace hq_120 := bf hq_120 | replace hq_120 := bt' hq_120 | replace hq_120 := bf' hq_120 | skip)
                                    first
                                    |(cases hq_120; done) | (exfalso; omega)
                                    |(
                                      refine al_ro' (ro_move (up_m rfl (u4 rfl (u8 rfl (u16 rfl (u16 rfl (u16 rfl s7_34))))))) ⟨_, rfl, hb_120⟩ rfl ?_
                                      first | (refine al_ro' (ro_mul' ev_c up_h ?_) ⟨_, rfl, (up_m rfl hb_120)⟩ rfl ?_; · (unfold In64; omega)) | refine al_ro' (ro_mul ev_c up_h) ⟨_, rfl, (up_m rfl hb_120)⟩ rfl ?_
                                      refine al_ro' (ro_move (up_m rfl (u2 rfl (u4 rfl (u8 rfl (u16 rfl (u16 rfl (u16 rfl s7_34)))))))) ⟨_, rfl, (u2 rfl hb_120)⟩ rfl ?_
                                      first | (refine al_ro' (ro_mul' (up_m rfl up_h) up_h ?_) ⟨_, rfl, (up_m rfl (u2 rfl hb_120))⟩ rfl ?_; · (unfold In64; omega)) | refine al_ro' (ro_mul (up_m rfl up_h) up_h) ⟨_, rfl, (up_m rfl (u2 rfl hb_120))⟩ rfl ?_
                                      refine al_ro' (ro_move (up_m rfl (u16 rfl (u16 rfl (u16 rfl (u16 rfl s13_34)))))) ⟨_, rfl, (u4 rfl hb_120)⟩ rfl ?_
                                      refine al_ro' (ro_gtr (up_m rfl up_h) up_h) ⟨_, rfl, (up_m rfl (u4 rfl hb_120))⟩ rfl ?_
                                      refine al_ro' (ro_pickT (u2 rfl (u4 rfl hb_120)) up_h) ⟨_, rfl, (up_m rfl (u4 rfl (u8 rfl up_h)))⟩ rfl ?_
                                      refine al_ro' (ro_pickF (u2 rfl (u4 rfl (u8 rfl up_h))) up_h) trivial rfl ?_
                                      refine al_end (fun e_121 he_121 => ?_)
                                      have s2_121 := ef 2 he_121 (up_m rfl (u4 rfl (u16 rfl (u16 rfl (u16 rfl (u16 rfl s2_34))))))
                                      have s3_121 := ef 3 he_121 (up_m rfl (u4 rfl (u16 rfl (u16 rfl (u16 rfl (u16 rfl s3_34))))))
                                      have s4_121 := ef 4 he_121 (up_m rfl (u4 rfl (u16 rfl (u16 rfl (u16 rfl (u16 rfl s4_34))))))
                                      have s7_121 := ef 7 he_121 (up_m rfl (u4 rfl (u16 rfl (u16 rfl (u16 rfl (u16 rfl s7_34))))))
                                      have s9_121 := ef 9 he_121 (up_m rfl (u4 rfl (u16 rfl (u16 rfl (u16 rfl (u16 rfl s9_34))))))
                                      have s163_121 := ef 163 he_121 up_h
                                      clear he_121
                                      refine then_n ⟨(s163_121).trans (by (first | rfl | (refine avb ?_; simp at *; done) | (refine avb ?_; simp at *; omega))), (s2_121).trans (s2_34).symm, (s3_121).trans (s3_34).symm, (s4_121).trans (s4_34).symm, (s7_121).trans (s7_34).symm, (s9_121).trans (s9_34).symm, rfl⟩)
                                   ·(first | replace hq_120 := bnt hq_120 | replace hq_120 := bnf hq_120 | replace hq_120 := bt hq_120 | replace hq_120 := bf hq_120 | replace hq_120 := bt' hq_120 | replace hq_120 := bf' hq_120 | skip)
                                    first
                                    |(cases hq_120; done) | (exfalso; omega)
                                    |(
                                      refine al_skip' ⟨_, rfl, .inl hb_120⟩ rfl ?_
                                      refine al_skip' ⟨_, rfl, .inl (up_m rfl hb_120)⟩ rfl ?_
                                      refine al_skip' ⟨_, rfl, .inl (u2 rfl hb_120)⟩ rfl ?_
                                      refine al_skip' ⟨_, rfl, .inl (up_m rfl (u2 rfl hb_120))⟩ rfl ?_
                                      refine al_skip' ⟨_, rfl, .inl (u4 rfl hb_120)⟩ rfl ?_
                                      refine al_skip' ⟨_, rfl, .inl (up_m rfl (u4 rfl hb_120))⟩ rfl ?_
                                      refine al_ro' (ro_pickF (u2 rfl (u4 rfl hb_120)) ev_c) ⟨_, rfl, (up_m rfl (u4 rfl (u8 rfl up_h)))⟩ rfl ?_
                                      refine al_ro' (ro_pickF (u2 rfl (u4 rfl (u8 rfl up_h))) up_h) trivial rfl ?_
                                      refine al_end (fun e_122 he_122 => ?_)
                                      have s2_122 := ef 2 he_122 (up_m rfl (u4 rfl (u16 rfl (u16 rfl (u16 rfl (u16 rfl s2_34))))))
                                      have s3_122 := ef 3 he_122 (up_m rfl (u4 rfl (u16 rfl (u16 rfl (u16 rfl (u16 rfl s3_34))))))
                                      have s4_122 := ef 4 he_122 (up_m rfl (u4 rfl (u16 rfl (u16 rfl (u16 rfl (u16 rfl s4_34))))))
                                      have s7_122 := ef 7 he_122 (up_m rfl (u4 rfl (u16 rfl (u16 rfl (u16 rfl (u16 rfl s7_34))))))
                                      have s9_122 := ef 9 he_122 (up_m rfl (u4 rfl (u16 rfl (u16 rfl (u16 rfl (u16 rfl s9_34))))))
                                      have s163_122 := ef 163 he_122 up_h
                                      clear he_122
                                      refine then_n ⟨(s163_122).trans (by (first | rfl | (refine avb ?_; simp at *; done) | (refine avb ?_; simp at *; omega))), (s2_122).trans (s2_34).symm, (s3_122).trans (s3_34).symm, (s4_122).trans (s4_34).symm, (s7_122).trans (s7_34).symm, (s9_122).trans (s9_34).symm, rfl⟩))
                                ·(first | replace hq_119 := bnt hq_119 | replace hq_119 := bnf hq_119 | replace hq_119 := bt hq_119 | replace hq_119 := bf hq_119 | replace hq_119 := bt' hq_119 | replace hq_119 := bf' hq_119 | skip)
                                 first
                                 |(cases hq_119; done) | (exfalso; omega)
                                 |(
                                   refine al_skip' ⟨_, rfl, .inl hb_119⟩ rfl ?_
                                   refine al_skip' ⟨_, rfl, .inl (up_m rfl hb_119)⟩ rfl ?_
                                   refine al_ro' (ro_pickF (u2 rfl hb_119) ev_c) ⟨_, rfl, (up_m rfl (u4 rfl up_h))⟩ rfl ?_
                                   refine al_ro' (ro_move up_h) ⟨_, rfl, (u2 rfl (u4 rfl up_h))⟩ rfl ?_
                                   refine al_skip' ⟨_, rfl, .inl up_h⟩ rfl ?_
                                   refine al_skip' ⟨_, rfl, .inl (up_m rfl up_h)⟩ rfl ?_
                                   refine al_skip' ⟨_, rfl, .inl (u2 rfl up_h)⟩ rfl ?_
                                   refine al_skip' ⟨_, rfl, .inl (up_m rfl (u2 rfl up_h))⟩ rfl ?_
                                   refine al_skip' ⟨_, rfl, .inl (u4 rfl up_h)⟩ rfl ?_
                                   refine al_skip' ⟨_, rfl, .inl (up_m rfl (u4 rfl up_h))⟩ rfl ?_
                                   refine al_ro' (ro_pickF (u2 rfl (u4 rfl up_h)) ev_c) ⟨_, rfl, (up_m rfl (u4 rfl (u8 rfl up_h)))⟩ rfl ?_
                                   refine al_ro' (ro_pickF (u2 rfl (u4 rfl (u8 rfl up_h))) up_h) trivial rfl ?_
                                   refine al_end (fun e_123 he_123 => ?_)
                                   have s2_123 := ef 2 he_123 (up_m rfl (u4 rfl (u16 rfl (u16 rfl (u16 rfl (u16 rfl s2_34))))))
                                   have s3_123 := ef 3 he_123 (up_m rfl (u4 rfl (u16 rfl (u16 rfl (u16 rfl (u16 rfl s3_34))))))
                                   have s4_123 := ef 4 he_123 (up_m rfl (u4 rfl (u16 rfl (u16 rfl (u16 rfl (u16 rfl s4_34))))))
                                   have s7_123 := ef 7 he_123 (up_m rfl (u4 rfl (u16 rfl (u16 rfl (u16 rfl (u16 rfl s7_34))))))
                                   have s9_123 := ef 9 he_123 (up_m rfl (u4 rfl (u16 rfl (u16 rfl (u16 rfl (u16 rfl s9_34))))))
                                   have s163_123 := ef 163 he_123 up_h
                                   clear he_123
                                   refine then_n ⟨(s163_123).trans (by (first | rfl | (refine avb ?_; simp at *; done) | (refine avb ?_; simp at *; omega))), (s2_123).trans (s2_34).symm, (s3_123).trans (s3_34).symm, (s4_123).trans (s4_34).symm, (s7_123).trans (s7_34).symm, (s9_123).trans (s9_34).symm, rfl⟩)))
                          ·(first | replace hq_110 := bnt hq_110 | replace hq_110 := bnf hq_110 | replace hq_110 := bt hq_110 | replace hq_110 := bf hq_110 | replace hq_110 := bt' hq_110 | replace hq_110 := bf' hq_110 | skip)
                           first
                           |(cases hq_110; done) | (exfalso; omega)
                           |(
                             refine al_skip' ⟨_, rfl, .inl hb_110⟩ rfl ?_
                             refine al_skip' ⟨_, rfl, .inl (up_m rfl hb_110)⟩ rfl ?_
                             refine al_ro' (ro_pickF (u2 rfl hb_110) ev_c) ⟨_, rfl, (up_m rfl (u4 rfl up_h))⟩ rfl ?_
                             refine al_ro' (ro_move up_h) ⟨_, rfl, (u2 rfl (u4 rfl up_h))⟩ rfl ?_
                             refine al_skip' ⟨_, rfl, .inl up_h⟩ rfl ?_
                             refine al_skip' ⟨_, rfl, .inl (up_m rfl up_h)⟩ rfl ?_
                             refine al_skip' ⟨_, rfl, .inl (u2 rfl up_h)⟩ rfl ?_
                             refine al_skip' ⟨_, rfl, .inl (up_m rfl (u2 rfl up_h))⟩ rfl ?_
                             refine al_skip' ⟨_, rfl, .inl (u4 rfl up_h)⟩ rfl ?_
                             refine al_ro' (ro_pickF (up_m rfl (u4 rfl up_h)) ev_c) ⟨_, rfl, (u4 rfl (u8 rfl up_h))⟩ rfl ?_
                             refine al_ro' (ro_pickF (up_m rfl (u4 rfl (u8 rfl up_h))) up_h) trivial rfl ?_
                             refine al_ro' (ro_move up_h) trivial rfl ?_
                             refine al_ro' (ro_move (u2 rfl (u4 rfl (u16 rfl (u16 rfl (u16 rfl s9_34)))))) ⟨_, rfl, up_h⟩ rfl ?_
                             refine al_ro' (ro_eql up_h ev_c) ⟨_, rfl, (up_m rfl up_h)⟩ rfl ?_
                             refine al_ro' (ro_move up_h) ⟨_, rfl, (u2 rfl up_h)⟩ rfl ?_
                             refine al_case up_h (fun hb_124 hq_124 => ?_) (fun hb_124 hq_124 => ?_)
                             ·(first | replace hq_124 := bnt hq_124 | replace hq_124 := bnf hq_124 | replace hq_124 := bt hq_124 | replace hq_124 := bf hq_124 | replace hq_124 := bt' hq_124 | replace hq_124 := bf' hq_124 | skip)
                              first
                              |(cases hq_124; done) | (exfalso; omega)
                              |(
                                refine al_ro' (ro_move (up_m rfl (u8 rfl (u16 rfl (u16 rfl (u16 rfl s7_34)))))) ⟨_, rfl, hb_124⟩ rfl ?_
                                refine al_ro' (ro_gtr up_h ev_c) ⟨_, rfl, (up_m rfl hb_124)⟩ rfl ?_
                                refine al_ro' (ro_pickT (u2 rfl hb_124) up_h) ⟨_, rfl, (up_m rfl (u4 rfl up_h))⟩ rfl ?_
                                refine al_ro' (ro_move up_h) ⟨_, rfl, (u2 rfl (u4 rfl up_h))⟩ rfl ?_
                                refine al_case up_h (fun hb_125 hq_125 => ?_) (fun hb_125 hq_125 => ?_)
                                ·(first | replace hq_125 := bnt hq_125 | replace hq_125 := bnf hq_125 | replace hq_125 := bt hq_125 | replace hq_125 := bf hq_125 | replace hq_125 := bt' hq_125 | replace hq_125 := bf' hq_125 | skip)
                                 first
                                 |(cases hq_125; done) | (exfalso; omega)
                                 |(
                                   refine al_ro' (ro_move (up_m rfl (u4 rfl (u8 rfl (u16 rfl (u16 rfl (u16 rfl s7_34))))))) ⟨_, rfl, hb_125⟩ rfl ?_
                                   first | (refine al_ro' (ro_mul' ev_c up_h ?_) ⟨_, rfl, (up_m rfl hb_125)⟩ rfl ?_; · (unfold In64; omega)) | refine al_ro' (ro_mul ev_c up_h) ⟨_, rfl, (up_m rfl hb_125)⟩ rfl ?_
                                   refine al_ro' (ro_move (up_m rfl (u2 rfl (u4 rfl (u8 rfl (u16 rfl (u16 rfl (u16 rfl s7_34)))))))) ⟨_, rfl, (u2 rfl hb_125)⟩ rfl ?_
                                   first | (refine al_ro' (ro_mul' (up_m rfl up_h) up_h ?_) ⟨_, rfl, (up_m rfl (u2 rfl hb_125))⟩ rfl ?_; · (unfold In64; omega)) | refine al_ro' (ro_mul (up_m rfl up_h) up_h) ⟨_, rfl, (up_m rfl (u2 rfl hb_125))⟩ rfl ?_
                                   refine al_ro' (ro_move (up_m rfl (u16 rfl (u16 rfl (u16 rfl (u16 rfl s13_34)))))) ⟨_, rfl, (u4 rfl hb_125)⟩ rfl ?_
                                   refine al_ro' (ro_gtr (up_m rfl up_h) up_h) ⟨_, rfl, (up_m rfl (u4 rfl hb_125))⟩ rfl ?_
                                   refine al_ro' (ro_pickT (u2 rfl (u4 rfl hb_125)) up_h) ⟨_, rfl, (up_m rfl (u4 rfl (u8 rfl up_h)))⟩ rfl ?_
                                   refine al_ro' (ro_pickF (u2 rfl (u4 rfl (u8 rfl up_h))) up_h) trivial rfl ?_
                                   refine al_end (fun e_126 he_126 => ?_)
                                   have s2_126 := ef 2 he_126 (up_m rfl (u4 rfl (u16 rfl (u16 rfl (u16 rfl (u16 rfl s2_34))))))
                                   have s3_126 := ef 3 he_126 (up_m rfl (u4 rfl (u16 rfl (u16 rfl (u16 rfl (u16 rfl s3_34))))))
                                   have s4_126 := ef 4 he_126 (up_m rfl (u4 rfl (u16 rfl (u16 rfl (u16 rfl (u16 rfl s4_34))))))
                                   have s7_126 := ef 7 he_126 (up_m rfl (u4 rfl (u16 rfl (u16 rfl (u16 rfl (u16 rfl s7_34))))))
                                   have s9_126 := ef 9 he_126 (up_m rfl (u4 rfl (u16 rfl (u16 rfl (u16 rfl (u16 rfl s9_34))))))
                                   have s163_126 := ef 163 he_126 up_h
                                   clear he_126
                                   refine then_n ⟨(s163_126).trans (by (first | rfl | (refine avb ?_; simp at *; done) | (refine avb ?_; simp at *; omega))), (s2_126).trans (s2_34).symm, (s3_126).trans (s3_34).symm, (s4_126).trans (s4_34).symm, (s7_126).trans (s7_34).symm, (s9_126).trans (s9_34).symm, rfl⟩)
                                ·(first | replace hq_125 := bnt hq_125 | replace hq_125 := bnf hq_125 | replace hq_125 := bt hq_125 | replace hq_125 := bf hq_125 | replace hq_125 := bt' hq_125 | replace hq_125 := bf' hq_125 | skip)
                                 first
                                 |(cases hq_125; done) | (exfalso; omega)
                                 |(
                                   refine al_skip' ⟨_, rfl, .inl hb_125⟩ rfl ?_
                                   refine al_skip' ⟨_, rfl, .inl (up_m rfl hb_125)⟩ rfl ?_
                                   refine al_skip' ⟨_, rfl, .inl (u2 rfl hb_125)⟩ rfl ?_
                                   refine al_skip' ⟨_, rfl, .inl (up_m rfl (u2 rfl hb_125))⟩ rfl ?_
                                   refine al_skip' ⟨_, rfl, .inl (u4 rfl hb_125)⟩ rfl ?_
                                   refine al_skip' ⟨_, rfl, .inl (up_m rfl (u4 rfl hb_125))⟩ rfl ?_
                                   refine al_ro' (ro_pickF (u2 rfl (u4 rfl hb_125)) ev_c) ⟨_, rfl, (up_m rfl (u4 rfl (u8 rfl up_h)))⟩ rfl ?_
                                   refine al_ro' (ro_pickF (u2 rfl (u4 rfl (u8 rfl up_h))) up_h) trivial rfl ?_
                                   refine al_end (fun e_127 he_127 => ?_)
                                   have s2_127 := ef 2 he_127 (up_m rfl (u4 rfl (u16 rfl (u16 rfl (u16 rfl (u16 rfl s2_34))))))
                                   have s3_127 := ef 3 he_127 (up_m rfl (u4 rfl (u16 rfl (u16 rfl (u16 rfl (u16 rfl s3_34))))))
                                   have s4_127 := ef 4 he_127 (up_m rfl (u4 rfl (u16 rfl (u16 rfl (u16 rfl (u16 rfl s4_34))))))
                                   have s7_127 := ef 7 he_127 (up_m rfl (u4 rfl (u16 rfl (u16 rfl (u16 rfl (u16 rfl s7_34))))))
                                   have s9_127 := ef 9 he_127 (up_m rfl (u4 rfl (u16 rfl (u16 rfl (u16 rfl (u16 rfl s9_34))))))
                                   have s163_127 := ef 163 he_127 up_h
                                   clear he_127
                                   refine then_n ⟨(s163_127).trans (by (first | rfl | (refine avb ?_; simp at *; done) | (refine avb ?_; simp at *; omega))), (s2_127).trans (s2_34).symm, (s3_127).trans (s3_34).symm, (s4_127).trans (s4_34).symm, (s7_127).trans (s7_34).symm, (s9_127).trans (s9_34).symm, rfl⟩))
                             ·(first | replace hq_124 := bnt hq_124 | replace hq_124 := bnf hq_124 | replace hq_124 := bt hq_124 | replace hq_124 := bf hq_124 | replace hq_124 := bt' hq_124 | replace hq_124 := bf' hq_124 | skip)
                              first
                              |(cases hq_124; done) | (exfalso; omega)
                              |(
                                refine al_skip' ⟨_, rfl, .inl hb_124⟩ rfl ?_
                                refine al_skip' ⟨_, rfl, .inl (up_m rfl hb_124)⟩ rfl ?_
                                refine al_ro' (ro_pickF (u2 rfl hb_124) ev_c) ⟨_, rfl, (up_m rfl (u4 rfl up_h))⟩ rfl ?_
                                refine al_ro' (ro_move up_h) ⟨_, rfl, (u2 rfl (u4 rfl up_h))⟩ rfl ?_
                                refine al_skip' ⟨_, rfl, .inl up_h⟩ rfl ?_
                                refine al_skip' ⟨_, rfl, .inl (up_m rfl up_h)⟩ rfl ?_
                                refine al_skip' ⟨_, rfl, .inl (u2 rfl up_h)⟩ rfl ?_
                                refine al_skip' ⟨_, rfl, .inl (up_m rfl (u2 rfl up_h))⟩ rfl ?_
                                refine al_skip' ⟨_, rfl, .inl (u4 rfl up_h)⟩ rfl ?_
                                refine al_skip' ⟨_, rfl, .inl (up_m rfl (u4 rfl up_h))⟩ rfl ?_
                                refine al_ro' (ro_pickF (u2 rfl (u4 rfl up_h)) ev_c) ⟨_, rfl, (up_m rfl (u4 rfl (u8 rfl up_h)))⟩ rfl ?_
                                refine al_ro' (ro_pickF (u2 rfl (u4 rfl (u8 rfl up_h))) up_h) trivial rfl ?_
                                refine al_end (fun e_128 he_128 => ?_)
                                have s2_128 := ef 2 he_128 (up_m rfl (u4 rfl (u16 rfl (u16 rfl (u16 rfl (u16 rfl s2_34))))))
                                have s3_128 := ef 3 he_128 (up_m rfl (u4 rfl (u16 rfl (u16 rfl (u16 rfl (u16 rfl s3_34))))))
                                have s4_128 := ef 4 he_128 (up_m rfl (u4 rfl (u16 rfl (u16 rfl (u16 rfl (u16 rfl s4_34))))))
                                have s7_128 := ef 7 he_128 (up_m rfl (u4 rfl (u16 rfl (u16 rfl (u16 rfl (u16 rfl s7_34))))))
                                have s9_128 := ef 9 he_128 (up_m rfl (u4 rfl (u16 rfl (u16 rfl (u16 rfl (u16 rfl s9_34))))))
                                have s163_128 := ef 163 he_128 up_h
                                clear he_128
                                refine then_n ⟨(s163_128).trans (by (first | rfl | (refine avb ?_; simp at *; done) | (refine avb ?_; simp at *; omega))), (s2_128).trans (s2_34).symm, (s3_128).trans (s3_34).symm, (s4_128).trans (s4_34).symm, (s7_128).trans (s7_34).symm, (s9_128).trans (s9_34).symm, rfl⟩)))))
               · rintro e_35 _ ⟨s163_35, k2_35, k3_35, k4_35, k7_35, k9_35, rfl⟩
                 have s2_35 := k2_35.trans s2_34
                 have s3_35 := k3_35.trans s3_34
                 have s4_35 := k4_35.trans s4_34
                 have s7_35 := k7_35.trans s7_34
                 have s9_35 := k9_35.trans s9_34
                 refine aw_case s163_35 (fun hq_129 => ?_) (fun hq_129 => ?_)
                 ·(first | replace hq_129 := bnt hq_129 | replace hq_129 := bnf hq_129 | replace hq_129 := bt hq_129 | replace hq_129 := bf hq_129 | replace hq_129 := bt' hq_129 | replace hq_129 := bf' hq_129 | skip)
                  first
                  |(cases hq_129; done) | (exfalso; omega)
                  |(
                    refine aw_seq ?_
                    refine aw_text (by kernel_rfl) ?_
                    refine al_ro' (ro_assign ev_c) trivial rfl ?_
                    refine al_end (fun e_130 he_130 => ?_)
                    have s6_130 := ef 6 he_130 up_h
                    clear he_130 s163_35 s2_35 s3_35 s4_35 s7_35 s9_35
                    refine then_n ?_
                    refine aw_ret ?_
                    refine then_r ?_
                    refine ret1 (.inr rfl) (by kernel_rfl) (resV_tmp s6_130) (.ro _ rfl) ?_
                    clear s6_130 mo2_2 mo1_2 mo0_2 ml_2
                    (first | rfl | (simp; done) | (exfalso; omega)))
                 ·(first | replace hq_129 := bnt hq_129 | replace hq_129 := bnf hq_129 | replace hq_129 := bt hq_129 | replace hq_129 := bf hq_129 | replace hq_129 := bt' hq_129 | replace hq_129 := bf' hq_129 | skip)
                  first
                  |(cases hq_129; done) | (exfalso; omega)
                  |(
                    refine aw_skip ?_
                    refine then_n ?_
                    refine aw_seq ?_
                    refine aw_text (by kernel_rfl) ?_
                    refine al_ro' (ro_eq (ro_ld_ptr h18_ty23 rfl mo1_2 s3_35 (by first | exact Nat.le_of_ble_eq_true rfl | omega | (simp only [lnS] <;> omega) | (simp <;> omega))) (by first | (simp only [packA_t, packA_f, iE, bE, setAt, cellsA, Value.cells, map_vc, map_vn, Nat.reduceAdd, qS, tE] <;> rfl) | rfl)) trivial rfl ?_
                    refine al_ro' (ro_move (up_m rfl s2_35)) trivial rfl ?_
                    refine al_ro' (ro_call (evL_cons (up_m rfl up_h) (evL_cons up_h evL_nil)) rfl ((sTurned_ok u z).mono (fun q h => h.trans (by rw [ht1.1, ht1.2]))) h18_hcf9) trivial rfl ?_
                    refine al_ro' (ro_move up_h) trivial rfl ?_
                    refine al_ro' (ro_extract up_h rfl) trivial rfl ?_
                    refine al_ro' (ro_extract (up_m rfl up_h) rfl) trivial rfl ?_
                    refine al_stm (st_alloc h18_az23 rfl ml_2) trivial rfl (fun m_131 hm_131 => ?_)
                    have mo3_131 := m_push hm_131 ml_2
                    (try simp only [packA_t, packA_f, iE, bE, setAt, cellsA, Value.cells, map_vc, map_vn, Nat.reduceAdd, qS, tE] at mo3_131)
                    have mo2_131 := m_push_o hm_131 mo2_2
                    have mo1_131 := m_push_o hm_131 mo1_2
                    have mo0_131 := m_push_o hm_131 mo0_2
                    have ml_131 := m_push_l hm_131 ml_2
                    have ml_131 : _ = 4 := ml_131
                    clear hm_131 mo2_2 mo1_2 mo0_2
                    refine al_stm (st_store up_h (u2 rfl up_h) rfl rfl mo3_131 h18_sz23 rfl (by first | exact Nat.le_of_ble_eq_true rfl | omega | (simp only [lnS] <;> omega) | (simp <;> omega))) trivial rfl (fun m_132 hm_132 => ?_)
                    have mo3_132 := m_set hm_132 mo3_131
                    (try simp only [packA_t, packA_f, iE, bE, setAt, cellsA, Value.cells, map_vc, map_vn, Nat.reduceAdd, qS, tE] at mo3_132)
                    have mo2_132 := m_set_o hm_132 mo2_131 (by decide)
                    have mo1_132 := m_set_o hm_132 mo1_131 (by decide)
                    have mo0_132 := m_set_o hm_132 mo0_131 (by decide)
                    have ml_132 := m_set_l hm_132 ml_131
                    clear hm_132 mo3_131 mo2_131 mo1_131 mo0_131
                    refine al_ro' (ro_assign (up_n (up_m rfl up_h))) trivial rfl ?_
                    refine al_end (fun e_133 he_133 => ?_)
                    have s2_133 := ef 2 he_133 (up_m rfl (up_n (up_m rfl (u2 rfl (u4 rfl s2_35)))))
                    have s4_133 := ef 4 he_133 (up_m rfl (up_n (up_m rfl (u2 rfl (u4 rfl s4_35)))))
                    have s7_133 := ef 7 he_133 (up_m rfl (up_n (up_m rfl (u2 rfl (u4 rfl s7_35)))))
                    have s9_133 := ef 9 he_133 (up_m rfl (up_n (up_m rfl (u2 rfl (u4 rfl s9_35)))))
                    have s14_133 := ef 14 he_133 (up_m rfl (up_n up_h))
                    have s15_133 := ef 15 he_133 up_h
                    clear he_133 s163_35 s2_35 s3_35 s4_35 s7_35 s9_35
                    refine then_n ?_
                    refine aw_seq ?_
                    refine aw_text (by kernel_rfl) ?_
                    refine al_ro' (ro_eq (ro_ld_ptr h18_ty23 rfl mo2_132 s4_133 (by first | exact Nat.le_of_ble_eq_true rfl | omega | (simp only [lnS] <;> omega) | (simp <;> omega))) (by first | (simp only [packA_t, packA_f, iE, bE, setAt, cellsA, Value.cells, map_vc, map_vn, Nat.reduceAdd, qS, tE] <;> rfl) | rfl)) trivial rfl ?_
                    refine al_ro' (ro_move (up_m rfl s2_133)) trivial rfl ?_
                    refine al_ro' (ro_call (evL_cons (up_m rfl up_h) (evL_cons up_h evL_nil)) rfl ((sTurned_ok f z).mono (fun q h => h.trans (by rw [ht2.1, ht2.2]))) h18_hcf9) trivial rfl ?_
                    refine al_ro' (ro_move up_h) trivial rfl ?_
                    refine al_ro' (ro_extract up_h rfl) trivial rfl ?_
                    refine al_ro' (ro_extract (up_m rfl up_h) rfl) trivial rfl ?_
                    refine al_stm (st_alloc h18_az23 rfl ml_132) trivial rfl (fun m_134 hm_134 => ?_)
                    have mo4_134 := m_push hm_134 ml_132
                    (try simp only [packA_t, packA_f, iE, bE, setAt, cellsA, Value.cells, map_vc, map_vn, Nat.reduceAdd, qS, tE] at mo4_134)
                    have mo3_134 := m_push_o hm_134 mo3_132
                    have mo2_134 := m_push_o hm_134 mo2_132
                    have mo1_134 := m_push_o hm_134 mo1_132
                    have mo0_134 := m_push_o hm_134 mo0_132
                    have ml_134 := m_push_l hm_134 ml_132
                    have ml_134 : _ = 5 := ml_134
                    clear hm_134 mo3_132 mo2_132 mo1_132 mo0_132
                    refine al_stm (st_store up_h (u2 rfl up_h) rfl rfl mo4_134 h18_sz23 rfl (by first | exact Nat.le_of_ble_eq_true rfl | omega | (simp only [lnS] <;> omega) | (simp <;> omega))) trivial rfl (fun m_135 hm_135 => ?_)
                    have mo4_135 := m_set hm_135 mo4_134
                    (try simp only [packA_t, packA_f, iE, bE, setAt, cellsA, Value.cells, map_vc, map_vn, Nat.reduceAdd, qS, tE] at mo4_135)
                    have mo3_135 := m_set_o hm_135 mo3_134 (by decide)
                    have mo2_135 := m_set_o hm_135 mo2_134 (by decide)
                    have mo1_135 := m_set_o hm_135 mo1_134 (by decide)
                    have mo0_135 := m_set_o hm_135 mo0_134 (by decide)
                    have ml_135 := m_set_l hm_135 ml_134
                    clear hm_135 mo4_134 mo3_134 mo2_134 mo1_134 mo0_134
                    refine al_ro' (ro_assign (up_n (up_m rfl up_h))) trivial rfl ?_
                    refine al_end (fun e_136 he_136 => ?_)
                    have s7_136 := ef 7 he_136 (up_m rfl (up_n (up_m rfl (u2 rfl (u4 rfl s7_133)))))
                    have s9_136 := ef 9 he_136 (up_m rfl (up_n (up_m rfl (u2 rfl (u4 rfl s9_133)))))
                    have s14_136 := ef 14 he_136 (up_m rfl (up_n (up_m rfl (u2 rfl (u4 rfl s14_133)))))
                    have s15_136 := ef 15 he_136 (up_m rfl (up_n (up_m rfl (u2 rfl (u4 rfl s15_133)))))
                    have s16_136 := ef 16 he_136 (up_m rfl (up_n up_h))
                    have s17_136 := ef 17 he_136 up_h
                    clear he_136 s14_133 s15_133 s2_133 s4_133 s7_133 s9_133
                    refine then_n ?_
                    refine aw_seq ?_
                    refine aw_seq ?_
                    refine aw_cut (fun e mem => (evA e (.tmp 181) = .v (.bool false)) ∧ (evA e (.tmp 7) = evA e_136 (.tmp 7)) ∧ (evA e (.tmp 9) = evA e_136 (.tmp 9)) ∧ (evA e (.tmp 14) = evA e_136 (.tmp 14)) ∧ (evA e (.tmp 16) = evA e_136 (.tmp 16)) ∧ m_135 = mem) ?_ ?_
                    ·
                      refine aw_text (by kernel_rfl) ?_
                      refine al_ro' (ro_move s15_136) trivial rfl ?_
                      refine al_ro' (ro_neq up_h ev_c) trivial rfl ?_
                      refine al_ro' (ro_move up_h) trivial rfl ?_
                      refine al_case up_h (fun hb_138 hq_138 => ?_) (fun hb_138 hq_138 => ?_)
                      ·(first | replace hq_138 := bnt hq_138 | replace hq_138 := bnf hq_138 | replace hq_138 := bt hq_138 | replace hq_138 := bf hq_138 | replace hq_138 := bt' hq_138 | replace hq_138 := bf' hq_138 | skip)
                       first
                       |(cases hq_138; done) | (exfalso; omega)
                       |(
                         refine al_skip' ⟨_, rfl, .inl hb_138⟩ rfl ?_
                         refine al_skip' ⟨_, rfl, .inl (up_m rfl hb_138)⟩ rfl ?_
                         refine al_ro' (ro_pickT (u2 rfl hb_138) ev_c) trivial rfl ?_
                         refine al_end (fun e_139 he_139 => ?_)
                         have s7_139 := ef 7 he_139 (u2 rfl (u4 rfl s7_136))
                         have s9_139 := ef 9 he_139 (u2 rfl (u4 rfl s9_136))
                         have s14_139 := ef 14 he_139 (u2 rfl (u4 rfl s14_136))
                         have s16_139 := ef 16 he_139 (u2 rfl (u4 rfl s16_136))
                         have s181_139 := ef 181 he_139 up_h
                         clear he_139
                         refine then_n ⟨(s181_139).trans (by (first | rfl | (refine avb ?_; simp at *; done))), (s7_139).trans (s7_136).symm, (s9_139).trans (s9_136).symm, (s14_139).trans (s14_136).symm, (s16_139).trans (s16_136).symm, rfl⟩)
                      ·(first | replace hq_138 := bnt hq_138 | replace hq_138 := bnf hq_138 | replace hq_138 := bt hq_138 | replace hq_138 := bf hq_138 | replace hq_138 := bt' hq_138 | replace hq_138 := bf' hq_138 | skip)
                       first
                       |(cases hq_138; done) | (exfalso; omega)
                       |(
                         refine al_ro' (ro_move (up_m rfl (u2 rfl s17_136))) ⟨_, rfl, hb_138⟩ rfl ?_
                         refine al_ro' (ro_neq up_h ev_c) ⟨_, rfl, (up_m rfl hb_138)⟩ rfl ?_
                         refine al_ro' (ro_pickF (u2 rfl hb_138) up_h) trivial rfl ?_
                         refine al_end (fun e_140 he_140 => ?_)
                         have s7_140 := ef 7 he_140 (u2 rfl (u4 rfl s7_136))
                         have s9_140 := ef 9 he_140 (u2 rfl (u4 rfl s9_136))
                         have s14_140 := ef 14 he_140 (u2 rfl (u4 rfl s14_136))
                         have s16_140 := ef 16 he_140 (u2 rfl (u4 rfl s16_136))
                         have s181_140 := ef 181 he_140 up_h
                         clear he_140
                         refine then_n ⟨(s181_140).trans (by (first | rfl | (refine avb ?_; simp at *; done))), (s7_140).trans (s7_136).symm, (s9_140).trans (s9_136).symm, (s14_140).trans (s14_136).symm, (s16_140).trans (s16_136).symm, rfl⟩)
                    · rintro e_137 _ ⟨s181_137, k7_137, k9_137, k14_137, k16_137, rfl⟩
                      have s7_137 := k7_137.trans s7_136
                      have s9_137 := k9_137.trans s9_136
                      have s14_137 := k14_137.trans s14_136
                      have s16_137 := k16_137.trans s16_136
                      refine aw_case s181_137 (fun hq_141 => ?_) (fun hq_141 => ?_)
                      ·(first | replace hq_141 := bnt hq_141 | replace hq_141 := bnf hq_141 | replace hq_141 := bt hq_141 | replace hq_141 := bf hq_141 | replace hq_141 := bt' hq_141 | replace hq_141 := bf' hq_141 | skip)
                       first
                       |(cases hq_141; done) | (exfalso; omega)
                       |(
                         refine aw_seq ?_
                         refine aw_text (by kernel_rfl) ?_
                         refine al_ro' (ro_assign ev_c) trivial rfl ?_
                         refine al_end (fun e_142 he_142 => ?_)
                         have s6_142 := ef 6 he_142 up_h
                         clear he_142 s14_137 s16_137 s181_137 s7_137 s9_137
                         refine then_n ?_
                         refine aw_ret ?_
                         refine then_r ?_
                         refine ret1 (.inr rfl) (by kernel_rfl) (resV_tmp s6_142) (.ro _ rfl) ?_
                         clear s6_142 mo4_135 mo3_135 mo2_135 mo1_135 mo0_135 ml_135
                         (first | rfl | (simp; done) | (exfalso; omega)))
                      ·(first | replace hq_141 := bnt hq_141 | replace hq_141 := bnf hq_141 | replace hq_141 := bt hq_141 | replace hq_141 := bf hq_141 | replace hq_141 := bt' hq_141 | replace hq_141 := bf' hq_141 | skip)
                       first
                       |(cases hq_141; done) | (exfalso; omega)
                       |(
                         refine aw_skip ?_
                         refine then_n ?_
                         refine aw_seq ?_
                         refine aw_text (by kernel_rfl) ?_
                         refine al_ro' (ro_eq (ro_ld_ptr h18_ty23 rfl mo3_135 s14_137 (by first | exact Nat.le_of_ble_eq_true rfl | omega | (simp only [lnS] <;> omega) | (simp <;> omega))) (by first | (simp only [packA_t, packA_f, iE, bE, setAt, cellsA, Value.cells, map_vc, map_vn, Nat.reduceAdd, qS, tE] <;> rfl) | rfl)) trivial rfl ?_
                         refine al_ro' (ro_eq (ro_ld_ptr h18_ty23 rfl mo4_135 (up_m rfl s16_137) (by first | exact Nat.le_of_ble_eq_true rfl | omega | (simp only [lnS] <;> omega) | (simp <;> omega))) (by first | (simp only [packA_t, packA_f, iE, bE, setAt, cellsA, Value.cells, map_vc, map_vn, Nat.reduceAdd, qS, tE] <;> rfl) | rfl)) trivial rfl ?_
                         refine al_ro' (ro_call (evL_cons (up_m rfl up_h) (evL_cons up_h evL_nil)) rfl ((forceOf_ok (turnV u z) (turnV f z) ((turnV_bd hu z).mono (by decide)) ((turnV_bd hf z).mono (by decide))).mono (fun q h => h.trans (by rw [prod_turn]))) h18_hcf6) trivial rfl ?_
                         refine al_ro' (ro_move up_h) trivial rfl ?_
                         refine al_ro' (ro_extract up_h rfl) trivial rfl ?_
                         refine al_ro' (ro_extract (up_m rfl up_h) rfl) trivial rfl ?_
                         refine al_ro' (ro_assign (up_m rfl up_h)) trivial rfl ?_
                         refine al_ro' (ro_assign (up_m rfl up_h)) trivial rfl ?_
                         refine al_end (fun e_143 he_143 => ?_)
                         have s7_143 := ef 7 he_143 (u8 rfl s7_137)
                         have s9_143 := ef 9 he_143 (u8 rfl s9_137)
                         have s14_143 := ef 14 he_143 (u8 rfl s14_137)
                         have s16_143 := ef 16 he_143 (u8 rfl s16_137)
                         have s18_143 := ef 18 he_143 (up_m rfl up_h)
                         have s19_143 := ef 19 he_143 up_h
                         clear he_143 s14_137 s16_137 s181_137 s7_137 s9_137
                         refine then_n ?_
                         refine aw_seq ?_
                         refine aw_text (by kernel_rfl) ?_
                         refine al_ro' (ro_eq (ro_ld_ptr h18_ty23 rfl mo3_135 s14_143 (by first | exact Nat.le_of_ble_eq_true rfl | omega | (simp only [lnS] <;> omega) | (simp <;> omega))) (by first | (simp only [packA_t, packA_f, iE, bE, setAt, cellsA, Value.cells, map_vc, map_vn, Nat.reduceAdd, qS, tE] <;> rfl) | rfl)) trivial rfl ?_
                         refine al_ro' (ro_eq (ro_ld_ptr h18_ty23 rfl mo4_135 (up_m rfl s16_143) (by first | exact Nat.le_of_ble_eq_true rfl | omega | (simp only [lnS] <;> omega) | (simp <;> omega))) (by first | (simp only [packA_t, packA_f, iE, bE, setAt, cellsA, Value.cells, map_vc, map_vn, Nat.reduceAdd, qS, tE] <;> rfl) | rfl)) trivial rfl ?_
                         refine al_ro' (ro_call (evL_cons (up_m rfl up_h) (evL_cons up_h evL_nil)) rfl ((marginOf_ok (turnV u z) (turnV f z) ((turnV_bd hu z).mono (by decide)) ((turnV_bd hf z).mono (by decide))).mono (fun q h => h.trans (by rw [prod_turn]))) h18_hcf7) trivial rfl ?_
                         refine al_ro' (ro_move up_h) trivial rfl ?_
                         refine al_ro' (ro_extract up_h rfl) trivial rfl ?_
                         refine al_ro' (ro_extract (up_m rfl up_h) rfl) trivial rfl ?_
                         refine al_ro' (ro_assign (up_m rfl up_h)) trivial rfl ?_
                         refine al_ro' (ro_assign (up_m rfl up_h)) trivial rfl ?_
                         refine al_end (fun e_144 he_144 => ?_)
                         have s7_144 := ef 7 he_144 (u8 rfl s7_143)
                         have s9_144 := ef 9 he_144 (u8 rfl s9_143)
                         have s18_144 := ef 18 he_144 (u8 rfl s18_143)
                         have s19_144 := ef 19 he_144 (u8 rfl s19_143)
                         have s20_144 := ef 20 he_144 (up_m rfl up_h)
                         have s21_144 := ef 21 he_144 up_h
                         clear he_144 s14_143 s16_143 s18_143 s19_143 s7_143 s9_143
                         refine then_n ?_
                         refine aw_seq ?_
                         refine aw_text (by kernel_rfl) ?_
                         refine al_ro' (ro_move s19_144) trivial rfl ?_
                         refine al_ro' (ro_eql up_h ev_c) trivial rfl ?_
                         refine al_ro' (ro_move up_h) trivial rfl ?_
                         refine al_case up_h (fun hb_145 hq_145 => ?_) (fun hb_145 hq_145 => ?_)
                         ·(first | replace hq_145 := bnt hq_145 | replace hq_145 := bnf hq_145 | replace hq_145 := bt hq_145 | replace hq_145 := bf hq_145 | replace hq_145 := bt' hq_145 | replace hq_145 := bf' hq_145 | skip)
                          first
                          |(cases hq_145; done) | (exfalso; omega)
                          |(
                            refine al_ro' (ro_move (up_m rfl (u2 rfl s21_144))) ⟨_, rfl, hb_145⟩ rfl ?_
                            refine al_ro' (ro_eql up_h ev_c) ⟨_, rfl, (up_m rfl hb_145)⟩ rfl ?_
                            refine al_ro' (ro_pickT (u2 rfl hb_145) up_h) trivial rfl ?_
                            refine al_ro' (ro_move up_h) trivial rfl ?_
                            refine al_case up_h (fun hb_146 hq_146 => ?_) (fun hb_146 hq_146 => ?_)
                            ·(first | replace hq_146 := bnt hq_146 | replace hq_146 := bnf hq_146 | replace hq_146 := bt hq_146 | replace hq_146 := bf hq_146 | replace hq_146 := bt' hq_146 | replace hq_146 := bf' hq_146 | skip)
                             first
                             |(cases hq_146; done) | (exfalso; omega)
                             |(
                               refine al_ro' (ro_move (up_m rfl (u2 rfl (u4 rfl s18_144)))) ⟨_, rfl, hb_146⟩ rfl ?_
                               refine al_ro' (ro_move (u8 rfl s7_144)) ⟨_, rfl, (up_m rfl hb_146)⟩ rfl ?_
                               refine al_ro' (ro_eql (up_m rfl up_h) up_h) ⟨_, rfl, (u2 rfl hb_146)⟩ rfl ?_
                               refine al_ro' (ro_pickT (up_m rfl (u2 rfl hb_146)) up_h) trivial rfl ?_
                               refine al_ro' (ro_move up_h) trivial rfl ?_
                               refine al_case up_h (fun hb_147 hq_147 => ?_) (fun hb_147 hq_147 => ?_)
                               ·(first | replace hq_147 := bnt hq_147 | replace hq_147 := bnf hq_147 | replace hq_147 := bt hq_147 | replace hq_147 := bf hq_147 | replace hq_147 := bt' hq_147 | replace hq_147 := bf' hq_147 | skip)
                                first
                                |(cases hq_147; done) | (exfalso; omega)
                                |(
                                  refine al_ro' (ro_move (u4 rfl (u8 rfl s20_144))) ⟨_, rfl, hb_147⟩ rfl ?_
                                  refine al_ro' (ro_move (up_m rfl (u4 rfl (u8 rfl s9_144)))) ⟨_, rfl, (up_m rfl hb_147)⟩ rfl ?_
                                  refine al_ro' (ro_eql (up_m rfl up_h) up_h) ⟨_, rfl, (u2 rfl hb_147)⟩ rfl ?_
                                  refine al_ro' (ro_pickT (up_m rfl (u2 rfl hb_147)) up_h) trivial rfl ?_
                                  refine al_ro' (ro_assign up_h) trivial rfl ?_
                                  refine al_end (fun e_148 he_148 => ?_)
                                  have s6_148 := ef 6 he_148 up_h
                                  clear he_148 hb_145 hb_146 hb_147 s18_144 s19_144 s20_144 s21_144 s7_144 s9_144
                                  refine then_n ?_
                                  refine aw_ret ?_
                                  refine ret1 (.inr rfl) (by kernel_rfl) (resV_tmp s6_148) (.ro _ rfl) ?_
                                  clear s6_148 mo4_135 mo3_135 mo2_135 mo1_135 mo0_135 ml_135
                                  (first | rfl | (simp; done) | (exfalso; omega)))
                               ·(first | replace hq_147 := bnt hq_147 | replace hq_147 := bnf hq_147 | replace hq_147 := bt hq_147 | replace hq_147 := bf hq_147 | replace hq_147 := bt' hq_147 | replace hq_147 := bf' hq_147 | skip)
                                first
                                |(cases hq_147; done) | (exfalso; omega)
                                |(
                                  refine al_skip' ⟨_, rfl, .inl hb_147⟩ rfl ?_
                                  refine al_skip' ⟨_, rfl, .inl (up_m rfl hb_147)⟩ rfl ?_
                                  refine al_skip' ⟨_, rfl, .inl (u2 rfl hb_147)⟩ rfl ?_
                                  refine al_ro' (ro_pickF (up_m rfl (u2 rfl hb_147)) ev_c) trivial rfl ?_
                                  refine al_ro' (ro_assign up_h) trivial rfl ?_
                                  refine al_end (fun e_149 he_149 => ?_)
                                  have s6_149 := ef 6 he_149 up_h
                                  clear he_149 hb_145 hb_146 hb_147 s18_144 s19_144 s20_144 s21_144 s7_144 s9_144
                                  refine then_n ?_
                                  refine aw_ret ?_
                                  refine ret1 (.inr rfl) (by kernel_rfl) (resV_tmp s6_149) (.ro _ rfl) ?_
                                  clear s6_149 mo4_135 mo3_135 mo2_135 mo1_135 mo0_135 ml_135
                                  (first | rfl | (simp; done) | (exfalso; omega))))
                            ·(first | replace hq_146 := bnt hq_146 | replace hq_146 := bnf hq_146 | replace hq_146 := bt hq_146 | replace hq_146 := bf hq_146 | replace hq_146 := bt' hq_146 | replace hq_146 := bf' hq_146 | skip)
                             first
                             |(cases hq_146; done) | (exfalso; omega)
                             |(
                               refine al_skip' ⟨_, rfl, .inl hb_146⟩ rfl ?_
                               refine al_skip' ⟨_, rfl, .inl (up_m rfl hb_146)⟩ rfl ?_
                               refine al_skip' ⟨_, rfl, .inl (u2 rfl hb_146)⟩ rfl ?_
                               refine al_ro' (ro_pickF (up_m rfl (u2 rfl hb_146)) ev_c) trivial rfl ?_
                               refine al_ro' (ro_move up_h) trivial rfl ?_
                               refine al_skip' ⟨_, rfl, .inl up_h⟩ rfl ?_
                               refine al_skip' ⟨_, rfl, .inl (up_m rfl up_h)⟩ rfl ?_
                               refine al_skip' ⟨_, rfl, .inl (u2 rfl up_h)⟩ rfl ?_
                               refine al_ro' (ro_pickF (up_m rfl (u2 rfl up_h)) ev_c) trivial rfl ?_
                               refine al_ro' (ro_assign up_h) trivial rfl ?_
                               refine al_end (fun e_150 he_150 => ?_)
                               have s6_150 := ef 6 he_150 up_h
                               clear he_150 hb_145 hb_146 s18_144 s19_144 s20_144 s21_144 s7_144 s9_144
                               refine then_n ?_
                               refine aw_ret ?_
                               refine ret1 (.inr rfl) (by kernel_rfl) (resV_tmp s6_150) (.ro _ rfl) ?_
                               clear s6_150 mo4_135 mo3_135 mo2_135 mo1_135 mo0_135 ml_135
                               (first | rfl | (simp; done) | (exfalso; omega))))
                         ·(first | replace hq_145 := bnt hq_145 | replace hq_145 := bnf hq_145 | replace hq_145 := bt hq_145 | replace hq_145 := bf hq_145 | replace hq_145 := bt' hq_145 | replace hq_145 := bf' hq_145 | skip)
                          first
                          |(cases hq_145; done) | (exfalso; omega)
                          |(
                            refine al_skip' ⟨_, rfl, .inl hb_145⟩ rfl ?_
                            refine al_skip' ⟨_, rfl, .inl (up_m rfl hb_145)⟩ rfl ?_
                            refine al_ro' (ro_pickF (u2 rfl hb_145) ev_c) trivial rfl ?_
                            refine al_ro' (ro_move up_h) trivial rfl ?_
                            refine al_skip' ⟨_, rfl, .inl up_h⟩ rfl ?_
                            refine al_skip' ⟨_, rfl, .inl (up_m rfl up_h)⟩ rfl ?_
                            refine al_skip' ⟨_, rfl, .inl (u2 rfl up_h)⟩ rfl ?_
                            refine al_ro' (ro_pickF (up_m rfl (u2 rfl up_h)) ev_c) trivial rfl ?_
                            refine al_ro' (ro_move up_h) trivial rfl ?_
                            refine al_skip' ⟨_, rfl, .inl up_h⟩ rfl ?_
                            refine al_skip' ⟨_, rfl, .inl (up_m rfl up_h)⟩ rfl ?_
                            refine al_skip' ⟨_, rfl, .inl (u2 rfl up_h)⟩ rfl ?_
                            refine al_ro' (ro_pickF (up_m rfl (u2 rfl up_h)) ev_c) trivial rfl ?_
                            refine al_ro' (ro_assign up_h) trivial rfl ?_
                            refine al_end (fun e_151 he_151 => ?_)
                            have s6_151 := ef 6 he_151 up_h
                            clear he_151 hb_145 s18_144 s19_144 s20_144 s21_144 s7_144 s9_144
                            refine then_n ?_
                            refine aw_ret ?_
                            refine ret1 (.inr rfl) (by kernel_rfl) (resV_tmp s6_151) (.ro _ rfl) ?_
                            clear s6_151 mo4_135 mo3_135 mo2_135 mo1_135 mo0_135 ml_135
                            (first | rfl | (simp; done) | (exfalso; omega))))))))
end Go.Proofs.YtnblahgocddpbaaDoor
