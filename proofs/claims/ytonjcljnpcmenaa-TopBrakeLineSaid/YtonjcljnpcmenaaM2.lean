/- Texts of this claim, one behind the other: lemmas for the statement. -/
import Derived.Test.YtonjcljnpcmenaaT0
import Derived.Test.YtonjcljnpcmenaaY1
/- Contracts of chapter 1: the checks of a line, one by one. No conditions on a program. -/
namespace Go.Proofs.Ytonjcljnpcmenaa
open Go Go.RowKit Go.Proofs
set_option linter.unusedSimpArgs false
set_option linter.unusedVariables false
theorem y2_hcf106 : ∀ args w, (callFunc 106 args).run Try.prog w = .ok (.enter 106 args) w := fun _ _ => by kernel_rfl
theorem y2_sl185 : SlIs Try.prog 185 34 1 8 (.int .i64 0) := ⟨by kernel_rfl, by kernel_rfl, by kernel_rfl⟩
theorem y2_sl22 : SlIs Try.prog 22 70 4 32 (.agg #[.int .i64 0, .int .i64 0, .int .i64 0, .int .i64 0]) := ⟨by kernel_rfl, by kernel_rfl, by kernel_rfl⟩
theorem y2_sl23 : SlIs Try.prog 23 87 2 16 (.agg #[.int .i64 0, .int .i64 0]) := ⟨by kernel_rfl, by kernel_rfl, by kernel_rfl⟩
theorem y2_ty206 : TyIs Try.prog 206 true 3 := ⟨by kernel_rfl, by kernel_rfl⟩
theorem y2_ty22 : TyIs Try.prog 22 false 1 := ⟨by kernel_rfl, by kernel_rfl⟩
theorem y2_ty23 : TyIs Try.prog 23 false 1 := ⟨by kernel_rfl, by kernel_rfl⟩
theorem y2_ty3 : TyIs Try.prog 3 false 1 := ⟨by kernel_rfl, by kernel_rfl⟩
theorem y2_ty34 : TyIs Try.prog 34 false 1 := ⟨by kernel_rfl, by kernel_rfl⟩
theorem y2_ty70 : TyIs Try.prog 70 true 4 := ⟨by kernel_rfl, by kernel_rfl⟩
theorem y2_ty87 : TyIs Try.prog 87 true 2 := ⟨by kernel_rfl, by kernel_rfl⟩

theorem avj {a b : Int} (h : a = b) : AV.v (.int .i64 a) = .v (.int .i64 b) := by rw [h]
abbrev lnC (l : Lin) : List AV := [.v (.string l.nam), .row 4 (l.js.map jnE), .row 2 (l.bs.map beE), .row 3 (l.ss.map swE)]
set_option maxRecDepth 100000 in
set_option maxHeartbeats 1000000 in
theorem yWithin_ok (n lo hi : Int) : FnOk Try.prog 97 [mA n, mA lo, mA hi] (fun q => q = tbA (withinB n lo hi)) := by
  refine fnOk_of (fn := Try.f97) 15 (by kernel_rfl) rfl (by kernel_rfl) (Nat.le_of_ble_eq_true rfl) ?_
  intro e_0 m_0 hA hm_0
  have s0_0 : evA e_0 (.tmp 0) = _ := hA 0 _ rfl
  have s1_0 : evA e_0 (.tmp 1) = _ := hA 1 _ rfl
  have s2_0 : evA e_0 (.tmp 2) = _ := hA 2 _ rfl
  have ml_0 : m_0.length = 0 := by rw [hm_0]; rfl
  clear hA hm_0
  refine aw_seq <| at_ <| ar (ro_assign ev_c) rfl <| ae3 (up_m rfl s0_0) (up_m rfl s1_0) (up_m rfl s2_0) ?_; clear s0_0 s1_0 s2_0; intro e_1 s0_1 s1_1 s2_1
  refine then_n <| aw_seq <| at_ <| ar (ro_move s1_1) rfl <| ar (ro_move (up_m rfl s0_1)) rfl <| ar (ro_leq (up_m rfl up_h) up_h) rfl <| ar (ro_move up_h) rfl <| al_case up_h (fun hb_2 hq_2 => ?_) (fun hb_2 hq_2 => ?_)
  ·replace hq_2 := bt hq_2
   refine al_ro' (ro_move (u4 rfl s0_1)) ⟨_, rfl, hb_2⟩ rfl ?_
   refine al_ro' (ro_move (up_m rfl (u4 rfl s2_1))) ⟨_, rfl, (up_m rfl hb_2)⟩ rfl ?_
   refine al_ro' (ro_leq (up_m rfl up_h) up_h) ⟨_, rfl, (u2 rfl hb_2)⟩ rfl ?_
   refine ar (ro_pickT (up_m rfl (u2 rfl hb_2)) up_h) rfl <| ar (ro_assign up_h) rfl <| ae1 up_h ?_; clear hb_2 s0_1 s1_1 s2_1; intro e_3 s6_3
   refine then_n <| aw_ret <| ret1 (.inr rfl) (by kernel_rfl) (resV_tmp s6_3) (.ro _ rfl) ?_
   clear s6_3  ml_0
   (first | rfl | (simp [withinB, *]; done) | (simp [withinB, *] <;> omega) | (simp_all [withinB]; done) | (simp_all [withinB] <;> omega))
  replace hq_2 := bf hq_2
  refine al_skip' ⟨_, rfl, .inl hb_2⟩ rfl ?_
  refine al_skip' ⟨_, rfl, .inl (up_m rfl hb_2)⟩ rfl ?_
  refine al_skip' ⟨_, rfl, .inl (u2 rfl hb_2)⟩ rfl ?_
  refine ar (ro_pickF (up_m rfl (u2 rfl hb_2)) ev_c) rfl <| ar (ro_assign up_h) rfl <| ae1 up_h ?_; clear hb_2 s0_1 s1_1 s2_1; intro e_4 s6_4
  refine then_n <| aw_ret <| ret1 (.inr rfl) (by kernel_rfl) (resV_tmp s6_4) (.ro _ rfl) ?_
  clear s6_4  ml_0
  (first | rfl | (simp [withinB, *]; done) | (simp [withinB, *] <;> omega) | (simp_all [withinB]; done) | (simp_all [withinB] <;> omega))
set_option maxRecDepth 100000 in
set_option maxHeartbeats 1000000 in
theorem ySmall_ok (n m : Int) (hm : -1000000000 ≤ m ∧ m ≤ 1000000000) : FnOk Try.prog 106 [mA n, mA m] (fun q => q = tbA (smaB n m)) := by
  refine fnOk_of (fn := Try.f106) 10 (by kernel_rfl) rfl (by kernel_rfl) (Nat.le_of_ble_eq_true rfl) ?_
  intro e_0 m_0 hA hm_0
  have s0_0 : evA e_0 (.tmp 0) = _ := hA 0 _ rfl
  have s1_0 : evA e_0 (.tmp 1) = _ := hA 1 _ rfl
  have ml_0 : m_0.length = 0 := by rw [hm_0]; rfl
  clear hA hm_0
  refine aw_seq <| at_ <| ar (ro_assign ev_c) rfl <| ae2 (up_m rfl s0_0) (up_m rfl s1_0) ?_; clear s0_0 s1_0; intro e_1 s0_1 s1_1
  refine then_n <| aw_seq <| at_ <| ar (ro_move s0_1) rfl <| ar (ro_move (up_m rfl s1_1)) rfl ?_
  (refine ar (ro_neg' up_h ?_) rfl ?_; · (unfold In64; omega))
  refine ar (ro_move (up_m rfl (u2 rfl s1_1))) rfl <| ar (ro_call (evL_cons (up_m rfl (u2 rfl up_h)) (evL_cons (up_m rfl up_h) (evL_cons up_h evL_nil))) rfl (yWithin_ok _ _ _) qhcf97) rfl <| ar (ro_assign up_h) rfl <| ae1 up_h ?_; clear s0_1 s1_1; intro e_2 s4_2
  refine then_n <| aw_ret <| ret1 (.inr rfl) (by kernel_rfl) (resV_tmp s4_2) (.ro _ rfl) ?_
  clear s4_2  ml_0
  rfl
set_option maxRecDepth 100000 in
set_option maxHeartbeats 1000000 in
theorem isAcross_ok (n : Int) : FnOk Try.prog 176 [mA n] (fun q => q = tbA (smaB n 20000)) := by
  refine fnOk_of (fn := Try.f176) 5 (by kernel_rfl) rfl (by kernel_rfl) (Nat.le_of_ble_eq_true rfl) ?_
  intro e_0 m_0 hA hm_0
  have s0_0 : evA e_0 (.tmp 0) = _ := hA 0 _ rfl
  have ml_0 : m_0.length = 0 := by rw [hm_0]; rfl
  clear hA hm_0
  refine aw_seq <| at_ <| ar (ro_assign ev_c) rfl <| ae1 (up_m rfl s0_0) ?_; clear s0_0; intro e_1 s0_1
  refine then_n <| aw_seq <| at_ <| ar (ro_move s0_1) rfl <| ar (ro_call (evL_cons up_h (evL_cons ev_c evL_nil)) rfl (ySmall_ok _ _ (by decide)) y2_hcf106) rfl ?_
  refine ar (ro_assign up_h) rfl <| ae1 up_h ?_; clear s0_1; intro e_2 s2_2
  refine then_n <| aw_ret <| ret1 (.inr rfl) (by kernel_rfl) (resV_tmp s2_2) (.ro _ rfl) ?_
  clear s2_2  ml_0
  rfl
set_option maxRecDepth 100000 in
set_option maxHeartbeats 1000000 in
theorem yUnless_ok (ok : Bool) (e : Int) : FnOk Try.prog 94 [tbA ok, mA e] (fun q => q = mA (unlessE ok e)) := by
  refine fnOk_of (fn := Try.f94) 7 (by kernel_rfl) rfl (by kernel_rfl) (Nat.le_of_ble_eq_true rfl) ?_
  intro e_0 m_0 hA hm_0
  have s0_0 : evA e_0 (.tmp 0) = _ := hA 0 _ rfl
  have s1_0 : evA e_0 (.tmp 1) = _ := hA 1 _ rfl
  have ml_0 : m_0.length = 0 := by rw [hm_0]; rfl
  clear hA hm_0
  refine aw_seq <| at_ <| ar (ro_assign ev_c) rfl <| ae2 (up_m rfl s0_0) (up_m rfl s1_0) ?_; clear s0_0 s1_0; intro e_1 s0_1 s1_1
  refine then_n <| aw_seq <| aw_seq <| at_ <| ar (ro_move s0_1) rfl <| ae2 (up_m rfl s1_1) up_h ?_; clear s0_1 s1_1; intro e_2 s1_2 s5_2
  refine then_n <| aw_case s5_2 (fun hq_3 => ?_) (fun hq_3 => ?_)
  ·skip
   refine aw_seq <| at_ <| ar (ro_assign ev_c) rfl <| ae1 up_h ?_; clear s1_2 s5_2; intro e_4 s4_4
   refine then_n <| aw_ret <| then_r <| ret1 (.inr rfl) (by kernel_rfl) (resV_tmp s4_4) (.ro _ rfl) ?_
   clear s4_4  ml_0
   (first | rfl | (simp [unlessE, *]; done) | (simp [unlessE, *] <;> omega) | (simp_all [unlessE]; done) | (simp_all [unlessE] <;> omega))
  refine aw_skip <| then_n <| aw_seq <| at_ <| ar (ro_move s1_2) rfl <| ar (ro_assign up_h) rfl <| ae1 up_h ?_; clear s1_2 s5_2; intro e_5 s4_5
  refine then_n <| aw_ret <| ret1 (.inr rfl) (by kernel_rfl) (resV_tmp s4_5) (.ro _ rfl) ?_
  clear s4_5  ml_0
  (first | rfl | (simp [unlessE, *]; done) | (simp [unlessE, *] <;> omega) | (simp_all [unlessE]; done) | (simp_all [unlessE] <;> omega))
set_option maxRecDepth 100000 in
set_option maxHeartbeats 1000000 in
theorem yFirst_ok (l : List Int) (hl : l.length ≤ 1000) : FnOk Try.prog 77 [.row 1 (l.map iE)] (fun q => q = mA (firstE l)) := by
  refine fnOk_of (fn := Try.f77) 15 (by kernel_rfl) rfl (by kernel_rfl) (Nat.le_of_ble_eq_true rfl) ?_
  intro e_0 m_0 hA hm_0
  have s0_0 : evA e_0 (.tmp 0) = _ := hA 0 _ rfl
  have ml_0 : m_0.length = 0 := by rw [hm_0]; rfl
  clear hA hm_0
  refine aw_seq <| at_ <| ar (ro_assign ev_c) rfl <| ae1 (up_m rfl s0_0) ?_; clear s0_0; intro e_1 s0_1
  refine then_n <| aw_seq <| aw_seq <| at_ <| ar (ro_move s0_1) rfl <| ar (ro_eq (ro_len_row up_h rfl y2_sl185.1) (by simp only [lnS] <;> rfl)) rfl ?_
  refine ar (ro_move ev_c) rfl <| ae3 (u2 rfl up_h) (up_m rfl up_h) up_h ?_; clear s0_1; intro e_2 s5_2 s6_2 s7_2
  refine then_n <| aw_block <| aw_loop (S := Int) (fun i e mem => (evA e (.tmp 7) = .v (.int .i64 i)) ∧ (evA e (.tmp 5) = evA e_2 (.tmp 5)) ∧ (evA e (.tmp 6) = evA e_2 (.tmp 6)) ∧ (mem.length = 0) ∧ ((0 ≤ i ∧ i ≤ l.length ∧ firstE (l.drop i.toNat) = firstE l))) (fun i => (l.length - i).toNat) _ ⟨s7_2, rfl, rfl, ml_0, ?_⟩ ?_
  · exact ⟨by omega, by omega, rfl⟩
  · rintro i e_3 m_3 ⟨s7_3, k5_3, k6_3, ml_3, hinv⟩
    have s5_3 := k5_3.trans s5_2
    have s6_3 := k6_3.trans s6_2
    refine aw_seq <| at_ <| ar (ro_lss s7_3 s6_3) rfl <| ae4 (up_m rfl s5_3) (up_m rfl s6_3) (up_m rfl s7_3) up_h ?_; clear s5_3 s6_3 s7_3; intro e_4 s5_4 s6_4 s7_4 s8_4
    refine then_n <| aw_seq <| aw_case s8_4 (fun hq_5 => ?_) (fun hq_5 => ?_)
    ·replace hq_5 := bt hq_5
     refine aw_skip <| then_n <| aw_seq <| aw_block <| aw_seq <| at_ <| ar (ro_eq (ro_ix y2_sl185 s5_4 s7_4 (by omega) (by first | (refine idx_map ?_; first | omega | (simp only [lnS]; omega)) | (refine idx_mapI ?_; first | omega | (simp only [lnS]; omega)) | (refine idx_mapN ?_; first | omega | (simp only [lnS]; omega)) | rfl)) (by simp only [pS, Value.cells, Nat.reduceAdd] <;> rfl)) rfl ?_
     refine ar (ro_eq (ro_ld_ref y2_ty34 rfl up_h (nle rfl)) (by simp only [pS, Value.cells, Nat.reduceAdd] <;> rfl)) rfl ?_
     refine ar (ro_assign up_h) rfl <| ae4 up_h (up_m rfl (u2 rfl s5_4)) (up_m rfl (u2 rfl s6_4)) (up_m rfl (u2 rfl s7_4)) ?_; clear s5_4 s6_4 s7_4 s8_4; intro e_6 s4_6 s5_6 s6_6 s7_6
     refine then_n <| aw_seq <| at_ <| ar (ro_move s4_6) rfl <| ar (ro_neq up_h ev_c) rfl <| ae5 (u2 rfl s4_6) (u2 rfl s5_6) (u2 rfl s6_6) (u2 rfl s7_6) up_h ?_; clear s4_6 s5_6 s6_6 s7_6; intro e_7 s4_7 s5_7 s6_7 s7_7 s12_7
     refine then_n <| aw_case s12_7 (fun hq_8 => ?_) (fun hq_8 => ?_)
     ·replace hq_8 := bnt hq_8
      refine aw_seq <| at_ <| ar (ro_move s4_7) rfl <| ar (ro_assign up_h) rfl <| ae1 up_h ?_; clear s12_7 s4_7 s5_7 s6_7 s7_7; intro e_9 s2_9
      refine then_n <| aw_ret <| block_r <| then_r <| then_r <| block_r <| then_r <| ret1 (.inr rfl) (by kernel_rfl) (resV_tmp s2_9) (.ro _ rfl) ?_
      clear s2_9  ml_3
      obtain ⟨h1, h2, h3⟩ := hinv; rw [← h3, firstE_drop (i := i.toNat) (by omega), if_neg (by assumption)]; rfl
     replace hq_8 := bnf hq_8
     refine aw_skip <| block_n <| then_n <| at_ ?_
     (refine ar (ro_add' s7_7 ev_c ?_) rfl ?_; · (unfold In64; omega))
     refine ar (ro_move up_h) rfl <| ae3 (u2 rfl s5_7) (u2 rfl s6_7) up_h ?_; clear s12_7 s4_7 s5_7 s6_7 s7_7; intro e_10 s5_10 s6_10 s7_10
     refine then_n <| ⟨_, ⟨s7_10, (s5_10.trans s5_2.symm), (s6_10.trans s6_2.symm), ml_3, ?_⟩, ?_⟩
     · (obtain ⟨h1, h2, h3⟩ := hinv; refine ⟨by omega, by omega, ?_⟩; rw [← h3, firstE_drop (i := i.toNat) (by omega), if_pos (by assumption)]; congr 2; omega)
     · ((try dsimp only); omega)
    replace hq_5 := bf hq_5
    refine aw_exit <| then_x <| then_x <| block_hit <| then_n <| aw_seq <| at_ <| ar (ro_assign ev_c) rfl <| ae1 up_h ?_; clear s5_4 s6_4 s7_4 s8_4; intro e_11 s2_11
    refine then_n <| aw_ret <| ret1 (.inr rfl) (by kernel_rfl) (resV_tmp s2_11) (.ro _ rfl) ?_
    clear s2_11  ml_3
    obtain ⟨h1, h2, h3⟩ := hinv; rw [← h3, List.drop_eq_nil_of_le (by omega)]; rfl
/-! ### Closures -/
abbrev itC (e : Int) : AV := .clo (.func 171) [] [.ref [mA e]]
abbrev eaC (k n : Int) (look : AV) : AV := .clo (.func 173) [] [.ref [mA n], .ref [look], .ref [mA k]]
abbrev fuA (k n e : Int) : AV := .agg [mA k, mA n, mA e]
set_option maxRecDepth 100000 in
set_option maxHeartbeats 1000000 in
theorem itself_ok (e : Int) : FnOk Try.prog 170 [mA e] (fun q => q = itC e) := by
  refine fnOk_of (fn := Try.f170) 4 (by kernel_rfl) rfl (by kernel_rfl) (Nat.le_of_ble_eq_true rfl) ?_
  intro e_0 m_0 hA hm_0
  have s0_0 : evA e_0 (.tmp 0) = _ := hA 0 _ rfl
  have ml_0 : m_0.length = 0 := by rw [hm_0]; rfl
  clear hA hm_0
  refine aw_seq <| at_ <| ar (ro_boxR s0_0 rfl (by first | rfl | (simp only [roO.roL, roO, Bool.and_true, Bool.true_and]; first | rfl | assumption) | (apply roL_flat; intro _; rfl))) rfl ?_
  refine ar (ro_assign ev_c) rfl <| ae1 (up_m rfl up_h) ?_; clear s0_0; intro e_1 s1_1
  refine then_n <| aw_seq <| at_ <| ar (ro_makeFunc evL_nil (evL_cons s1_1 evL_nil)) rfl <| ar (ro_assign up_h) rfl <| ae1 up_h ?_; clear s1_1; intro e_2 s2_2
  refine then_n <| aw_ret <| ret1 (.inr rfl) (by kernel_rfl) (resV_tmp s2_2) (.ro _ rfl) ?_
  clear s2_2  ml_0
  rfl
set_option maxRecDepth 100000 in
set_option maxHeartbeats 1000000 in
theorem itself1_ok (e : Int) : FnOk Try.prog 171 [.ref [mA e]] (fun q => q = fuA 0 0 e) := by
  refine fnOk_of (fn := Try.f171) 4 (by kernel_rfl) rfl (by kernel_rfl) (Nat.le_of_ble_eq_true rfl) ?_
  intro e_0 m_0 hA hm_0
  have s0_0 : evA e_0 (.tmp 0) = _ := hA 0 _ rfl
  have ml_0 : m_0.length = 0 := by rw [hm_0]; rfl
  clear hA hm_0
  refine aw_seq <| at_ <| al_stm (st_alloc qaz206 rfl ml_0) trivial rfl (fun m_1 hm_1 => ?_)
  have mo0_1 := m_push hm_1 ml_0
  simp only [pS, Value.cells, Nat.reduceAdd] at mo0_1
  have ml_1 := m_push_l hm_1 ml_0
  have ml_1 : _ = 1 := ml_1
  clear hm_1
  refine ae2 (up_m rfl s0_0) up_h ?_; clear s0_0; intro e_2 s0_2 s1_2
  refine then_n <| aw_seq <| at_ <| ar (ro_eq (ro_ld_ref y2_ty34 rfl s0_2 (nle rfl)) (by simp only [pS, Value.cells, Nat.reduceAdd] <;> rfl)) rfl ?_
  refine ar (ro_build (evP_cons up_h evP_nil) qbz206 qbu206 qbp206 rfl) rfl ?_
  refine al_stm (st_store (u2 rfl s1_2) up_h rfl rfl mo0_1 qsz206 rfl (nle rfl)) trivial rfl (fun m_3 hm_3 => ?_)
  have mo0_3 := m_set hm_3 mo0_1
  simp only [pS, Value.cells, Nat.reduceAdd] at mo0_3
  have ml_3 := m_set_l hm_3 ml_1
  clear hm_3 mo0_1
  refine ae1 (up_n (u2 rfl s1_2)) ?_; clear s0_2 s1_2; intro e_4 s1_4
  refine then_n <| aw_ret <| ret1 (.inr rfl) (by kernel_rfl) (resV_cell s1_4 mo0_3 y2_ty206 (nle rfl) (by simp)) (vw_r (.ro _ rfl)) ?_
  clear s1_4 mo0_3 ml_3
  rfl
set_option maxRecDepth 100000 in
set_option maxHeartbeats 1000000 in
theorem each_ok (k n : Int) (fn : Fn) (m : List AV) (hm : roO.roL m = true) : FnOk Try.prog 172 [mA k, mA n, .clo fn [] m] (fun q => q = eaC k n (.clo fn [] m)) := by
  refine fnOk_of (fn := Try.f172) 8 (by kernel_rfl) rfl (by kernel_rfl) (Nat.le_of_ble_eq_true rfl) ?_
  intro e_0 m_0 hA hm_0
  have s0_0 : evA e_0 (.tmp 0) = _ := hA 0 _ rfl
  have s1_0 : evA e_0 (.tmp 1) = _ := hA 1 _ rfl
  have s2_0 : evA e_0 (.tmp 2) = _ := hA 2 _ rfl
  have ml_0 : m_0.length = 0 := by rw [hm_0]; rfl
  clear hA hm_0
  refine aw_seq <| at_ <| ar (ro_boxR s0_0 rfl (by first | rfl | (simp only [roO.roL, roO, Bool.and_true, Bool.true_and]; first | rfl | assumption) | (apply roL_flat; intro _; rfl))) rfl ?_
  refine ar (ro_boxR (up_m rfl s1_0) rfl (by first | rfl | (simp only [roO.roL, roO, Bool.and_true, Bool.true_and]; first | rfl | assumption) | (apply roL_flat; intro _; rfl))) rfl ?_
  refine ar (ro_boxR (u2 rfl s2_0) rfl (by first | rfl | (simp only [roO.roL, roO, Bool.and_true, Bool.true_and]; first | rfl | assumption) | (apply roL_flat; intro _; rfl))) rfl ?_
  refine ar (ro_assign ev_c) rfl <| ae3 (up_m rfl (u2 rfl up_h)) (u2 rfl up_h) (up_m rfl up_h) ?_; clear s0_0 s1_0 s2_0; intro e_1 s3_1 s4_1 s5_1
  refine then_n <| aw_seq <| at_ <| ar (ro_makeFunc evL_nil (evL_cons s4_1 (evL_cons s5_1 (evL_cons s3_1 evL_nil)))) rfl <| ar (ro_assign up_h) rfl <| ae1 up_h ?_; clear s3_1 s4_1 s5_1; intro e_2 s6_2
  refine then_n <| aw_ret <| ret1 (.inr rfl) (by kernel_rfl) (resV_tmp s6_2) (.ro _ rfl) ?_
  clear s6_2  ml_0
  rfl
set_option maxRecDepth 100000 in
set_option maxHeartbeats 1000000 in
theorem look1_ok (l : Lin) (i : Int) (hi : 0 ≤ i ∧ i < l.js.length) : FnOk Try.prog 175 [mA i, .ref (lnC l)] (fun q => q = mA (jntE (l.js.getD i.toNat default))) := by
  refine fnOk_of (fn := Try.f175) 43 (by kernel_rfl) rfl (by kernel_rfl) (Nat.le_of_ble_eq_true rfl) ?_
  intro e_0 m_0 hA hm_0
  have s0_0 : evA e_0 (.tmp 0) = _ := hA 0 _ rfl
  have s1_0 : evA e_0 (.tmp 1) = _ := hA 1 _ rfl
  have ml_0 : m_0.length = 0 := by rw [hm_0]; rfl
  clear hA hm_0
  refine aw_seq <| at_ <| ar (ro_assign ev_c) rfl <| ae2 (up_m rfl s0_0) (up_m rfl s1_0) ?_; clear s0_0 s1_0; intro e_1 s0_1 s1_1
  refine then_n <| aw_seq <| at_ <| ar (ro_eq (ro_fld_ref qfl26_1 rfl s1_1) (by simp only [pS, Value.cells, Nat.reduceAdd, jnE] <;> rfl)) rfl ?_
  refine ar (ro_eq (ro_ld_ref y2_ty22 rfl up_h (nle rfl)) (by simp only [pS, Value.cells, Nat.reduceAdd, jnE] <;> rfl)) rfl ?_
  refine ar (ro_move (u2 rfl s0_1)) rfl <| ar (ro_eq (ro_ix y2_sl22 (up_m rfl up_h) up_h (by omega) (by first | (refine idx_map ?_; first | omega | (simp only [lnS]; omega)) | (refine idx_mapI ?_; first | omega | (simp only [lnS]; omega)) | (refine idx_mapN ?_; first | omega | (simp only [lnS]; omega)) | rfl)) (by simp only [pS, Value.cells, Nat.reduceAdd, jnE] <;> rfl)) rfl ?_
  refine ar (ro_eq (ro_ld_ref y2_ty70 rfl up_h (nle rfl)) (by simp only [pS, Value.cells, Nat.reduceAdd, jnE] <;> rfl)) rfl ?_
  refine al_stm (st_alloc qaz70 rfl ml_0) trivial rfl (fun m_2 hm_2 => ?_)
  have mo0_2 := m_push hm_2 ml_0
  simp only [pS, Value.cells, Nat.reduceAdd, jnE] at mo0_2
  have ml_2 := m_push_l hm_2 ml_0
  have ml_2 : _ = 1 := ml_2
  clear hm_2
  refine al_stm (st_store up_h (up_m rfl up_h) rfl rfl mo0_2 qsz70 rfl (nle rfl)) trivial rfl (fun m_3 hm_3 => ?_)
  have mo0_3 := m_set hm_3 mo0_2
  simp only [pS, Value.cells, Nat.reduceAdd, jnE] at mo0_3
  have ml_3 := m_set_l hm_3 ml_2
  clear hm_3 mo0_2
  refine ae1 (up_n up_h) ?_; clear s0_1 s1_1; intro e_4 s4_4
  refine then_n <| aw_seq <| aw_cut (fun e mem => (evA e (.tmp 5) = .v (.bool (jntB (l.js.getD i.toNat default)))) ∧ (evA e (.tmp 4) = evA e_4 (.tmp 4)) ∧ m_3 = mem) ?_ ?_
  ·
    refine at_ <| ar (ro_fld_ptr qfl70_0 rfl s4_4) rfl <| ar (ro_eq (ro_ld_ptr y2_ty3 rfl mo0_3 up_h (nle rfl)) (by simp only [pS, Value.cells, Nat.reduceAdd, jnE] <;> rfl)) rfl ?_
    refine ar (ro_call (evL_cons up_h evL_nil) rfl (isAcross_ok _) qhcf176) rfl <| ar (ro_move up_h) rfl <| al_case up_h (fun hb_6 hq_6 => ?_) (fun hb_6 hq_6 => ?_)
    ·skip
     refine al_ro' (ro_fld_ptr qfl70_1 rfl (u4 rfl s4_4)) ⟨_, rfl, hb_6⟩ rfl ?_
     refine al_ro' (ro_eq (ro_ld_ptr y2_ty3 rfl mo0_3 up_h (nle rfl)) (by simp only [pS, Value.cells, Nat.reduceAdd, jnE] <;> rfl)) ⟨_, rfl, (up_m rfl hb_6)⟩ rfl ?_
     refine al_ro' (ro_call (evL_cons up_h evL_nil) rfl (isAcross_ok _) qhcf176) ⟨_, rfl, (u2 rfl hb_6)⟩ rfl ?_
     refine ar (ro_pickT (up_m rfl (u2 rfl hb_6)) up_h) rfl <| ar (ro_move up_h) rfl <| al_case up_h (fun hb_7 hq_7 => ?_) (fun hb_7 hq_7 => ?_)
     ·skip
      refine al_ro' (ro_fld_ptr qfl70_2 rfl (up_m rfl (u8 rfl s4_4))) ⟨_, rfl, hb_7⟩ rfl ?_
      refine al_ro' (ro_fld_ptr qfl39_0 rfl up_h) ⟨_, rfl, (up_m rfl hb_7)⟩ rfl ?_
      refine al_ro' (ro_eq (ro_ld_ptr y2_ty3 rfl mo0_3 up_h (nle rfl)) (by simp only [pS, Value.cells, Nat.reduceAdd, jnE] <;> rfl)) ⟨_, rfl, (u2 rfl hb_7)⟩ rfl ?_
      refine al_ro' (ro_call (evL_cons up_h (evL_cons ev_c evL_nil)) rfl (ySmall_ok _ _ (by decide)) y2_hcf106) ⟨_, rfl, (up_m rfl (u2 rfl hb_7))⟩ rfl ?_
      refine ar (ro_pickT (u4 rfl hb_7) up_h) rfl <| ar (ro_move up_h) rfl <| al_case up_h (fun hb_8 hq_8 => ?_) (fun hb_8 hq_8 => ?_)
      ·skip
       refine al_ro' (ro_fld_ptr qfl70_2 rfl (up_m rfl (u2 rfl (u4 rfl (u8 rfl s4_4))))) ⟨_, rfl, hb_8⟩ rfl ?_
       refine al_ro' (ro_fld_ptr qfl39_1 rfl up_h) ⟨_, rfl, (up_m rfl hb_8)⟩ rfl ?_
       refine al_ro' (ro_eq (ro_ld_ptr y2_ty3 rfl mo0_3 up_h (nle rfl)) (by simp only [pS, Value.cells, Nat.reduceAdd, jnE] <;> rfl)) ⟨_, rfl, (u2 rfl hb_8)⟩ rfl ?_
       refine al_ro' (ro_call (evL_cons up_h (evL_cons ev_c evL_nil)) rfl (ySmall_ok _ _ (by decide)) y2_hcf106) ⟨_, rfl, (up_m rfl (u2 rfl hb_8))⟩ rfl ?_
       refine ar (ro_pickT (u4 rfl hb_8) up_h) rfl <| ar (ro_assign up_h) rfl <| ae2 (up_m rfl (u4 rfl (u16 rfl s4_4))) up_h ?_; intro e_9 s4_9 s5_9
       refine then_n ⟨(s5_9).trans (by (refine avb ?_; unfold jntB; simp_all)), (s4_9).trans (s4_4).symm, rfl⟩
      refine al_skip' ⟨_, rfl, .inl hb_8⟩ rfl ?_
      refine al_skip' ⟨_, rfl, .inl (up_m rfl hb_8)⟩ rfl ?_
      refine al_skip' ⟨_, rfl, .inl (u2 rfl hb_8)⟩ rfl ?_
      refine al_skip' ⟨_, rfl, .inl (up_m rfl (u2 rfl hb_8))⟩ rfl ?_
      refine ar (ro_pickF (u4 rfl hb_8) ev_c) rfl <| ar (ro_assign up_h) rfl <| ae2 (up_m rfl (u4 rfl (u16 rfl s4_4))) up_h ?_; intro e_10 s4_10 s5_10
      refine then_n ⟨(s5_10).trans (by (refine avb ?_; unfold jntB; simp_all)), (s4_10).trans (s4_4).symm, rfl⟩
     refine al_skip' ⟨_, rfl, .inl hb_7⟩ rfl ?_
     refine al_skip' ⟨_, rfl, .inl (up_m rfl hb_7)⟩ rfl ?_
     refine al_skip' ⟨_, rfl, .inl (u2 rfl hb_7)⟩ rfl ?_
     refine al_skip' ⟨_, rfl, .inl (up_m rfl (u2 rfl hb_7))⟩ rfl ?_
     refine ar (ro_pickF (u4 rfl hb_7) ev_c) rfl <| ar (ro_move up_h) rfl <| al_skip' ⟨_, rfl, .inl up_h⟩ rfl ?_
     refine al_skip' ⟨_, rfl, .inl (up_m rfl up_h)⟩ rfl ?_
     refine al_skip' ⟨_, rfl, .inl (u2 rfl up_h)⟩ rfl ?_
     refine al_skip' ⟨_, rfl, .inl (up_m rfl (u2 rfl up_h))⟩ rfl ?_
     refine ar (ro_pickF (u4 rfl up_h) ev_c) rfl <| ar (ro_assign up_h) rfl <| ae2 (up_m rfl (u4 rfl (u16 rfl s4_4))) up_h ?_; intro e_11 s4_11 s5_11
     refine then_n ⟨(s5_11).trans (by (refine avb ?_; unfold jntB; simp_all)), (s4_11).trans (s4_4).symm, rfl⟩
    refine al_skip' ⟨_, rfl, .inl hb_6⟩ rfl ?_
    refine al_skip' ⟨_, rfl, .inl (up_m rfl hb_6)⟩ rfl ?_
    refine al_skip' ⟨_, rfl, .inl (u2 rfl hb_6)⟩ rfl ?_
    refine ar (ro_pickF (up_m rfl (u2 rfl hb_6)) ev_c) rfl <| ar (ro_move up_h) rfl <| al_skip' ⟨_, rfl, .inl up_h⟩ rfl ?_
    refine al_skip' ⟨_, rfl, .inl (up_m rfl up_h)⟩ rfl ?_
    refine al_skip' ⟨_, rfl, .inl (u2 rfl up_h)⟩ rfl ?_
    refine al_skip' ⟨_, rfl, .inl (up_m rfl (u2 rfl up_h))⟩ rfl ?_
    refine ar (ro_pickF (u4 rfl up_h) ev_c) rfl <| ar (ro_move up_h) rfl <| al_skip' ⟨_, rfl, .inl up_h⟩ rfl ?_
    refine al_skip' ⟨_, rfl, .inl (up_m rfl up_h)⟩ rfl ?_
    refine al_skip' ⟨_, rfl, .inl (u2 rfl up_h)⟩ rfl ?_
    refine al_skip' ⟨_, rfl, .inl (up_m rfl (u2 rfl up_h))⟩ rfl ?_
    refine ar (ro_pickF (u4 rfl up_h) ev_c) rfl <| ar (ro_assign up_h) rfl <| ae2 (up_m rfl (u4 rfl (u16 rfl s4_4))) up_h ?_; intro e_12 s4_12 s5_12
    refine then_n ⟨(s5_12).trans (by (refine avb ?_; unfold jntB; simp_all)), (s4_12).trans (s4_4).symm, rfl⟩
  · rintro e_5 _ ⟨s5_5, k4_5, rfl⟩
    have s4_5 := k4_5.trans s4_4
    refine aw_seq <| aw_draw 13 (by kernel_rfl) (by kernel_rfl) (by kernel_rfl) (by kernel_rfl) ?_
    refine dr (ro_move s5_5) rfl <| dr (ro_call (evL_cons up_h (evL_cons ev_c evL_nil)) rfl (yUnless_ok _ _) qhcf94) rfl <| dr (ro_fld_ptr qfl70_2 rfl (u2 rfl s4_5)) rfl <| dr (ro_fld_ptr qfl39_0 rfl up_h) rfl <| dr (ro_eq (ro_ld_ptr y2_ty3 rfl mo0_3 up_h (nle rfl)) (by simp only [pS, Value.cells, Nat.reduceAdd, jnE] <;> rfl)) rfl ?_
    refine dr (ro_fld_ptr qfl70_2 rfl (up_m rfl (u4 rfl s4_5))) rfl <| dr (ro_fld_ptr qfl39_1 rfl up_h) rfl <| dr (ro_eq (ro_ld_ptr y2_ty3 rfl mo0_3 up_h (nle rfl)) (by simp only [pS, Value.cells, Nat.reduceAdd, jnE] <;> rfl)) rfl ?_
    refine dr (ro_leq (up_m rfl (u2 rfl up_h)) up_h) rfl <| dr (ro_call (evL_cons up_h (evL_cons ev_c evL_nil)) rfl (yUnless_ok _ _) qhcf94) rfl <| dr (ro_lit y2_sl185 (evP_cons (u8 rfl up_h) (evP_cons up_h evP_nil)) rfl rfl rfl rfl) rfl <| dr (ro_call (evL_cons up_h evL_nil) rfl (yFirst_ok [_, _] (by simp)) qhcf77) rfl ?_
    refine dr (ro_assign up_h) rfl <| ds_nil <| ae1 up_h ?_; clear s4_5 s5_5; intro e_13 s3_13
    refine then_n <| aw_ret <| ret1 (.inr rfl) (by kernel_rfl) (resV_tmp s3_13) (.ro _ rfl) ?_
    clear s3_13 mo0_3 ml_3
    (refine avj ?_; unfold jntE; cases jntB (l.js.getD i.toNat default) <;> simp [firstE, unlessE])
set_option maxRecDepth 100000 in
set_option maxHeartbeats 1000000 in
theorem look2_ok (l : Lin) (i : Int) (hi : 0 ≤ i ∧ i < l.bs.length) : FnOk Try.prog 177 [mA i, .ref (lnC l)] (fun q => q = mA (beaE (l.bs.getD i.toNat default))) := by
  refine fnOk_of (fn := Try.f177) 19 (by kernel_rfl) rfl (by kernel_rfl) (Nat.le_of_ble_eq_true rfl) ?_
  intro e_0 m_0 hA hm_0
  have s0_0 : evA e_0 (.tmp 0) = _ := hA 0 _ rfl
  have s1_0 : evA e_0 (.tmp 1) = _ := hA 1 _ rfl
  have ml_0 : m_0.length = 0 := by rw [hm_0]; rfl
  clear hA hm_0
  refine aw_seq <| at_ <| ar (ro_assign ev_c) rfl <| ae2 (up_m rfl s0_0) (up_m rfl s1_0) ?_; clear s0_0 s1_0; intro e_1 s0_1 s1_1
  refine then_n <| aw_seq <| at_ <| ar (ro_eq (ro_fld_ref qfl26_2 rfl s1_1) (by simp only [pS, Value.cells, Nat.reduceAdd, beE] <;> rfl)) rfl ?_
  refine ar (ro_eq (ro_ld_ref y2_ty23 rfl up_h (nle rfl)) (by simp only [pS, Value.cells, Nat.reduceAdd, beE] <;> rfl)) rfl ?_
  refine ar (ro_move (u2 rfl s0_1)) rfl <| ar (ro_eq (ro_ix y2_sl23 (up_m rfl up_h) up_h (by omega) (by first | (refine idx_map ?_; first | omega | (simp only [lnS]; omega)) | (refine idx_mapI ?_; first | omega | (simp only [lnS]; omega)) | (refine idx_mapN ?_; first | omega | (simp only [lnS]; omega)) | rfl)) (by simp only [pS, Value.cells, Nat.reduceAdd, beE] <;> rfl)) rfl ?_
  refine ar (ro_eq (ro_ld_ref y2_ty87 rfl up_h (nle rfl)) (by simp only [pS, Value.cells, Nat.reduceAdd, beE] <;> rfl)) rfl ?_
  refine al_stm (st_alloc qaz87 rfl ml_0) trivial rfl (fun m_2 hm_2 => ?_)
  have mo0_2 := m_push hm_2 ml_0
  simp only [pS, Value.cells, Nat.reduceAdd, beE] at mo0_2
  have ml_2 := m_push_l hm_2 ml_0
  have ml_2 : _ = 1 := ml_2
  clear hm_2
  refine al_stm (st_store up_h (up_m rfl up_h) rfl rfl mo0_2 qsz87 rfl (nle rfl)) trivial rfl (fun m_3 hm_3 => ?_)
  have mo0_3 := m_set hm_3 mo0_2
  simp only [pS, Value.cells, Nat.reduceAdd, beE] at mo0_3
  have ml_3 := m_set_l hm_3 ml_2
  clear hm_3 mo0_2
  refine ae1 (up_n up_h) ?_; clear s0_1 s1_1; intro e_4 s4_4
  refine then_n <| aw_seq <| at_ <| ar (ro_fld_ptr qfl87_0 rfl s4_4) rfl <| ar (ro_eq (ro_ld_ptr y2_ty3 rfl mo0_3 up_h (nle rfl)) (by simp only [pS, Value.cells, Nat.reduceAdd, beE] <;> rfl)) rfl ?_
  refine ar (ro_call (evL_cons up_h (evL_cons ev_c (evL_cons ev_c evL_nil))) rfl (yWithin_ok _ _ _) qhcf97) rfl <| ar (ro_move up_h) rfl <| al_case up_h (fun hb_5 hq_5 => ?_) (fun hb_5 hq_5 => ?_)
  ·skip
   refine al_ro' (ro_fld_ptr qfl87_1 rfl (u4 rfl s4_4)) ⟨_, rfl, hb_5⟩ rfl ?_
   refine al_ro' (ro_eq (ro_ld_ptr y2_ty3 rfl mo0_3 up_h (nle rfl)) (by simp only [pS, Value.cells, Nat.reduceAdd, beE] <;> rfl)) ⟨_, rfl, (up_m rfl hb_5)⟩ rfl ?_
   refine al_ro' (ro_call (evL_cons up_h (evL_cons ev_c evL_nil)) rfl (ySmall_ok _ _ (by decide)) y2_hcf106) ⟨_, rfl, (u2 rfl hb_5)⟩ rfl ?_
   refine ar (ro_pickT (up_m rfl (u2 rfl hb_5)) up_h) rfl <| ar (ro_call (evL_cons up_h (evL_cons ev_c evL_nil)) rfl (yUnless_ok _ _) qhcf94) rfl <| ar (ro_assign up_h) rfl <| ae1 up_h ?_; clear hb_5 s4_4; intro e_6 s3_6
   refine then_n <| aw_ret <| ret1 (.inr rfl) (by kernel_rfl) (resV_tmp s3_6) (.ro _ rfl) ?_
   clear s3_6 mo0_3 ml_3
   (refine avj ?_; unfold beaE beaB unlessE; simp_all)
  refine al_skip' ⟨_, rfl, .inl hb_5⟩ rfl ?_
  refine al_skip' ⟨_, rfl, .inl (up_m rfl hb_5)⟩ rfl ?_
  refine al_skip' ⟨_, rfl, .inl (u2 rfl hb_5)⟩ rfl ?_
  refine ar (ro_pickF (up_m rfl (u2 rfl hb_5)) ev_c) rfl <| ar (ro_call (evL_cons up_h (evL_cons ev_c evL_nil)) rfl (yUnless_ok _ _) qhcf94) rfl <| ar (ro_assign up_h) rfl <| ae1 up_h ?_; clear hb_5 s4_4; intro e_7 s3_7
  refine then_n <| aw_ret <| ret1 (.inr rfl) (by kernel_rfl) (resV_tmp s3_7) (.ro _ rfl) ?_
  clear s3_7 mo0_3 ml_3
  (refine avj ?_; unfold beaE beaB unlessE; simp_all)
end Go.Proofs.Ytonjcljnpcmenaa

/- Contracts of chapter 1: the checks of a line, in a row. No conditions on a program. -/
namespace Go.Proofs.Ytonjcljnpcmenaa
open Go Go.RowKit Go.Proofs
set_option linter.unusedSimpArgs false
set_option linter.unusedVariables false
theorem y3_hcf170 : ∀ args w, (callFunc 170 args).run Try.prog w = .ok (.enter 170 args) w := fun _ _ => by kernel_rfl
theorem y3_hcf172 : ∀ args w, (callFunc 172 args).run Try.prog w = .ok (.enter 172 args) w := fun _ _ => by kernel_rfl
theorem y3_sl202 : SlIs Try.prog 202 204 1 8 (.nilFunc) := ⟨by kernel_rfl, by kernel_rfl, by kernel_rfl⟩
theorem y3_sl216 : SlIs Try.prog 216 5 1 1 (.int .u8 0) := ⟨by kernel_rfl, by kernel_rfl, by kernel_rfl⟩
theorem y3_sl22 : SlIs Try.prog 22 70 4 32 (.agg #[.int .i64 0, .int .i64 0, .int .i64 0, .int .i64 0]) := ⟨by kernel_rfl, by kernel_rfl, by kernel_rfl⟩
theorem y3_sl23 : SlIs Try.prog 23 87 2 16 (.agg #[.int .i64 0, .int .i64 0]) := ⟨by kernel_rfl, by kernel_rfl, by kernel_rfl⟩
theorem y3_sl24 : SlIs Try.prog 24 91 3 48 (.agg #[.string ByteArray.empty, .int .i64 0, .slice none 0 0]) := ⟨by kernel_rfl, by kernel_rfl, by kernel_rfl⟩
theorem y3_ty139 : TyIs Try.prog 139 false 1 := ⟨by kernel_rfl, by kernel_rfl⟩
theorem y3_ty206 : TyIs Try.prog 206 true 3 := ⟨by kernel_rfl, by kernel_rfl⟩
theorem y3_ty22 : TyIs Try.prog 22 false 1 := ⟨by kernel_rfl, by kernel_rfl⟩
theorem y3_ty23 : TyIs Try.prog 23 false 1 := ⟨by kernel_rfl, by kernel_rfl⟩
theorem y3_ty24 : TyIs Try.prog 24 false 1 := ⟨by kernel_rfl, by kernel_rfl⟩
theorem y3_ty3 : TyIs Try.prog 3 false 1 := ⟨by kernel_rfl, by kernel_rfl⟩
theorem y3_ty5 : TyIs Try.prog 5 false 1 := ⟨by kernel_rfl, by kernel_rfl⟩
theorem y3_ty9 : TyIs Try.prog 9 false 1 := ⟨by kernel_rfl, by kernel_rfl⟩

/-- What a look at all items comes to. -/
def eaR (k : Int) (e : Nat → Int) (n : Nat) : (Int × Int) × Int := match firN e n with
  | some i => ((k, i), e i)
  | none => ((0, 0), 0)
abbrev fuR (r : (Int × Int) × Int) : AV := fuA r.1.1 r.1.2 r.2
set_option maxRecDepth 100000 in
set_option maxHeartbeats 4000000 in
theorem each1_ok (k n : Int) (f : FuncId) (m : List AV) (er : Nat → Int) (hn : 0 ≤ n ∧ n ≤ 1000000) (hro : roO.roL m = true) (hcf : ∀ args w, (callFunc f args).run Try.prog w = .ok (.enter f args) w) (hc : ∀ i : Int, 0 ≤ i → i < n → FnOk Try.prog f ([] ++ [mA i] ++ m) (fun q => q = mA (er i.toNat))) :
    FnOk Try.prog 173 [.ref [mA n], .ref [.clo (.func f) [] m], .ref [mA k]] (fun q => q = fuR (eaR k er n.toNat)) := by
  refine fnOk_of (fn := Try.f173) 22 (by kernel_rfl) rfl (by kernel_rfl) (Nat.le_of_ble_eq_true rfl) ?_
  intro e_0 m_0 hA hm_0
  have s0_0 : evA e_0 (.tmp 0) = _ := hA 0 _ rfl
  have s1_0 : evA e_0 (.tmp 1) = _ := hA 1 _ rfl
  have s2_0 : evA e_0 (.tmp 2) = _ := hA 2 _ rfl
  have ml_0 : m_0.length = 0 := by rw [hm_0]; rfl
  clear hA hm_0
  refine aw_seq <| at_ <| al_stm (st_alloc qaz206 rfl ml_0) trivial rfl (fun m_1 hm_1 => ?_)
  have mo0_1 := m_push hm_1 ml_0
  simp only [pS, Value.cells, Nat.reduceAdd] at mo0_1
  have ml_1 := m_push_l hm_1 ml_0
  have ml_1 : _ = 1 := ml_1
  clear hm_1
  refine ae4 (up_m rfl s0_0) (up_m rfl s1_0) (up_m rfl s2_0) up_h ?_; clear s0_0 s1_0 s2_0; intro e_2 s0_2 s1_2 s2_2 s3_2
  refine then_n <| aw_seq <| aw_seq <| at_ <| ar (ro_eq (ro_ld_ref y3_ty3 rfl s0_2 (nle rfl)) (by simp only [pS, Value.cells, Nat.reduceAdd] <;> rfl)) rfl ?_
  refine ar (ro_move ev_c) rfl <| ae5 (u2 rfl s1_2) (u2 rfl s2_2) (u2 rfl s3_2) (up_m rfl up_h) up_h ?_; clear s0_2 s1_2 s2_2 s3_2; intro e_3 s1_3 s2_3 s3_3 s6_3 s7_3
  refine then_n <| aw_block <| aw_loop (S := Int) (fun i e mem => (evA e (.tmp 7) = .v (.int .i64 i)) ∧ (evA e (.tmp 1) = evA e_3 (.tmp 1)) ∧ (evA e (.tmp 2) = evA e_3 (.tmp 2)) ∧ (evA e (.tmp 3) = evA e_3 (.tmp 3)) ∧ (evA e (.tmp 6) = evA e_3 (.tmp 6)) ∧ (mem[0]? = m_1[0]?) ∧ (mem.length = 1) ∧ ((0 ≤ i ∧ i ≤ n ∧ ∀ j : Nat, j < i.toNat → er j = 0))) (fun i => (n - i).toNat) _ ⟨s7_3, rfl, rfl, rfl, rfl, rfl, ml_1, ?_⟩ ?_
  · (exact ⟨by omega, by omega, fun j h => absurd h (by omega)⟩)
  · rintro i e_4 m_4 ⟨s7_4, k1_4, k2_4, k3_4, k6_4, mk0_4, ml_4, hinv⟩
    have s1_4 := k1_4.trans s1_3
    have s2_4 := k2_4.trans s2_3
    have s3_4 := k3_4.trans s3_3
    have s6_4 := k6_4.trans s6_3
    have mo0_4 := mk0_4.trans mo0_1
    (obtain ⟨p1, p2, p3⟩ := hinv)
    refine aw_seq <| at_ <| ar (ro_lss s7_4 s6_4) rfl <| ae6 (up_m rfl s1_4) (up_m rfl s2_4) (up_m rfl s3_4) (up_m rfl s6_4) (up_m rfl s7_4) up_h ?_; clear s1_4 s2_4 s3_4 s6_4 s7_4; intro e_5 s1_5 s2_5 s3_5 s6_5 s7_5 s8_5
    refine then_n <| aw_seq <| aw_case s8_5 (fun hq_6 => ?_) (fun hq_6 => ?_)
    ·replace hq_6 := bt hq_6
     refine aw_skip <| then_n <| aw_seq <| aw_block <| aw_seq <| at_ <| ar (ro_move s7_5) rfl <| ar (ro_assign up_h) rfl <| ae6 (u2 rfl s1_5) (u2 rfl s2_5) (u2 rfl s3_5) up_h (u2 rfl s6_5) (u2 rfl s7_5) ?_; clear s1_5 s2_5 s3_5 s6_5 s7_5 s8_5; intro e_7 s1_7 s2_7 s3_7 s4_7 s6_7 s7_7
     refine then_n <| aw_seq <| at_ <| ar (ro_eq (ro_ld_ref y3_ty139 rfl s1_7 (nle rfl)) (by simp only [pS, Value.cells, Nat.reduceAdd] <;> rfl)) rfl ?_
     refine ar (ro_move (up_m rfl s4_7)) rfl <| ar (ro_callv (up_m rfl up_h) (evL_cons up_h evL_nil) rfl rfl hro (hc i (by omega) (by omega)) hcf) rfl ?_
     refine ar (ro_assign up_h) rfl <| ae7 (u4 rfl s1_7) (u4 rfl s2_7) (u4 rfl s3_7) (u4 rfl s4_7) up_h (u4 rfl s6_7) (u4 rfl s7_7) ?_; clear s1_7 s2_7 s3_7 s4_7 s6_7 s7_7; intro e_8 s1_8 s2_8 s3_8 s4_8 s5_8 s6_8 s7_8
     refine then_n <| aw_seq <| at_ <| ar (ro_move s5_8) rfl <| ar (ro_neq up_h ev_c) rfl <| ae8 (u2 rfl s1_8) (u2 rfl s2_8) (u2 rfl s3_8) (u2 rfl s4_8) (u2 rfl s5_8) (u2 rfl s6_8) (u2 rfl s7_8) up_h ?_; clear s1_8 s2_8 s3_8 s4_8 s5_8 s6_8 s7_8; intro e_9 s1_9 s2_9 s3_9 s4_9 s5_9 s6_9 s7_9 s14_9
     refine then_n <| aw_case s14_9 (fun hq_10 => ?_) (fun hq_10 => ?_)
     ·replace hq_10 := bnt hq_10
      refine aw_seq <| at_ <| ar (ro_eq (ro_ld_ref y3_ty3 rfl s2_9 (nle rfl)) (by simp only [pS, Value.cells, Nat.reduceAdd] <;> rfl)) rfl ?_
      refine ar (ro_move (up_m rfl s4_9)) rfl <| ar (ro_build (evP_cons (up_m rfl up_h) (evP_cons up_h evP_nil)) qbz121 qbu121 qbp121 rfl) rfl ?_
      refine ar (ro_move (up_m rfl (u2 rfl s5_9))) rfl <| ar (ro_build (evP_cons (up_m rfl up_h) (evP_cons up_h evP_nil)) qbz206 qbu206 qbp206 rfl) rfl ?_
      refine al_stm (st_store (up_m rfl (u4 rfl s3_9)) up_h rfl rfl mo0_4 qsz206 rfl (nle rfl)) trivial rfl (fun m_11 hm_11 => ?_)
      have mo0_11 := m_set hm_11 mo0_4
      simp only [pS, Value.cells, Nat.reduceAdd] at mo0_11
      have ml_11 := m_set_l hm_11 ml_4
      clear hm_11 mo0_4
      refine ae1 (up_n (up_m rfl (u4 rfl s3_9))) ?_; clear s14_9 s1_9 s2_9 s3_9 s4_9 s5_9 s6_9 s7_9; intro e_12 s3_12
      refine then_n <| aw_ret <| block_r <| then_r <| then_r <| block_r <| then_r <| ret1 (.inr rfl) (by kernel_rfl) (resV_cell s3_12 mo0_11 y3_ty206 (nle rfl) (by simp)) (vw_r (.ro _ rfl)) ?_
      clear s3_12 mo0_11 ml_11
      (have h := firN_some p3 (by assumption) (n := n.toNat) (by omega); rw [show eaR k er n.toNat = ((k, i), er i.toNat) by unfold eaR; rw [h]; simp only [Int.toNat_of_nonneg p1]]; rfl)
     replace hq_10 := bnf hq_10
     refine aw_skip <| block_n <| then_n <| at_ ?_
     (refine ar (ro_add' s7_9 ev_c ?_) rfl ?_; · (unfold In64; omega))
     refine ar (ro_move up_h) rfl <| ae5 (u2 rfl s1_9) (u2 rfl s2_9) (u2 rfl s3_9) (u2 rfl s6_9) up_h ?_; clear s14_9 s1_9 s2_9 s3_9 s4_9 s5_9 s6_9 s7_9; intro e_13 s1_13 s2_13 s3_13 s6_13 s7_13
     refine then_n <| ⟨_, ⟨s7_13, (s1_13.trans s1_3.symm), (s2_13.trans s2_3.symm), (s3_13.trans s3_3.symm), (s6_13.trans s6_3.symm), (mo0_4.trans mo0_1.symm), ml_4, ?_⟩, ?_⟩
     · (refine ⟨by omega, by omega, fun j hj => ?_⟩; by_cases hji : j < i.toNat; (exact p3 j hji); (rw [show j = i.toNat by omega]; assumption))
     · ((try dsimp only); omega)
    replace hq_6 := bf hq_6
    refine aw_exit <| then_x <| then_x <| block_hit <| then_n <| aw_seq <| at_ <| ar (ro_build evP_nil qbz206 qbu206 qbp206 rfl) rfl ?_
    refine al_stm (st_store (up_m rfl s3_5) up_h rfl rfl mo0_4 qsz206 rfl (nle rfl)) trivial rfl (fun m_14 hm_14 => ?_)
    have mo0_14 := m_set hm_14 mo0_4
    simp only [pS, Value.cells, Nat.reduceAdd] at mo0_14
    have ml_14 := m_set_l hm_14 ml_4
    clear hm_14 mo0_4
    refine ae1 (up_n (up_m rfl s3_5)) ?_; clear s1_5 s2_5 s3_5 s6_5 s7_5 s8_5; intro e_15 s3_15
    refine then_n <| aw_ret <| ret1 (.inr rfl) (by kernel_rfl) (resV_cell s3_15 mo0_14 y3_ty206 (nle rfl) (by simp)) (vw_r (.ro _ rfl)) ?_
    clear s3_15 mo0_14 ml_14
    (have h := firN_none (f := er) (n := n.toNat) (fun j hj => p3 j (by omega)); rw [show eaR k er n.toNat = ((0, 0), 0) by unfold eaR; rw [h]]; rfl)
/-- The row of checks. -/
def ckV (l : Lin) : List (List AV) := [[itC (unlessE (isNameB l.nam) 4)], [itC (unlessE (decide ((0 : Int) < l.bs.length ∧ (l.js.length : Int) = l.bs.length + 1)) 10)], [itC (unlessE (decide ((l.bs.length : Int) ≤ 40)) 8)],
  [eaC 1 l.js.length (.clo (.func 175) [] [.ref (lnC l)])], [eaC 2 l.bs.length (.clo (.func 177) [] [.ref (lnC l)])], [itC (unlessE (decide ((l.ss.length : Int) ≤ 4)) 8)], [eaC 3 l.ss.length (.clo (.func 178) [] [.ref (lnC l)])]]
set_option maxRecDepth 100000 in
set_option maxHeartbeats 4000000 in
theorem yIsName_ok (s : ByteArray) (hs : s.size ≤ 1000000000) : FnOk Try.prog 174 [.v (.string s)] (fun q => q = .v (.bool (isNameB s))) := by
  refine fnOk_of (fn := Try.f174) 54 (by kernel_rfl) rfl (by kernel_rfl) (Nat.le_of_ble_eq_true rfl) ?_
  intro e_0 m_0 hA hm_0
  have s0_0 : evA e_0 (.tmp 0) = _ := hA 0 _ rfl
  have ml_0 : m_0.length = 0 := by rw [hm_0]; rfl
  clear hA hm_0
  have hsl := sz_list s
  refine aw_seq <| at_ <| ar (ro_assign ev_c) rfl <| ae1 (up_m rfl s0_0) ?_; clear s0_0; intro e_1 s0_1
  refine then_n <| aw_seq <| aw_seq <| at_ <| ar (ro_move s0_1) rfl <| ar (ro_s2b qun9 qus216 qu85 up_h) rfl <| ar (ro_eq (ro_len_row up_h rfl y3_sl216.1) (by simp only [lnS] <;> rfl)) rfl ?_
  refine ar (ro_move ev_c) rfl <| ae4 (u4 rfl s0_1) (u2 rfl up_h) (up_m rfl up_h) up_h ?_; clear s0_1; intro e_2 s0_2 s7_2 s8_2 s9_2
  refine then_n <| aw_block <| aw_loop (S := Int) (fun i e mem => (evA e (.tmp 9) = .v (.int .i64 i)) ∧ (evA e (.tmp 0) = evA e_2 (.tmp 0)) ∧ (evA e (.tmp 7) = evA e_2 (.tmp 7)) ∧ (evA e (.tmp 8) = evA e_2 (.tmp 8)) ∧ (mem.length = 0) ∧ ((0 ≤ i ∧ i ≤ s.data.toList.length ∧ ∀ j : Nat, j < i.toNat → okB j (s.data.toList.getD j default) = true))) (fun i => (s.data.toList.length - i).toNat) _ ⟨s9_2, rfl, rfl, rfl, ml_0, ?_⟩ ?_
  · exact ⟨by omega, by omega, fun j hj => by omega⟩
  · rintro i e_3 m_3 ⟨s9_3, k0_3, k7_3, k8_3, ml_3, hinv⟩
    have s0_3 := k0_3.trans s0_2
    have s7_3 := k7_3.trans s7_2
    have s8_3 := k8_3.trans s8_2
    refine aw_seq <| at_ <| ar (ro_lss s9_3 s8_3) rfl <| ae5 (up_m rfl s0_3) (up_m rfl s7_3) (up_m rfl s8_3) (up_m rfl s9_3) up_h ?_; clear s0_3 s7_3 s8_3 s9_3; intro e_4 s0_4 s7_4 s8_4 s9_4 s10_4
    refine then_n <| aw_seq <| aw_case s10_4 (fun hq_5 => ?_) (fun hq_5 => ?_)
    ·replace hq_5 := bt hq_5
     refine aw_skip <| then_n <| aw_seq <| aw_block <| aw_seq <| at_ <| ar (ro_move s9_4) rfl <| ar (ro_eq (ro_ix y3_sl216 (up_m rfl s7_4) (up_m rfl s9_4) (by omega) (by first | (refine idx_map ?_; first | omega | (simp only [lnS]; omega)) | (refine idx_mapI ?_; first | omega | (simp only [lnS]; omega)) | (refine idx_mapN ?_; first | omega | (simp only [lnS]; omega)) | rfl)) (by simp only [pS, Value.cells, Nat.reduceAdd] <;> rfl)) rfl ?_
     refine ar (ro_eq (ro_ld_ref y3_ty5 rfl up_h (nle rfl)) (by simp only [pS, Value.cells, Nat.reduceAdd] <;> rfl)) rfl ?_
     refine ar (ro_assign (u2 rfl up_h)) rfl <| ar (ro_assign (up_m rfl up_h)) rfl <| ae6 (up_m rfl (u4 rfl s0_4)) (up_m rfl up_h) up_h (up_m rfl (u4 rfl s7_4)) (up_m rfl (u4 rfl s8_4)) (up_m rfl (u4 rfl s9_4)) ?_; clear s0_4 s10_4 s7_4 s8_4 s9_4; intro e_6 s0_6 s3_6 s4_6 s7_6 s8_6 s9_6
     refine then_n <| aw_seq <| aw_cut (fun e mem => (evA e (.tmp 5) = .v (.bool (letB (s.data.toList.getD i.toNat default).toNat))) ∧ (evA e (.tmp 0) = evA e_6 (.tmp 0)) ∧ (evA e (.tmp 3) = evA e_6 (.tmp 3)) ∧ (evA e (.tmp 4) = evA e_6 (.tmp 4)) ∧ (evA e (.tmp 7) = evA e_6 (.tmp 7)) ∧ (evA e (.tmp 8) = evA e_6 (.tmp 8)) ∧ (evA e (.tmp 9) = evA e_6 (.tmp 9)) ∧ m_3 = mem) ?_ ?_
     ·
       refine at_ <| ar (ro_move s4_6) rfl <| ar (ro_geq up_h ev_c) rfl <| ar (ro_move up_h) rfl <| al_case up_h (fun hb_8 hq_8 => ?_) (fun hb_8 hq_8 => ?_)
       ·replace hq_8 := bt hq_8
        refine al_ro' (ro_move (up_m rfl (u2 rfl s4_6))) ⟨_, rfl, hb_8⟩ rfl ?_
        refine al_ro' (ro_leq up_h ev_c) ⟨_, rfl, (up_m rfl hb_8)⟩ rfl ?_
        refine ar (ro_pickT (u2 rfl hb_8) up_h) rfl <| ar (ro_move up_h) rfl <| al_case up_h (fun hb_9 hq_9 => ?_) (fun hb_9 hq_9 => ?_)
        ·replace hq_9 := bt hq_9
         refine al_skip' ⟨_, rfl, .inl hb_9⟩ rfl ?_
         refine al_skip' ⟨_, rfl, .inl (up_m rfl hb_9)⟩ rfl ?_
         refine al_skip' ⟨_, rfl, .inl (u2 rfl hb_9)⟩ rfl ?_
         refine al_skip' ⟨_, rfl, .inr up_h⟩ rfl ?_
         refine al_skip' ⟨_, rfl, .inr (up_m rfl up_h)⟩ rfl ?_
         refine al_skip' ⟨_, rfl, .inl (up_m rfl (u4 rfl hb_9))⟩ rfl ?_
         refine ar (ro_pickT (u2 rfl (u4 rfl hb_9)) ev_c) rfl <| ar (ro_assign up_h) rfl <| ae7 (up_m rfl (u2 rfl (u4 rfl (u8 rfl s0_6)))) (up_m rfl (u2 rfl (u4 rfl (u8 rfl s3_6)))) (up_m rfl (u2 rfl (u4 rfl (u8 rfl s4_6)))) up_h (up_m rfl (u2 rfl (u4 rfl (u8 rfl s7_6)))) (up_m rfl (u2 rfl (u4 rfl (u8 rfl s8_6)))) (up_m rfl (u2 rfl (u4 rfl (u8 rfl s9_6)))) ?_; intro e_10 s0_10 s3_10 s4_10 s5_10 s7_10 s8_10 s9_10
         refine then_n ⟨(s5_10).trans (by (refine avb ?_; simp only [letB, decide_eq_true_eq, Bool.false_eq_true, true_iff, false_iff]; omega)), (s0_10).trans (s0_6).symm, (s3_10).trans (s3_6).symm, (s4_10).trans (s4_6).symm, (s7_10).trans (s7_6).symm, (s8_10).trans (s8_6).symm, (s9_10).trans (s9_6).symm, rfl⟩
        replace hq_9 := bf hq_9
        refine al_ro' (ro_move (up_m rfl (u2 rfl (u4 rfl s4_6)))) ⟨_, rfl, hb_9⟩ rfl ?_
        refine al_ro' (ro_geq up_h ev_c) ⟨_, rfl, (up_m rfl hb_9)⟩ rfl ?_
        refine al_ro' (ro_move up_h) ⟨_, rfl, (u2 rfl hb_9)⟩ rfl ?_
        refine al_case up_h (fun hb_11 hq_11 => ?_) (fun hb_11 hq_11 => ?_)
        ·replace hq_11 := bt hq_11
         refine al_ro' (ro_move (u2 rfl (u8 rfl s4_6))) ⟨_, rfl, hb_11⟩ rfl ?_
         refine al_ro' (ro_leq up_h ev_c) ⟨_, rfl, (up_m rfl hb_11)⟩ rfl ?_
         refine al_ro' (ro_pickT (u2 rfl hb_11) up_h) ⟨_, rfl, (up_m rfl (u4 rfl hb_9))⟩ rfl ?_
         refine ar (ro_pickF (u2 rfl (u4 rfl hb_9)) up_h) rfl <| ar (ro_assign up_h) rfl <| ae7 (up_m rfl (u2 rfl (u4 rfl (u8 rfl s0_6)))) (up_m rfl (u2 rfl (u4 rfl (u8 rfl s3_6)))) (up_m rfl (u2 rfl (u4 rfl (u8 rfl s4_6)))) up_h (up_m rfl (u2 rfl (u4 rfl (u8 rfl s7_6)))) (up_m rfl (u2 rfl (u4 rfl (u8 rfl s8_6)))) (up_m rfl (u2 rfl (u4 rfl (u8 rfl s9_6)))) ?_; intro e_12 s0_12 s3_12 s4_12 s5_12 s7_12 s8_12 s9_12
         refine then_n ⟨(s5_12).trans (by (refine avb ?_; simp only [letB, decide_eq_true_eq, Bool.false_eq_true, true_iff, false_iff]; omega)), (s0_12).trans (s0_6).symm, (s3_12).trans (s3_6).symm, (s4_12).trans (s4_6).symm, (s7_12).trans (s7_6).symm, (s8_12).trans (s8_6).symm, (s9_12).trans (s9_6).symm, rfl⟩
        · replace hq_11 := bf hq_11; exfalso; omega
       replace hq_8 := bf hq_8
       refine al_skip' ⟨_, rfl, .inl hb_8⟩ rfl ?_
       refine al_skip' ⟨_, rfl, .inl (up_m rfl hb_8)⟩ rfl ?_
       refine ar (ro_pickF (u2 rfl hb_8) ev_c) rfl <| ar (ro_move up_h) rfl <| al_ro' (ro_move (up_m rfl (u2 rfl (u4 rfl s4_6)))) ⟨_, rfl, up_h⟩ rfl ?_
       refine al_ro' (ro_geq up_h ev_c) ⟨_, rfl, (up_m rfl up_h)⟩ rfl ?_
       refine al_ro' (ro_move up_h) ⟨_, rfl, (u2 rfl up_h)⟩ rfl ?_
       refine al_case up_h (fun hb_14 hq_14 => ?_) (fun hb_14 hq_14 => ?_)
       ·replace hq_14 := bt hq_14
        refine al_ro' (ro_move (u2 rfl (u8 rfl s4_6))) ⟨_, rfl, hb_14⟩ rfl ?_
        refine al_ro' (ro_leq up_h ev_c) ⟨_, rfl, (up_m rfl hb_14)⟩ rfl ?_
        refine al_ro' (ro_pickT (u2 rfl hb_14) up_h) ⟨_, rfl, (up_m rfl (u4 rfl up_h))⟩ rfl ?_
        refine ar (ro_pickF (u2 rfl (u4 rfl up_h)) up_h) rfl <| ar (ro_assign up_h) rfl <| ae7 (up_m rfl (u2 rfl (u4 rfl (u8 rfl s0_6)))) (up_m rfl (u2 rfl (u4 rfl (u8 rfl s3_6)))) (up_m rfl (u2 rfl (u4 rfl (u8 rfl s4_6)))) up_h (up_m rfl (u2 rfl (u4 rfl (u8 rfl s7_6)))) (up_m rfl (u2 rfl (u4 rfl (u8 rfl s8_6)))) (up_m rfl (u2 rfl (u4 rfl (u8 rfl s9_6)))) ?_; intro e_15 s0_15 s3_15 s4_15 s5_15 s7_15 s8_15 s9_15
        refine then_n ⟨(s5_15).trans (by (refine avb ?_; simp only [letB, decide_eq_true_eq, Bool.false_eq_true, true_iff, false_iff]; omega)), (s0_15).trans (s0_6).symm, (s3_15).trans (s3_6).symm, (s4_15).trans (s4_6).symm, (s7_15).trans (s7_6).symm, (s8_15).trans (s8_6).symm, (s9_15).trans (s9_6).symm, rfl⟩
       replace hq_14 := bf hq_14
       refine al_skip' ⟨_, rfl, .inl hb_14⟩ rfl ?_
       refine al_skip' ⟨_, rfl, .inl (up_m rfl hb_14)⟩ rfl ?_
       refine al_ro' (ro_pickF (u2 rfl hb_14) ev_c) ⟨_, rfl, (up_m rfl (u4 rfl up_h))⟩ rfl ?_
       refine ar (ro_pickF (u2 rfl (u4 rfl up_h)) up_h) rfl <| ar (ro_assign up_h) rfl <| ae7 (up_m rfl (u2 rfl (u4 rfl (u8 rfl s0_6)))) (up_m rfl (u2 rfl (u4 rfl (u8 rfl s3_6)))) (up_m rfl (u2 rfl (u4 rfl (u8 rfl s4_6)))) up_h (up_m rfl (u2 rfl (u4 rfl (u8 rfl s7_6)))) (up_m rfl (u2 rfl (u4 rfl (u8 rfl s8_6)))) (up_m rfl (u2 rfl (u4 rfl (u8 rfl s9_6)))) ?_; intro e_16 s0_16 s3_16 s4_16 s5_16 s7_16 s8_16 s9_16
       refine then_n ⟨(s5_16).trans (by (refine avb ?_; simp only [letB, decide_eq_true_eq, Bool.false_eq_true, true_iff, false_iff]; omega)), (s0_16).trans (s0_6).symm, (s3_16).trans (s3_6).symm, (s4_16).trans (s4_6).symm, (s7_16).trans (s7_6).symm, (s8_16).trans (s8_6).symm, (s9_16).trans (s9_6).symm, rfl⟩
     · rintro e_7 _ ⟨s5_7, k0_7, k3_7, k4_7, k7_7, k8_7, k9_7, rfl⟩
       have s0_7 := k0_7.trans s0_6
       have s3_7 := k3_7.trans s3_6
       have s4_7 := k4_7.trans s4_6
       have s7_7 := k7_7.trans s7_6
       have s8_7 := k8_7.trans s8_6
       have s9_7 := k9_7.trans s9_6
       refine aw_seq <| aw_cut (fun e mem => (evA e (.tmp 45) = .v (.bool (!okB i.toNat (s.data.toList.getD i.toNat default)))) ∧ (evA e (.tmp 0) = evA e_7 (.tmp 0)) ∧ (evA e (.tmp 7) = evA e_7 (.tmp 7)) ∧ (evA e (.tmp 8) = evA e_7 (.tmp 8)) ∧ (evA e (.tmp 9) = evA e_7 (.tmp 9)) ∧ m_3 = mem) ?_ ?_
       ·
         refine at_ <| ar (ro_move s5_7) rfl <| ar (ro_not up_h) rfl <| ar (ro_move up_h) rfl <| al_case up_h (fun hb_18 hq_18 => ?_) (fun hb_18 hq_18 => ?_)
         ·replace hq_18 := bnt hq_18
          refine al_ro' (ro_move (up_m rfl (u2 rfl s3_7))) ⟨_, rfl, hb_18⟩ rfl ?_
          refine al_ro' (ro_eql up_h ev_c) ⟨_, rfl, (up_m rfl hb_18)⟩ rfl ?_
          refine al_ro' (ro_move up_h) ⟨_, rfl, (u2 rfl hb_18)⟩ rfl ?_
          refine al_case up_h (fun hb_19 hq_19 => ?_) (fun hb_19 hq_19 => ?_)
          ·replace hq_19 := bt hq_19
           refine al_skip' ⟨_, rfl, .inl hb_19⟩ rfl ?_
           refine al_skip' ⟨_, rfl, .inl (up_m rfl hb_19)⟩ rfl ?_
           refine al_skip' ⟨_, rfl, .inl (u2 rfl hb_19)⟩ rfl ?_
           refine al_skip' ⟨_, rfl, .inr up_h⟩ rfl ?_
           refine al_skip' ⟨_, rfl, .inr (up_m rfl up_h)⟩ rfl ?_
           refine al_skip' ⟨_, rfl, .inr (u2 rfl up_h)⟩ rfl ?_
           refine al_skip' ⟨_, rfl, .inr up_h⟩ rfl ?_
           refine al_skip' ⟨_, rfl, .inr (up_m rfl up_h)⟩ rfl ?_
           refine al_skip' ⟨_, rfl, .inr (up_m rfl (u4 rfl up_h))⟩ rfl ?_
           refine al_skip' ⟨_, rfl, .inl (up_m rfl (u8 rfl hb_19))⟩ rfl ?_
           refine al_ro' (ro_pickT (u2 rfl (u8 rfl hb_19)) ev_c) ⟨_, rfl, (up_m rfl (u4 rfl (u8 rfl hb_18)))⟩ rfl ?_
           refine ar (ro_pickT (u2 rfl (u4 rfl (u8 rfl hb_18))) up_h) rfl <| ae5 (u2 rfl (u16 rfl s0_7)) (u2 rfl (u16 rfl s7_7)) (u2 rfl (u16 rfl s8_7)) (u2 rfl (u16 rfl s9_7)) up_h ?_; intro e_20 s0_20 s7_20 s8_20 s9_20 s45_20
           refine then_n ⟨(s45_20).trans (by (refine avb ?_; simp only [letB, okB, decide_eq_true_eq, decide_eq_false_iff_not, Bool.false_eq_true, true_iff, false_iff, Bool.not_eq_true'] at *; omega)), (s0_20).trans (s0_7).symm, (s7_20).trans (s7_7).symm, (s8_20).trans (s8_7).symm, (s9_20).trans (s9_7).symm, rfl⟩
          replace hq_19 := bf hq_19
          refine al_ro' (ro_move (u2 rfl (u4 rfl s4_7))) ⟨_, rfl, hb_19⟩ rfl ?_
          refine al_ro' (ro_neq up_h ev_c) ⟨_, rfl, (up_m rfl hb_19)⟩ rfl ?_
          refine al_ro' (ro_move up_h) ⟨_, rfl, (u2 rfl hb_19)⟩ rfl ?_
          refine al_case up_h (fun hb_21 hq_21 => ?_) (fun hb_21 hq_21 => ?_)
          ·replace hq_21 := bnt hq_21
           refine al_ro' (ro_move (up_m rfl (u8 rfl s4_7))) ⟨_, rfl, hb_21⟩ rfl ?_
           refine al_ro' (ro_lss up_h ev_c) ⟨_, rfl, (up_m rfl hb_21)⟩ rfl ?_
           refine al_ro' (ro_move up_h) ⟨_, rfl, (u2 rfl hb_21)⟩ rfl ?_
           refine al_case up_h (fun hb_22 hq_22 => ?_) (fun hb_22 hq_22 => ?_)
           ·replace hq_22 := bt hq_22
            refine al_skip' ⟨_, rfl, .inl hb_22⟩ rfl ?_
            refine al_skip' ⟨_, rfl, .inl (up_m rfl hb_22)⟩ rfl ?_
            refine al_ro' (ro_pickT (u2 rfl hb_22) ev_c) ⟨_, rfl, (up_m rfl (u4 rfl hb_21))⟩ rfl ?_
            refine al_ro' (ro_pickT (u2 rfl (u4 rfl hb_21)) up_h) ⟨_, rfl, (up_m rfl (u8 rfl hb_19))⟩ rfl ?_
            refine al_ro' (ro_pickF (u2 rfl (u8 rfl hb_19)) up_h) ⟨_, rfl, (up_m rfl (u4 rfl (u8 rfl hb_18)))⟩ rfl ?_
            refine ar (ro_pickT (u2 rfl (u4 rfl (u8 rfl hb_18))) up_h) rfl <| ae5 (u2 rfl (u16 rfl s0_7)) (u2 rfl (u16 rfl s7_7)) (u2 rfl (u16 rfl s8_7)) (u2 rfl (u16 rfl s9_7)) up_h ?_; intro e_23 s0_23 s7_23 s8_23 s9_23 s45_23
            refine then_n ⟨(s45_23).trans (by (refine avb ?_; simp only [letB, okB, decide_eq_true_eq, decide_eq_false_iff_not, Bool.false_eq_true, true_iff, false_iff, Bool.not_eq_true'] at *; omega)), (s0_23).trans (s0_7).symm, (s7_23).trans (s7_7).symm, (s8_23).trans (s8_7).symm, (s9_23).trans (s9_7).symm, rfl⟩
           replace hq_22 := bf hq_22
           refine al_ro' (ro_move (u4 rfl (u8 rfl s4_7))) ⟨_, rfl, hb_22⟩ rfl ?_
           refine al_ro' (ro_gtr up_h ev_c) ⟨_, rfl, (up_m rfl hb_22)⟩ rfl ?_
           refine al_ro' (ro_pickF (u2 rfl hb_22) up_h) ⟨_, rfl, (up_m rfl (u4 rfl hb_21))⟩ rfl ?_
           refine al_ro' (ro_pickT (u2 rfl (u4 rfl hb_21)) up_h) ⟨_, rfl, (up_m rfl (u8 rfl hb_19))⟩ rfl ?_
           refine al_ro' (ro_pickF (u2 rfl (u8 rfl hb_19)) up_h) ⟨_, rfl, (up_m rfl (u4 rfl (u8 rfl hb_18)))⟩ rfl ?_
           refine ar (ro_pickT (u2 rfl (u4 rfl (u8 rfl hb_18))) up_h) rfl <| ae5 (u2 rfl (u16 rfl s0_7)) (u2 rfl (u16 rfl s7_7)) (u2 rfl (u16 rfl s8_7)) (u2 rfl (u16 rfl s9_7)) up_h ?_; intro e_24 s0_24 s7_24 s8_24 s9_24 s45_24
           refine then_n ⟨(s45_24).trans (by (refine avb ?_; simp only [letB, okB, decide_eq_true_eq, decide_eq_false_iff_not, Bool.false_eq_true, true_iff, false_iff, Bool.not_eq_true'] at *; omega)), (s0_24).trans (s0_7).symm, (s7_24).trans (s7_7).symm, (s8_24).trans (s8_7).symm, (s9_24).trans (s9_7).symm, rfl⟩
          replace hq_21 := bnf hq_21
          refine al_skip' ⟨_, rfl, .inl hb_21⟩ rfl ?_
          refine al_skip' ⟨_, rfl, .inl (up_m rfl hb_21)⟩ rfl ?_
          refine al_skip' ⟨_, rfl, .inl (u2 rfl hb_21)⟩ rfl ?_
          refine al_skip' ⟨_, rfl, .inr up_h⟩ rfl ?_
          refine al_skip' ⟨_, rfl, .inr (up_m rfl up_h)⟩ rfl ?_
          refine al_skip' ⟨_, rfl, .inl (up_m rfl (u4 rfl hb_21))⟩ rfl ?_
          refine al_ro' (ro_pickF (u2 rfl (u4 rfl hb_21)) ev_c) ⟨_, rfl, (up_m rfl (u8 rfl hb_19))⟩ rfl ?_
          refine al_ro' (ro_pickF (u2 rfl (u8 rfl hb_19)) up_h) ⟨_, rfl, (up_m rfl (u4 rfl (u8 rfl hb_18)))⟩ rfl ?_
          refine ar (ro_pickT (u2 rfl (u4 rfl (u8 rfl hb_18))) up_h) rfl <| ae5 (u2 rfl (u16 rfl s0_7)) (u2 rfl (u16 rfl s7_7)) (u2 rfl (u16 rfl s8_7)) (u2 rfl (u16 rfl s9_7)) up_h ?_; intro e_25 s0_25 s7_25 s8_25 s9_25 s45_25
          refine then_n ⟨(s45_25).trans (by (refine avb ?_; simp only [letB, okB, decide_eq_true_eq, decide_eq_false_iff_not, Bool.false_eq_true, true_iff, false_iff, Bool.not_eq_true'] at *; omega)), (s0_25).trans (s0_7).symm, (s7_25).trans (s7_7).symm, (s8_25).trans (s8_7).symm, (s9_25).trans (s9_7).symm, rfl⟩
         replace hq_18 := bnf hq_18
         refine al_skip' ⟨_, rfl, .inl hb_18⟩ rfl ?_
         refine al_skip' ⟨_, rfl, .inl (up_m rfl hb_18)⟩ rfl ?_
         refine al_skip' ⟨_, rfl, .inl (u2 rfl hb_18)⟩ rfl ?_
         refine al_skip' ⟨_, rfl, .inr up_h⟩ rfl ?_
         refine al_skip' ⟨_, rfl, .inr (up_m rfl up_h)⟩ rfl ?_
         refine al_skip' ⟨_, rfl, .inr (u2 rfl up_h)⟩ rfl ?_
         refine al_skip' ⟨_, rfl, .inr up_h⟩ rfl ?_
         refine al_skip' ⟨_, rfl, .inr (up_m rfl up_h)⟩ rfl ?_
         refine al_skip' ⟨_, rfl, .inr (u2 rfl up_h)⟩ rfl ?_
         refine al_skip' ⟨_, rfl, .inr up_h⟩ rfl ?_
         refine al_skip' ⟨_, rfl, .inr (up_m rfl up_h)⟩ rfl ?_
         refine al_skip' ⟨_, rfl, .inr (up_m rfl (u4 rfl up_h))⟩ rfl ?_
         refine al_skip' ⟨_, rfl, .inr (up_m rfl (u8 rfl up_h))⟩ rfl ?_
         refine al_skip' ⟨_, rfl, .inl (up_m rfl (u4 rfl (u8 rfl hb_18)))⟩ rfl ?_
         refine ar (ro_pickF (u2 rfl (u4 rfl (u8 rfl hb_18))) ev_c) rfl <| ae5 (u2 rfl (u16 rfl s0_7)) (u2 rfl (u16 rfl s7_7)) (u2 rfl (u16 rfl s8_7)) (u2 rfl (u16 rfl s9_7)) up_h ?_; intro e_26 s0_26 s7_26 s8_26 s9_26 s45_26
         refine then_n ⟨(s45_26).trans (by (refine avb ?_; simp only [letB, okB, decide_eq_true_eq, decide_eq_false_iff_not, Bool.false_eq_true, true_iff, false_iff, Bool.not_eq_true'] at *; omega)), (s0_26).trans (s0_7).symm, (s7_26).trans (s7_7).symm, (s8_26).trans (s8_7).symm, (s9_26).trans (s9_7).symm, rfl⟩
       · rintro e_17 _ ⟨s45_17, k0_17, k7_17, k8_17, k9_17, rfl⟩
         have s0_17 := k0_17.trans s0_7
         have s7_17 := k7_17.trans s7_7
         have s8_17 := k8_17.trans s8_7
         have s9_17 := k9_17.trans s9_7
         refine aw_case s45_17 (fun hq_27 => ?_) (fun hq_27 => ?_)
         ·replace hq_27 := bnt hq_27
          refine aw_seq <| at_ <| ar (ro_assign ev_c) rfl <| ae1 up_h ?_; clear s0_17 s45_17 s7_17 s8_17 s9_17; intro e_28 s2_28
          refine then_n <| aw_ret <| block_r <| then_r <| then_r <| block_r <| then_r <| ret1 (.inr rfl) (by kernel_rfl) (resV_tmp s2_28) (.ro _ rfl) ?_
          clear s2_28  ml_3
          (obtain ⟨h1, h2, h3⟩ := hinv; have hn : namB s.data.toList = false := namB_f (i := i.toNat) (by omega) (by first | assumption | exact okB_f (by assumption)); simp [isNameB, hn])
         replace hq_27 := bnf hq_27
         refine aw_skip <| block_n <| then_n <| at_ ?_
         (refine ar (ro_add' s9_17 ev_c ?_) rfl ?_; · (unfold In64; omega))
         refine ar (ro_move up_h) rfl <| ae4 (u2 rfl s0_17) (u2 rfl s7_17) (u2 rfl s8_17) up_h ?_; clear s0_17 s45_17 s7_17 s8_17 s9_17; intro e_29 s0_29 s7_29 s8_29 s9_29
         refine then_n <| ⟨_, ⟨s9_29, (s0_29.trans s0_2.symm), (s7_29.trans s7_2.symm), (s8_29.trans s8_2.symm), ml_3, ?_⟩, ?_⟩
         · (obtain ⟨h1, h2, h3⟩ := hinv; refine ⟨by omega, by omega, fun j hj => ?_⟩; by_cases hj' : j < i.toNat; exact h3 j hj'; have hji : j = i.toNat := (by omega); rw [hji]; first | assumption | exact okB_t (by omega))
         · ((try dsimp only); omega)
    replace hq_5 := bf hq_5
    refine aw_exit <| then_x <| then_x <| block_hit <| then_n <| aw_seq <| at_ <| ar (ro_move s0_4) rfl <| ar (ro_sneq up_h ev_c) rfl <| ar (ro_move up_h) rfl <| al_case up_h (fun hb_30 hq_30 => ?_) (fun hb_30 hq_30 => ?_)
    ·replace hq_30 := bt' hq_30
     refine al_ro' (ro_move (up_m rfl (u2 rfl s0_4))) ⟨_, rfl, hb_30⟩ rfl ?_
     refine al_ro' (ro_len_str up_h rfl qun9) ⟨_, rfl, (up_m rfl hb_30)⟩ rfl ?_
     refine al_ro' (ro_leq up_h ev_c) ⟨_, rfl, (u2 rfl hb_30)⟩ rfl ?_
     refine ar (ro_pickT (up_m rfl (u2 rfl hb_30)) up_h) rfl <| ar (ro_assign up_h) rfl <| ae1 up_h ?_; clear hb_30 s0_4 s10_4 s7_4 s8_4 s9_4; intro e_31 s2_31
     refine then_n <| aw_ret <| ret1 (.inr rfl) (by kernel_rfl) (resV_tmp s2_31) (.ro _ rfl) ?_
     clear s2_31  ml_3
     (obtain ⟨h1, h2, h3⟩ := hinv; have hn : namB s.data.toList = true := (namB_t fun j hj => h3 j (by omega)); refine avb ?_; simp only [empty_size, isNameB, hn, Bool.true_and, Bool.and_eq_true, decide_eq_true_eq, Bool.not_eq_true', decide_eq_false_iff_not, Bool.false_eq_true, false_iff, true_iff, Bool.not_eq_false'] at *; omega)
    replace hq_30 := bf' hq_30
    refine al_skip' ⟨_, rfl, .inl hb_30⟩ rfl ?_
    refine al_skip' ⟨_, rfl, .inl (up_m rfl hb_30)⟩ rfl ?_
    refine al_skip' ⟨_, rfl, .inl (u2 rfl hb_30)⟩ rfl ?_
    refine ar (ro_pickF (up_m rfl (u2 rfl hb_30)) ev_c) rfl <| ar (ro_assign up_h) rfl <| ae1 up_h ?_; clear hb_30 s0_4 s10_4 s7_4 s8_4 s9_4; intro e_32 s2_32
    refine then_n <| aw_ret <| ret1 (.inr rfl) (by kernel_rfl) (resV_tmp s2_32) (.ro _ rfl) ?_
    clear s2_32  ml_3
    (obtain ⟨h1, h2, h3⟩ := hinv; have hn : namB s.data.toList = true := (namB_t fun j hj => h3 j (by omega)); refine avb ?_; simp only [empty_size, isNameB, hn, Bool.true_and, Bool.and_eq_true, decide_eq_true_eq, Bool.not_eq_true', decide_eq_false_iff_not, Bool.false_eq_true, false_iff, true_iff, Bool.not_eq_false'] at *; omega)
set_option maxRecDepth 100000 in
set_option maxHeartbeats 4000000 in
theorem checks_ok (l : Lin) (hl : Sho l) : FnOk Try.prog 160 [lnA l] (fun q => q = .row 1 (ckV l)) := by
  obtain ⟨h1, h2, h3, h4, h5⟩ := id hl
  refine fnOk_of (fn := Try.f160) 61 (by kernel_rfl) rfl (by kernel_rfl) (Nat.le_of_ble_eq_true rfl) ?_
  intro e_0 m_0 hA hm_0
  have s0_0 : evA e_0 (.tmp 0) = _ := hA 0 _ rfl
  have ml_0 : m_0.length = 0 := by rw [hm_0]; rfl
  clear hA hm_0
  refine aw_seq <| at_ <| ar (ro_boxR s0_0 rfl (by first | rfl | (simp only [roO.roL, roO, Bool.and_true, Bool.true_and]; first | rfl | assumption) | (apply roL_flat; intro _; rfl))) rfl ?_
  refine ar (ro_assign ev_c) rfl <| ae1 (up_m rfl up_h) ?_; clear s0_0; intro e_1 s1_1
  refine then_n <| aw_seq <| at_ <| ar (ro_assign ev_f) rfl <| ae2 (up_m rfl s1_1) up_h ?_; clear s1_1; intro e_2 s1_2 s3_2
  refine then_n <| aw_seq <| at_ <| ar (ro_assign ev_f) rfl <| ae3 (up_m rfl s1_2) (up_m rfl s3_2) up_h ?_; clear s1_2 s3_2; intro e_3 s1_3 s3_3 s4_3
  refine then_n <| aw_seq <| aw_draw 57 (by kernel_rfl) (by kernel_rfl) (by kernel_rfl) (by kernel_rfl) ?_
  refine dr (ro_move s3_3) rfl <| dr (ro_eq (ro_fld_ref qfl26_0 rfl (up_m rfl s1_3)) (by simp only [pS, Value.cells, Nat.reduceAdd] <;> rfl)) rfl ?_
  refine dr (ro_eq (ro_ld_ref y3_ty9 rfl up_h (nle rfl)) (by simp only [pS, Value.cells, Nat.reduceAdd] <;> rfl)) rfl ?_
  refine dr (ro_call (evL_cons up_h evL_nil) rfl (yIsName_ok l.nam (by omega)) qhcf174) rfl ?_
  refine dr (ro_call (evL_cons up_h (evL_cons ev_c evL_nil)) rfl (yUnless_ok _ _) qhcf94) rfl <| dr (ro_callf (u4 rfl up_h) (evL_cons up_h evL_nil) rfl (itself_ok _) y3_hcf170) rfl <| dr (ro_move (u2 rfl (u4 rfl s3_3))) rfl <| dr (ro_eq (ro_fld_ref qfl26_2 rfl (up_m rfl (u2 rfl (u4 rfl s1_3)))) (by simp only [pS, Value.cells, Nat.reduceAdd] <;> rfl)) rfl ?_
  refine dr (ro_eq (ro_ld_ref y3_ty23 rfl up_h (nle rfl)) (by simp only [pS, Value.cells, Nat.reduceAdd] <;> rfl)) rfl ?_
  refine dr (ro_eq (ro_len_row up_h rfl y3_sl23.1) (by simp only [lnS] <;> rfl)) rfl ?_
  refine dr (ro_gtr up_h ev_c) rfl <| dr (ro_move up_h) rfl <| ds_case up_h (fun hb_4 hq_4 => ?_) (fun hb_4 hq_4 => ?_)
  ·replace hq_4 := bt hq_4
   refine ds_ro' (ro_eq (ro_fld_ref qfl26_1 rfl (u4 rfl (u8 rfl s1_3))) (by simp only [pS, Value.cells, Nat.reduceAdd] <;> rfl)) ⟨_, rfl, hb_4⟩ rfl ?_
   refine ds_ro' (ro_eq (ro_ld_ref y3_ty22 rfl up_h (nle rfl)) (by simp only [pS, Value.cells, Nat.reduceAdd] <;> rfl)) ⟨_, rfl, (up_m rfl hb_4)⟩ rfl ?_
   refine ds_ro' (ro_eq (ro_len_row up_h rfl y3_sl22.1) (by simp only [lnS] <;> rfl)) ⟨_, rfl, (u2 rfl hb_4)⟩ rfl ?_
   refine ds_ro' (ro_eq (ro_fld_ref qfl26_2 rfl (up_m rfl (u2 rfl (u4 rfl (u8 rfl s1_3))))) (by simp only [pS, Value.cells, Nat.reduceAdd] <;> rfl)) ⟨_, rfl, (up_m rfl (u2 rfl hb_4))⟩ rfl ?_
   refine ds_ro' (ro_eq (ro_ld_ref y3_ty23 rfl up_h (nle rfl)) (by simp only [pS, Value.cells, Nat.reduceAdd] <;> rfl)) ⟨_, rfl, (u4 rfl hb_4)⟩ rfl ?_
   refine ds_ro' (ro_eq (ro_len_row up_h rfl y3_sl23.1) (by simp only [lnS] <;> rfl)) ⟨_, rfl, (up_m rfl (u4 rfl hb_4))⟩ rfl ?_
   (refine ds_ro' (ro_add' up_h ev_c ?_) ⟨_, rfl, (u2 rfl (u4 rfl hb_4))⟩ rfl ?_; · (unfold In64; omega))
   refine ds_ro' (ro_eql (u4 rfl up_h) up_h) ⟨_, rfl, (up_m rfl (u2 rfl (u4 rfl hb_4)))⟩ rfl ?_
   refine dr (ro_pickT (u8 rfl hb_4) up_h) rfl <| dr (ro_call (evL_cons up_h (evL_cons ev_c evL_nil)) rfl (yUnless_ok _ _) qhcf94) rfl <| dr (ro_callf (up_m rfl (u2 rfl (u4 rfl (u8 rfl up_h)))) (evL_cons up_h evL_nil) rfl (itself_ok _) y3_hcf170) rfl <| dr (ro_move (up_m rfl (u2 rfl (u4 rfl (u16 rfl s3_3))))) rfl <| dr (ro_eq (ro_fld_ref qfl26_2 rfl (u8 rfl (u16 rfl s1_3))) (by simp only [pS, Value.cells, Nat.reduceAdd] <;> rfl)) rfl ?_
   refine dr (ro_eq (ro_ld_ref y3_ty23 rfl up_h (nle rfl)) (by simp only [pS, Value.cells, Nat.reduceAdd] <;> rfl)) rfl ?_
   refine dr (ro_eq (ro_len_row up_h rfl y3_sl23.1) (by simp only [lnS] <;> rfl)) rfl ?_
   refine dr (ro_leq up_h ev_c) rfl <| dr (ro_call (evL_cons up_h (evL_cons ev_c evL_nil)) rfl (yUnless_ok _ _) qhcf94) rfl <| dr (ro_callf (up_m rfl (u4 rfl up_h)) (evL_cons up_h evL_nil) rfl (itself_ok _) y3_hcf170) rfl <| dr (ro_move (u2 rfl (u4 rfl (u8 rfl (u16 rfl s4_3))))) rfl <| dr (ro_eq (ro_fld_ref qfl26_1 rfl (up_m rfl (u2 rfl (u4 rfl (u8 rfl (u16 rfl s1_3)))))) (by simp only [pS, Value.cells, Nat.reduceAdd] <;> rfl)) rfl ?_
   refine dr (ro_eq (ro_ld_ref y3_ty22 rfl up_h (nle rfl)) (by simp only [pS, Value.cells, Nat.reduceAdd] <;> rfl)) rfl ?_
   refine dr (ro_eq (ro_len_row up_h rfl y3_sl22.1) (by simp only [lnS] <;> rfl)) rfl ?_
   refine dr (ro_makeFunc evL_nil (evL_cons (u2 rfl (u16 rfl (u16 rfl s1_3))) evL_nil)) rfl <| dr (ro_callf (u4 rfl up_h) (evL_cons ev_c (evL_cons (up_m rfl up_h) (evL_cons up_h evL_nil))) rfl (each_ok _ _ _ _ rfl) y3_hcf172) rfl <| dr (ro_move (u4 rfl (u16 rfl (u16 rfl s4_3)))) rfl <| dr (ro_eq (ro_fld_ref qfl26_2 rfl (up_m rfl (u4 rfl (u16 rfl (u16 rfl s1_3))))) (by simp only [pS, Value.cells, Nat.reduceAdd] <;> rfl)) rfl ?_
   refine dr (ro_eq (ro_ld_ref y3_ty23 rfl up_h (nle rfl)) (by simp only [pS, Value.cells, Nat.reduceAdd] <;> rfl)) rfl ?_
   refine dr (ro_eq (ro_len_row up_h rfl y3_sl23.1) (by simp only [lnS] <;> rfl)) rfl ?_
   refine dr (ro_makeFunc evL_nil (evL_cons (u8 rfl (u16 rfl (u16 rfl s1_3))) evL_nil)) rfl <| dr (ro_callf (u4 rfl up_h) (evL_cons ev_c (evL_cons (up_m rfl up_h) (evL_cons up_h evL_nil))) rfl (each_ok _ _ _ _ rfl) y3_hcf172) rfl <| dr (ro_move (u2 rfl (u8 rfl (u16 rfl (u16 rfl s3_3))))) rfl <| dr (ro_eq (ro_fld_ref qfl26_3 rfl (up_m rfl (u2 rfl (u8 rfl (u16 rfl (u16 rfl s1_3)))))) (by simp only [pS, Value.cells, Nat.reduceAdd] <;> rfl)) rfl ?_
   refine dr (ro_eq (ro_ld_ref y3_ty24 rfl up_h (nle rfl)) (by simp only [pS, Value.cells, Nat.reduceAdd] <;> rfl)) rfl ?_
   refine dr (ro_eq (ro_len_row up_h rfl y3_sl24.1) (by simp only [lnS] <;> rfl)) rfl ?_
   refine dr (ro_leq up_h ev_c) rfl <| dr (ro_call (evL_cons up_h (evL_cons ev_c evL_nil)) rfl (yUnless_ok _ _) qhcf94) rfl <| dr (ro_callf (up_m rfl (u4 rfl up_h)) (evL_cons up_h evL_nil) rfl (itself_ok _) y3_hcf170) rfl <| dr (ro_move (up_m rfl (u16 rfl (u16 rfl (u16 rfl s4_3))))) rfl <| dr (ro_eq (ro_fld_ref qfl26_3 rfl (u2 rfl (u16 rfl (u16 rfl (u16 rfl s1_3))))) (by simp only [pS, Value.cells, Nat.reduceAdd] <;> rfl)) rfl ?_
   refine dr (ro_eq (ro_ld_ref y3_ty24 rfl up_h (nle rfl)) (by simp only [pS, Value.cells, Nat.reduceAdd] <;> rfl)) rfl ?_
   refine dr (ro_eq (ro_len_row up_h rfl y3_sl24.1) (by simp only [lnS] <;> rfl)) rfl ?_
   refine dr (ro_makeFunc evL_nil (evL_cons (up_m rfl (u4 rfl (u16 rfl (u16 rfl (u16 rfl s1_3))))) evL_nil)) rfl <| dr (ro_callf (u4 rfl up_h) (evL_cons ev_c (evL_cons (up_m rfl up_h) (evL_cons up_h evL_nil))) rfl (each_ok _ _ _ _ rfl) y3_hcf172) rfl <| dr (ro_lit y3_sl202 (evP_cons (up_m rfl (u16 rfl (u16 rfl (u16 rfl up_h)))) (evP_cons (u16 rfl (u16 rfl up_h)) (evP_cons (up_m rfl (u8 rfl (u16 rfl up_h))) (evP_cons (up_m rfl (u2 rfl (u16 rfl up_h))) (evP_cons (up_m rfl (u4 rfl (u8 rfl up_h))) (evP_cons (u2 rfl (u4 rfl up_h)) (evP_cons up_h evP_nil))))))) rfl rfl rfl rfl) rfl <| dr (ro_assign up_h) rfl <| ds_nil <| ae1 up_h ?_; clear hb_4 s1_3 s3_3 s4_3; intro e_5 s2_5
   refine then_n <| aw_ret <| ret1 (.inr rfl) (by kernel_rfl) (resV_tmp s2_5) (.ro _ rfl) ?_
   clear s2_5  ml_0
   (have hp : (0 : Int) < l.bs.length := (by assumption); have hd : decide ((0 : Int) < l.bs.length ∧ (l.js.length : Int) = l.bs.length + 1) = decide ((l.js.length : Int) = l.bs.length + 1) := decide_eq_decide.2 ⟨fun h => h.2, fun h => ⟨hp, h⟩⟩; unfold ckV; rw [hd])
  replace hq_4 := bf hq_4
  refine ds_skip' ⟨_, rfl, .inl hb_4⟩ rfl ?_
  refine ds_skip' ⟨_, rfl, .inl (up_m rfl hb_4)⟩ rfl ?_
  refine ds_skip' ⟨_, rfl, .inl (u2 rfl hb_4)⟩ rfl ?_
  refine ds_skip' ⟨_, rfl, .inl (up_m rfl (u2 rfl hb_4))⟩ rfl ?_
  refine ds_skip' ⟨_, rfl, .inl (u4 rfl hb_4)⟩ rfl ?_
  refine ds_skip' ⟨_, rfl, .inl (up_m rfl (u4 rfl hb_4))⟩ rfl ?_
  refine ds_skip' ⟨_, rfl, .inl (u2 rfl (u4 rfl hb_4))⟩ rfl ?_
  refine ds_skip' ⟨_, rfl, .inl (up_m rfl (u2 rfl (u4 rfl hb_4)))⟩ rfl ?_
  refine dr (ro_pickF (u8 rfl hb_4) ev_c) rfl <| dr (ro_call (evL_cons up_h (evL_cons ev_c evL_nil)) rfl (yUnless_ok _ _) qhcf94) rfl <| dr (ro_callf (up_m rfl (u2 rfl (u4 rfl (u8 rfl up_h)))) (evL_cons up_h evL_nil) rfl (itself_ok _) y3_hcf170) rfl <| dr (ro_move (up_m rfl (u2 rfl (u4 rfl (u16 rfl s3_3))))) rfl <| dr (ro_eq (ro_fld_ref qfl26_2 rfl (u8 rfl (u16 rfl s1_3))) (by simp only [pS, Value.cells, Nat.reduceAdd] <;> rfl)) rfl ?_
  refine dr (ro_eq (ro_ld_ref y3_ty23 rfl up_h (nle rfl)) (by simp only [pS, Value.cells, Nat.reduceAdd] <;> rfl)) rfl ?_
  refine dr (ro_eq (ro_len_row up_h rfl y3_sl23.1) (by simp only [lnS] <;> rfl)) rfl ?_
  refine dr (ro_leq up_h ev_c) rfl <| dr (ro_call (evL_cons up_h (evL_cons ev_c evL_nil)) rfl (yUnless_ok _ _) qhcf94) rfl <| dr (ro_callf (up_m rfl (u4 rfl up_h)) (evL_cons up_h evL_nil) rfl (itself_ok _) y3_hcf170) rfl <| dr (ro_move (u2 rfl (u4 rfl (u8 rfl (u16 rfl s4_3))))) rfl <| dr (ro_eq (ro_fld_ref qfl26_1 rfl (up_m rfl (u2 rfl (u4 rfl (u8 rfl (u16 rfl s1_3)))))) (by simp only [pS, Value.cells, Nat.reduceAdd] <;> rfl)) rfl ?_
  refine dr (ro_eq (ro_ld_ref y3_ty22 rfl up_h (nle rfl)) (by simp only [pS, Value.cells, Nat.reduceAdd] <;> rfl)) rfl ?_
  refine dr (ro_eq (ro_len_row up_h rfl y3_sl22.1) (by simp only [lnS] <;> rfl)) rfl ?_
  refine dr (ro_makeFunc evL_nil (evL_cons (u2 rfl (u16 rfl (u16 rfl s1_3))) evL_nil)) rfl <| dr (ro_callf (u4 rfl up_h) (evL_cons ev_c (evL_cons (up_m rfl up_h) (evL_cons up_h evL_nil))) rfl (each_ok _ _ _ _ rfl) y3_hcf172) rfl <| dr (ro_move (u4 rfl (u16 rfl (u16 rfl s4_3)))) rfl <| dr (ro_eq (ro_fld_ref qfl26_2 rfl (up_m rfl (u4 rfl (u16 rfl (u16 rfl s1_3))))) (by simp only [pS, Value.cells, Nat.reduceAdd] <;> rfl)) rfl ?_
  refine dr (ro_eq (ro_ld_ref y3_ty23 rfl up_h (nle rfl)) (by simp only [pS, Value.cells, Nat.reduceAdd] <;> rfl)) rfl ?_
  refine dr (ro_eq (ro_len_row up_h rfl y3_sl23.1) (by simp only [lnS] <;> rfl)) rfl ?_
  refine dr (ro_makeFunc evL_nil (evL_cons (u8 rfl (u16 rfl (u16 rfl s1_3))) evL_nil)) rfl <| dr (ro_callf (u4 rfl up_h) (evL_cons ev_c (evL_cons (up_m rfl up_h) (evL_cons up_h evL_nil))) rfl (each_ok _ _ _ _ rfl) y3_hcf172) rfl <| dr (ro_move (u2 rfl (u8 rfl (u16 rfl (u16 rfl s3_3))))) rfl <| dr (ro_eq (ro_fld_ref qfl26_3 rfl (up_m rfl (u2 rfl (u8 rfl (u16 rfl (u16 rfl s1_3)))))) (by simp only [pS, Value.cells, Nat.reduceAdd] <;> rfl)) rfl ?_
  refine dr (ro_eq (ro_ld_ref y3_ty24 rfl up_h (nle rfl)) (by simp only [pS, Value.cells, Nat.reduceAdd] <;> rfl)) rfl ?_
  refine dr (ro_eq (ro_len_row up_h rfl y3_sl24.1) (by simp only [lnS] <;> rfl)) rfl ?_
  refine dr (ro_leq up_h ev_c) rfl <| dr (ro_call (evL_cons up_h (evL_cons ev_c evL_nil)) rfl (yUnless_ok _ _) qhcf94) rfl <| dr (ro_callf (up_m rfl (u4 rfl up_h)) (evL_cons up_h evL_nil) rfl (itself_ok _) y3_hcf170) rfl <| dr (ro_move (up_m rfl (u16 rfl (u16 rfl (u16 rfl s4_3))))) rfl <| dr (ro_eq (ro_fld_ref qfl26_3 rfl (u2 rfl (u16 rfl (u16 rfl (u16 rfl s1_3))))) (by simp only [pS, Value.cells, Nat.reduceAdd] <;> rfl)) rfl ?_
  refine dr (ro_eq (ro_ld_ref y3_ty24 rfl up_h (nle rfl)) (by simp only [pS, Value.cells, Nat.reduceAdd] <;> rfl)) rfl ?_
  refine dr (ro_eq (ro_len_row up_h rfl y3_sl24.1) (by simp only [lnS] <;> rfl)) rfl ?_
  refine dr (ro_makeFunc evL_nil (evL_cons (up_m rfl (u4 rfl (u16 rfl (u16 rfl (u16 rfl s1_3))))) evL_nil)) rfl <| dr (ro_callf (u4 rfl up_h) (evL_cons ev_c (evL_cons (up_m rfl up_h) (evL_cons up_h evL_nil))) rfl (each_ok _ _ _ _ rfl) y3_hcf172) rfl <| dr (ro_lit y3_sl202 (evP_cons (up_m rfl (u16 rfl (u16 rfl (u16 rfl up_h)))) (evP_cons (u16 rfl (u16 rfl up_h)) (evP_cons (up_m rfl (u8 rfl (u16 rfl up_h))) (evP_cons (up_m rfl (u2 rfl (u16 rfl up_h))) (evP_cons (up_m rfl (u4 rfl (u8 rfl up_h))) (evP_cons (u2 rfl (u4 rfl up_h)) (evP_cons up_h evP_nil))))))) rfl rfl rfl rfl) rfl <| dr (ro_assign up_h) rfl <| ds_nil <| ae1 up_h ?_; clear hb_4 s1_3 s3_3 s4_3; intro e_6 s2_6
  refine then_n <| aw_ret <| ret1 (.inr rfl) (by kernel_rfl) (resV_tmp s2_6) (.ro _ rfl) ?_
  clear s2_6  ml_0
  (have hd : decide ((0 : Int) < l.bs.length ∧ (l.js.length : Int) = l.bs.length + 1) = false := decide_eq_false (fun h => absurd h.1 (by omega)); unfold ckV; rw [hd])
end Go.Proofs.Ytonjcljnpcmenaa

