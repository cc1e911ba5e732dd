/- Texts of this claim, one behind the other: lemmas for the statement. -/
import Derived.Test.YtjhcfpdgldpicaaT0
import Derived.Test.YtjhcfpdgldpicaaM4
import Derived.Test.YtjhcfpdgldpicaaA21
set_option linter.unusedSimpArgs false
set_option linter.unusedVariables false
namespace Go.Proofs.Ytjhcfpdgldpicaa
open Go Go.RowKit Go.Proofs
theorem y2_hcf79 : ∀ args w, (callFunc 79 args).run Try.prog w = .ok (.enter 79 args) w := fun _ _ => by kernel_rfl
theorem y2_sl100 : SlIs Try.prog 100 29 1 8 (.int .i64 0) := ⟨by kernel_rfl, by kernel_rfl, by kernel_rfl⟩
theorem y2_sl22 : SlIs Try.prog 22 66 4 32 (.agg #[.int .i64 0, .int .i64 0, .int .i64 0, .int .i64 0]) := ⟨by kernel_rfl, by kernel_rfl, by kernel_rfl⟩
theorem y2_sl23 : SlIs Try.prog 23 69 2 16 (.agg #[.int .i64 0, .int .i64 0]) := ⟨by kernel_rfl, by kernel_rfl, by kernel_rfl⟩
theorem y2_ty113 : TyIs Try.prog 113 true 3 := ⟨by kernel_rfl, by kernel_rfl⟩
theorem y2_ty22 : TyIs Try.prog 22 false 1 := ⟨by kernel_rfl, by kernel_rfl⟩
theorem y2_ty23 : TyIs Try.prog 23 false 1 := ⟨by kernel_rfl, by kernel_rfl⟩
theorem y2_ty29 : TyIs Try.prog 29 false 1 := ⟨by kernel_rfl, by kernel_rfl⟩
theorem y2_ty3 : TyIs Try.prog 3 false 1 := ⟨by kernel_rfl, by kernel_rfl⟩
theorem y2_ty66 : TyIs Try.prog 66 true 4 := ⟨by kernel_rfl, by kernel_rfl⟩
theorem y2_ty69 : TyIs Try.prog 69 true 2 := ⟨by kernel_rfl, by kernel_rfl⟩
theorem avj {a b : Int} (h : a = b) : AV.v (.int .i64 a) = .v (.int .i64 b) := by rw [h]
abbrev lnC (l : Lin) : List AV := [.v (.string l.nam), .row 4 (l.js.map jnE), .row 2 (l.bs.map beE), .row 3 (l.ss.map swE)]
set_option maxRecDepth 100000 in
set_option maxHeartbeats 1000000 in
theorem yWithin_ok (n lo hi : Int) : FnOk Try.prog 57 [mA n, mA lo, mA hi] (fun q => q = tbA (withinB n lo hi)) := by
 refine fnOk_of (fn := Try.f57) 15 (by kernel_rfl) rfl (by kernel_rfl) (Nat.le_of_ble_eq_true rfl) ?_
 intro e_0 m_0 hA hm_0
 have s0_0 : evA e_0 (.tmp 0) = _ := hA 0 _ rfl
 have s1_0 : evA e_0 (.tmp 1) = _ := hA 1 _ rfl
 have s2_0 : evA e_0 (.tmp 2) = _ := hA 2 _ rfl
 have ml_0 : m_0.length = 0 := by rw [hm_0]; rfl
 clear hA hm_0
 refine aw_seq <| at_ <| ar (ro_assign ev_c) rfl <| ae3 (up_m rfl s0_0) (up_m rfl s1_0) (up_m rfl s2_0) ?_; clear s0_0 s1_0 s2_0; intro e_1 s0_1 s1_1 s2_1
 refine then_n <| aw_seq <| at_ <| ar (ro_move s1_1) rfl <| ar (ro_move (up_m rfl s0_1)) rfl <| ar (ro_leq (up_m rfl up_h) up_h) rfl <| ar (ro_move up_h) rfl <| al_case up_h (fun hb_2 hq_2 => ?_) (fun hb_2 hq_2 => ?_)
 ·replace hq_2 := bt hq_2
  refine al_ro' (ro_move (u4 rfl s0_1)) ⟨_, rfl, hb_2⟩ rfl ?_
  refine al_ro' (ro_move (up_m rfl (u4 rfl s2_1))) ⟨_, rfl, (up_m rfl hb_2)⟩ rfl ?_
  refine al_ro' (ro_leq (up_m rfl up_h) up_h) ⟨_, rfl, (u2 rfl hb_2)⟩ rfl ?_
  refine ar (ro_pickT (up_m rfl (u2 rfl hb_2)) up_h) rfl <| ar (ro_assign up_h) rfl <| ae1 up_h ?_; clear hb_2 s0_1 s1_1 s2_1; intro e_3 s6_3
  refine then_n <| aw_ret <| ret1 (.inr rfl) (by kernel_rfl) (resV_tmp s6_3) (.ro _ rfl) ?_
  clear s6_3 ml_0
  (first | rfl | (simp [withinB, *]; done) | (simp [withinB, *] <;> omega) | (simp_all [withinB]; done) | (simp_all [withinB] <;> omega))
 replace hq_2 := bf hq_2
 refine al_skip' ⟨_, rfl, .inl hb_2⟩ rfl ?_
 refine al_skip' ⟨_, rfl, .inl (up_m rfl hb_2)⟩ rfl ?_
 refine al_skip' ⟨_, rfl, .inl (u2 rfl hb_2)⟩ rfl ?_
 refine ar (ro_pickF (up_m rfl (u2 rfl hb_2)) ev_c) rfl <| ar (ro_assign up_h) rfl <| ae1 up_h ?_; clear hb_2 s0_1 s1_1 s2_1; intro e_4 s6_4
 refine then_n <| aw_ret <| ret1 (.inr rfl) (by kernel_rfl) (resV_tmp s6_4) (.ro _ rfl) ?_
 clear s6_4 ml_0
 (first | rfl | (simp [withinB, *]; done) | (simp [withinB, *] <;> omega) | (simp_all [withinB]; done) | (simp_all [withinB] <;> omega))
set_option maxRecDepth 100000 in
set_option maxHeartbeats 1000000 in
theorem ySmall_ok (n m : Int) (hm : -1000000000 ≤ m ∧ m ≤ 1000000000) : FnOk Try.prog 79 [mA n, mA m] (fun q => q = tbA (smaB n m)) := by
 refine fnOk_of (fn := Try.f79) 10 (by kernel_rfl) rfl (by kernel_rfl) (Nat.le_of_ble_eq_true rfl) ?_
 intro e_0 m_0 hA hm_0
 have s0_0 : evA e_0 (.tmp 0) = _ := hA 0 _ rfl
 have s1_0 : evA e_0 (.tmp 1) = _ := hA 1 _ rfl
 have ml_0 : m_0.length = 0 := by rw [hm_0]; rfl
 clear hA hm_0
 refine aw_seq <| at_ <| ar (ro_assign ev_c) rfl <| ae2 (up_m rfl s0_0) (up_m rfl s1_0) ?_; clear s0_0 s1_0; intro e_1 s0_1 s1_1
 refine then_n <| aw_seq <| at_ <| ar (ro_move s0_1) rfl <| ar (ro_move (up_m rfl s1_1)) rfl ?_
 (refine ar (ro_neg' up_h ?_) rfl ?_; · (unfold In64; omega))
 refine ar (ro_move (up_m rfl (u2 rfl s1_1))) rfl <| ar (ro_call (evL_cons (up_m rfl (u2 rfl up_h)) (evL_cons (up_m rfl up_h) (evL_cons up_h evL_nil))) rfl (yWithin_ok _ _ _) qhcf57) rfl <| ar (ro_assign up_h) rfl <| ae1 up_h ?_; clear s0_1 s1_1; intro e_2 s4_2
 refine then_n <| aw_ret <| ret1 (.inr rfl) (by kernel_rfl) (resV_tmp s4_2) (.ro _ rfl) ?_
 clear s4_2 ml_0
 rfl
set_option maxRecDepth 100000 in
set_option maxHeartbeats 1000000 in
theorem isAcross_ok (n : Int) : FnOk Try.prog 78 [mA n] (fun q => q = tbA (smaB n 20000)) := by
 refine fnOk_of (fn := Try.f78) 5 (by kernel_rfl) rfl (by kernel_rfl) (Nat.le_of_ble_eq_true rfl) ?_
 intro e_0 m_0 hA hm_0
 have s0_0 : evA e_0 (.tmp 0) = _ := hA 0 _ rfl
 have ml_0 : m_0.length = 0 := by rw [hm_0]; rfl
 clear hA hm_0
 refine aw_seq <| at_ <| ar (ro_assign ev_c) rfl <| ae1 (up_m rfl s0_0) ?_; clear s0_0; intro e_1 s0_1
 refine then_n <| aw_seq <| at_ <| ar (ro_move s0_1) rfl <| ar (ro_call (evL_cons up_h (evL_cons ev_c evL_nil)) rfl (ySmall_ok _ _ (by decide)) y2_hcf79) rfl ?_
 refine ar (ro_assign up_h) rfl <| ae1 up_h ?_; clear s0_1; intro e_2 s2_2
 refine then_n <| aw_ret <| ret1 (.inr rfl) (by kernel_rfl) (resV_tmp s2_2) (.ro _ rfl) ?_
 clear s2_2 ml_0
 rfl
set_option maxRecDepth 100000 in
set_option maxHeartbeats 1000000 in
theorem yUnless_ok (ok : Bool) (e : Int) : FnOk Try.prog 56 [tbA ok, mA e] (fun q => q = mA (unlessE ok e)) := by
 refine fnOk_of (fn := Try.f56) 7 (by kernel_rfl) rfl (by kernel_rfl) (Nat.le_of_ble_eq_true rfl) ?_
 intro e_0 m_0 hA hm_0
 have s0_0 : evA e_0 (.tmp 0) = _ := hA 0 _ rfl
 have s1_0 : evA e_0 (.tmp 1) = _ := hA 1 _ rfl
 have ml_0 : m_0.length = 0 := by rw [hm_0]; rfl
 clear hA hm_0
 refine aw_seq <| at_ <| ar (ro_assign ev_c) rfl <| ae2 (up_m rfl s0_0) (up_m rfl s1_0) ?_; clear s0_0 s1_0; intro e_1 s0_1 s1_1
 refine then_n <| aw_seq <| aw_seq <| at_ <| ar (ro_move s0_1) rfl <| ae2 (up_m rfl s1_1) up_h ?_; clear s0_1 s1_1; intro e_2 s1_2 s5_2
 refine then_n <| aw_case s5_2 (fun hq_3 => ?_) (fun hq_3 => ?_)
 ·skip
  refine aw_seq <| at_ <| ar (ro_assign ev_c) rfl <| ae1 up_h ?_; clear s1_2 s5_2; intro e_4 s4_4
  refine then_n <| aw_ret <| then_r <| ret1 (.inr rfl) (by kernel_rfl) (resV_tmp s4_4) (.ro _ rfl) ?_
  clear s4_4 ml_0
  (first | rfl | (simp [unlessE, *]; done) | (simp [unlessE, *] <;> omega) | (simp_all [unlessE]; done) | (simp_all [unlessE] <;> omega))
 refine aw_skip <| then_n <| aw_seq <| at_ <| ar (ro_move s1_2) rfl <| ar (ro_assign up_h) rfl <| ae1 up_h ?_; clear s1_2 s5_2; intro e_5 s4_5
 refine then_n <| aw_ret <| ret1 (.inr rfl) (by kernel_rfl) (resV_tmp s4_5) (.ro _ rfl) ?_
 clear s4_5 ml_0
 (first | rfl | (simp [unlessE, *]; done) | (simp [unlessE, *] <;> omega) | (simp_all [unlessE]; done) | (simp_all [unlessE] <;> omega))
set_option maxRecDepth 100000 in
set_option maxHeartbeats 1000000 in
theorem yFirst_ok (l : List Int) (hl : l.length ≤ 1000) : FnOk Try.prog 37 [.row 1 (l.map iE)] (fun q => q = mA (firstE l)) := by
 refine fnOk_of (fn := Try.f37) 15 (by kernel_rfl) rfl (by kernel_rfl) (Nat.le_of_ble_eq_true rfl) ?_
 intro e_0 m_0 hA hm_0
 have s0_0 : evA e_0 (.tmp 0) = _ := hA 0 _ rfl
 have ml_0 : m_0.length = 0 := by rw [hm_0]; rfl
 clear hA hm_0
 refine aw_seq <| at_ <| ar (ro_assign ev_c) rfl <| ae1 (up_m rfl s0_0) ?_; clear s0_0; intro e_1 s0_1
 refine then_n <| aw_seq <| aw_seq <| at_ <| ar (ro_move s0_1) rfl <| ar (ro_eq (ro_len_row up_h rfl y2_sl100.1) (by simp only [lnS] <;> rfl)) rfl ?_
 refine ar (ro_move ev_c) rfl <| ae3 (u2 rfl up_h) (up_m rfl up_h) up_h ?_; clear s0_1; intro e_2 s5_2 s6_2 s7_2
 refine then_n <| aw_block <| aw_loop (S := Int) (fun i e mem => (evA e (.tmp 7) = .v (.int .i64 i)) ∧ (evA e (.tmp 5) = evA e_2 (.tmp 5)) ∧ (evA e (.tmp 6) = evA e_2 (.tmp 6)) ∧ (mem.length = 0) ∧ ((0 ≤ i ∧ i ≤ l.length ∧ firstE (l.drop i.toNat) = firstE l))) (fun i => (l.length - i).toNat) _ ⟨s7_2, rfl, rfl, ml_0, ?_⟩ ?_
 ·exact ⟨by omega, by omega, rfl⟩
 ·rintro i e_3 m_3 ⟨s7_3, k5_3, k6_3, ml_3, hinv⟩
  have s5_3 := k5_3.trans s5_2
  have s6_3 := k6_3.trans s6_2
  refine aw_seq <| at_ <| ar (ro_lss s7_3 s6_3) rfl <| ae4 (up_m rfl s5_3) (up_m rfl s6_3) (up_m rfl s7_3) up_h ?_; clear s5_3 s6_3 s7_3; intro e_4 s5_4 s6_4 s7_4 s8_4
  refine then_n <| aw_seq <| aw_case s8_4 (fun hq_5 => ?_) (fun hq_5 => ?_)
  ·replace hq_5 := bt hq_5
   refine aw_skip <| then_n <| aw_seq <| aw_block <| aw_seq <| at_ <| ar (ro_eq (ro_ix y2_sl100 s5_4 s7_4 (by omega) (by first | (refine idx_map ?_; first | omega | (simp only [lnS]; omega)) | (refine idx_mapI ?_; first | omega | (simp only [lnS]; omega)) | (refine idx_mapN ?_; first | omega | (simp only [lnS]; omega)) | rfl)) (by simp only [pS, Value.cells, Nat.reduceAdd] <;> rfl)) rfl ?_
   refine ar (ro_eq (ro_ld_ref y2_ty29 rfl up_h (nle rfl)) (by simp only [pS, Value.cells, Nat.reduceAdd] <;> rfl)) rfl ?_
   refine ar (ro_assign up_h) rfl <| ae4 up_h (up_m rfl (u2 rfl s5_4)) (up_m rfl (u2 rfl s6_4)) (up_m rfl (u2 rfl s7_4)) ?_; clear s5_4 s6_4 s7_4 s8_4; intro e_6 s4_6 s5_6 s6_6 s7_6
   refine then_n <| aw_seq <| at_ <| ar (ro_move s4_6) rfl <| ar (ro_neq up_h ev_c) rfl <| ae5 (u2 rfl s4_6) (u2 rfl s5_6) (u2 rfl s6_6) (u2 rfl s7_6) up_h ?_; clear s4_6 s5_6 s6_6 s7_6; intro e_7 s4_7 s5_7 s6_7 s7_7 s12_7
   refine then_n <| aw_case s12_7 (fun hq_8 => ?_) (fun hq_8 => ?_)
   ·replace hq_8 := bnt hq_8
    refine aw_seq <| at_ <| ar (ro_move s4_7) rfl <| ar (ro_assign up_h) rfl <| ae1 up_h ?_; clear s12_7 s4_7 s5_7 s6_7 s7_7; intro e_9 s2_9
    refine then_n <| aw_ret <| block_r <| then_r <| then_r <| block_r <| then_r <| ret1 (.inr rfl) (by kernel_rfl) (resV_tmp s2_9) (.ro _ rfl) ?_
    clear s2_9 ml_3
    obtain ⟨h1, h2, h3⟩ := hinv; rw [← h3, firstE_drop (i := i.toNat) (by omega), if_neg (by assumption)]; rfl
   replace hq_8 := bnf hq_8
   refine aw_skip <| block_n <| then_n <| at_ ?_
   (refine ar (ro_add' s7_7 ev_c ?_) rfl ?_; · (unfold In64; omega))
   refine ar (ro_move up_h) rfl <| ae3 (u2 rfl s5_7) (u2 rfl s6_7) up_h ?_; clear s12_7 s4_7 s5_7 s6_7 s7_7; intro e_10 s5_10 s6_10 s7_10
   refine then_n <| ⟨_, ⟨s7_10, (s5_10.trans s5_2.symm), (s6_10.trans s6_2.symm), ml_3, ?_⟩, ?_⟩
   ·(obtain ⟨h1, h2, h3⟩ := hinv; refine ⟨by omega, by omega, ?_⟩; rw [← h3, firstE_drop (i := i.toNat) (by omega), if_pos (by assumption)]; congr 2; omega)
   ·((try dsimp only); omega)
  replace hq_5 := bf hq_5
  refine aw_exit <| then_x <| then_x <| block_hit <| then_n <| aw_seq <| at_ <| ar (ro_assign ev_c) rfl <| ae1 up_h ?_; clear s5_4 s6_4 s7_4 s8_4; intro e_11 s2_11
  refine then_n <| aw_ret <| ret1 (.inr rfl) (by kernel_rfl) (resV_tmp s2_11) (.ro _ rfl) ?_
  clear s2_11 ml_3
  obtain ⟨h1, h2, h3⟩ := hinv; rw [← h3, List.drop_eq_nil_of_le (by omega)]; rfl
abbrev itC (e : Int) : AV := .clo (.func 73) [] [.ref [mA e]]
abbrev eaC (k n : Int) (look : AV) : AV := .clo (.func 75) [] [.ref [mA n], .ref [look], .ref [mA k]]
abbrev fuA (k n e : Int) : AV := .agg [mA k, mA n, mA e]
set_option maxRecDepth 100000 in
set_option maxHeartbeats 1000000 in
theorem itself_ok (e : Int) : FnOk Try.prog 72 [mA e] (fun q => q = itC e) := by
 refine fnOk_of (fn := Try.f72) 4 (by kernel_rfl) rfl (by kernel_rfl) (Nat.le_of_ble_eq_true rfl) ?_
 intro e_0 m_0 hA hm_0
 have s0_0 : evA e_0 (.tmp 0) = _ := hA 0 _ rfl
 have ml_0 : m_0.length = 0 := by rw [hm_0]; rfl
 clear hA hm_0
 refine aw_seq <| at_ <| ar (ro_boxR s0_0 rfl (by first | rfl | (simp only [roO.roL, roO, Bool.and_true, Bool.true_and]; first | rfl | assumption) | (apply roL_flat; intro _; rfl))) rfl ?_
 refine ar (ro_assign ev_c) rfl <| ae1 (up_m rfl up_h) ?_; clear s0_0; intro e_1 s1_1
 refine then_n <| aw_seq <| at_ <| ar (ro_makeFunc evL_nil (evL_cons s1_1 evL_nil)) rfl <| ar (ro_assign up_h) rfl <| ae1 up_h ?_; clear s1_1; intro e_2 s2_2
 refine then_n <| aw_ret <| ret1 (.inr rfl) (by kernel_rfl) (resV_tmp s2_2) (.ro _ rfl) ?_
 clear s2_2 ml_0
 rfl
set_option maxRecDepth 100000 in
set_option maxHeartbeats 1000000 in
theorem itself1_ok (e : Int) : FnOk Try.prog 73 [.ref [mA e]] (fun q => q = fuA 0 0 e) := by
 refine fnOk_of (fn := Try.f73) 4 (by kernel_rfl) rfl (by kernel_rfl) (Nat.le_of_ble_eq_true rfl) ?_
 intro e_0 m_0 hA hm_0
 have s0_0 : evA e_0 (.tmp 0) = _ := hA 0 _ rfl
 have ml_0 : m_0.length = 0 := by rw [hm_0]; rfl
 clear hA hm_0
 refine aw_seq <| at_ <| al_stm (st_alloc qaz113 rfl ml_0) trivial rfl (fun m_1 hm_1 => ?_)
 have mo0_1 := m_push hm_1 ml_0
 simp only [pS, Value.cells, Nat.reduceAdd] at mo0_1
 have ml_1 := m_push_l hm_1 ml_0
 have ml_1 : _ = 1 := ml_1
 clear hm_1
 refine ae2 (up_m rfl s0_0) up_h ?_; clear s0_0; intro e_2 s0_2 s1_2
 refine then_n <| aw_seq <| at_ <| ar (ro_eq (ro_ld_ref y2_ty29 rfl s0_2 (nle rfl)) (by simp only [pS, Value.cells, Nat.reduceAdd] <;> rfl)) rfl ?_
 refine ar (ro_build (evP_cons up_h evP_nil) qbz113 qbu113 qbp113 rfl) rfl ?_
 refine al_stm (st_store (u2 rfl s1_2) up_h rfl rfl mo0_1 qsz113 rfl (nle rfl)) trivial rfl (fun m_3 hm_3 => ?_)
 have mo0_3 := m_set hm_3 mo0_1
 simp only [pS, Value.cells, Nat.reduceAdd] at mo0_3
 have ml_3 := m_set_l hm_3 ml_1
 clear hm_3 mo0_1
 refine ae1 (up_n (u2 rfl s1_2)) ?_; clear s0_2 s1_2; intro e_4 s1_4
 refine then_n <| aw_ret <| ret1 (.inr rfl) (by kernel_rfl) (resV_cell s1_4 mo0_3 y2_ty113 (nle rfl) (by simp)) (vw_r (.ro _ rfl)) ?_
 clear s1_4 mo0_3 ml_3
 rfl
set_option maxRecDepth 100000 in
set_option maxHeartbeats 1000000 in
theorem each_ok (k n : Int) (fn : Fn) (m : List AV) (hm : roO.roL m = true) : FnOk Try.prog 74 [mA k, mA n, .clo fn [] m] (fun q => q = eaC k n (.clo fn [] m)) := by
 refine fnOk_of (fn := Try.f74) 8 (by kernel_rfl) rfl (by kernel_rfl) (Nat.le_of_ble_eq_true rfl) ?_
 intro e_0 m_0 hA hm_0
 have s0_0 : evA e_0 (.tmp 0) = _ := hA 0 _ rfl
 have s1_0 : evA e_0 (.tmp 1) = _ := hA 1 _ rfl
 have s2_0 : evA e_0 (.tmp 2) = _ := hA 2 _ rfl
 have ml_0 : m_0.length = 0 := by rw [hm_0]; rfl
 clear hA hm_0
 refine aw_seq <| at_ <| ar (ro_boxR s0_0 rfl (by first | rfl | (simp only [roO.roL, roO, Bool.and_true, Bool.true_and]; first | rfl | assumption) | (apply roL_flat; intro _; rfl))) rfl ?_
 refine ar (ro_boxR (up_m rfl s1_0) rfl (by first | rfl | (simp only [roO.roL, roO, Bool.and_true, Bool.true_and]; first | rfl | assumption) | (apply roL_flat; intro _; rfl))) rfl ?_
 refine ar (ro_boxR (u2 rfl s2_0) rfl (by first | rfl | (simp only [roO.roL, roO, Bool.and_true, Bool.true_and]; first | rfl | assumption) | (apply roL_flat; intro _; rfl))) rfl ?_
 refine ar (ro_assign ev_c) rfl <| ae3 (up_m rfl (u2 rfl up_h)) (u2 rfl up_h) (up_m rfl up_h) ?_; clear s0_0 s1_0 s2_0; intro e_1 s3_1 s4_1 s5_1
 refine then_n <| aw_seq <| at_ <| ar (ro_makeFunc evL_nil (evL_cons s4_1 (evL_cons s5_1 (evL_cons s3_1 evL_nil)))) rfl <| ar (ro_assign up_h) rfl <| ae1 up_h ?_; clear s3_1 s4_1 s5_1; intro e_2 s6_2
 refine then_n <| aw_ret <| ret1 (.inr rfl) (by kernel_rfl) (resV_tmp s6_2) (.ro _ rfl) ?_
 clear s6_2 ml_0
 rfl
set_option maxRecDepth 100000 in
set_option maxHeartbeats 1000000 in
theorem look1_ok (l : Lin) (i : Int) (hi : 0 ≤ i ∧ i < l.js.length) : FnOk Try.prog 77 [mA i, .ref (lnC l)] (fun q => q = mA (jntE (l.js.getD i.toNat default))) := by
 refine fnOk_of (fn := Try.f77) 43 (by kernel_rfl) rfl (by kernel_rfl) (Nat.le_of_ble_eq_true rfl) ?_
 intro e_0 m_0 hA hm_0
 have s0_0 : evA e_0 (.tmp 0) = _ := hA 0 _ rfl
 have s1_0 : evA e_0 (.tmp 1) = _ := hA 1 _ rfl
 have ml_0 : m_0.length = 0 := by rw [hm_0]; rfl
 clear hA hm_0
 refine aw_seq <| at_ <| ar (ro_assign ev_c) rfl <| ae2 (up_m rfl s0_0) (up_m rfl s1_0) ?_; clear s0_0 s1_0; intro e_1 s0_1 s1_1
 refine then_n <| aw_seq <| at_ <| ar (ro_eq (ro_fld_ref qfl26_1 rfl s1_1) (by simp only [pS, Value.cells, Nat.reduceAdd, jnE] <;> rfl)) rfl ?_
 refine ar (ro_eq (ro_ld_ref y2_ty22 rfl up_h (nle rfl)) (by simp only [pS, Value.cells, Nat.reduceAdd, jnE] <;> rfl)) rfl ?_
 refine ar (ro_move (u2 rfl s0_1)) rfl <| ar (ro_eq (ro_ix y2_sl22 (up_m rfl up_h) up_h (by omega) (by first | (refine idx_map ?_; first | omega | (simp only [lnS]; omega)) | (refine idx_mapI ?_; first | omega | (simp only [lnS]; omega)) | (refine idx_mapN ?_; first | omega | (simp only [lnS]; omega)) | rfl)) (by simp only [pS, Value.cells, Nat.reduceAdd, jnE] <;> rfl)) rfl ?_
 refine ar (ro_eq (ro_ld_ref y2_ty66 rfl up_h (nle rfl)) (by simp only [pS, Value.cells, Nat.reduceAdd, jnE] <;> rfl)) rfl ?_
 refine al_stm (st_alloc qaz66 rfl ml_0) trivial rfl (fun m_2 hm_2 => ?_)
 have mo0_2 := m_push hm_2 ml_0
 simp only [pS, Value.cells, Nat.reduceAdd, jnE] at mo0_2
 have ml_2 := m_push_l hm_2 ml_0
 have ml_2 : _ = 1 := ml_2
 clear hm_2
 refine al_stm (st_store up_h (up_m rfl up_h) rfl rfl mo0_2 qsz66 rfl (nle rfl)) trivial rfl (fun m_3 hm_3 => ?_)
 have mo0_3 := m_set hm_3 mo0_2
 simp only [pS, Value.cells, Nat.reduceAdd, jnE] at mo0_3
 have ml_3 := m_set_l hm_3 ml_2
 clear hm_3 mo0_2
 refine ae1 (up_n up_h) ?_; clear s0_1 s1_1; intro e_4 s4_4
 refine then_n <| aw_seq <| aw_cut (fun e mem => (evA e (.tmp 5) = .v (.bool (jntB (l.js.getD i.toNat default)))) ∧ (evA e (.tmp 4) = evA e_4 (.tmp 4)) ∧ m_3 = mem) ?_ ?_
 ·
  refine at_ <| ar (ro_fld_ptr qfl66_0 rfl s4_4) rfl <| ar (ro_eq (ro_ld_ptr y2_ty3 rfl mo0_3 up_h (nle rfl)) (by simp only [pS, Value.cells, Nat.reduceAdd, jnE] <;> rfl)) rfl ?_
  refine ar (ro_call (evL_cons up_h evL_nil) rfl (isAcross_ok _) qhcf78) rfl <| ar (ro_move up_h) rfl <| al_case up_h (fun hb_6 hq_6 => ?_) (fun hb_6 hq_6 => ?_)
  ·skip
   refine al_ro' (ro_fld_ptr qfl66_1 rfl (u4 rfl s4_4)) ⟨_, rfl, hb_6⟩ rfl ?_
   refine al_ro' (ro_eq (ro_ld_ptr y2_ty3 rfl mo0_3 up_h (nle rfl)) (by simp only [pS, Value.cells, Nat.reduceAdd, jnE] <;> rfl)) ⟨_, rfl, (up_m rfl hb_6)⟩ rfl ?_
   refine al_ro' (ro_call (evL_cons up_h evL_nil) rfl (isAcross_ok _) qhcf78) ⟨_, rfl, (u2 rfl hb_6)⟩ rfl ?_
   refine ar (ro_pickT (up_m rfl (u2 rfl hb_6)) up_h) rfl <| ar (ro_move up_h) rfl <| al_case up_h (fun hb_7 hq_7 => ?_) (fun hb_7 hq_7 => ?_)
   ·skip
    refine al_ro' (ro_fld_ptr qfl66_2 rfl (up_m rfl (u8 rfl s4_4))) ⟨_, rfl, hb_7⟩ rfl ?_
    refine al_ro' (ro_fld_ptr qfl55_0 rfl up_h) ⟨_, rfl, (up_m rfl hb_7)⟩ rfl ?_
    refine al_ro' (ro_eq (ro_ld_ptr y2_ty3 rfl mo0_3 up_h (nle rfl)) (by simp only [pS, Value.cells, Nat.reduceAdd, jnE] <;> rfl)) ⟨_, rfl, (u2 rfl hb_7)⟩ rfl ?_
    refine al_ro' (ro_call (evL_cons up_h (evL_cons ev_c evL_nil)) rfl (ySmall_ok _ _ (by decide)) y2_hcf79) ⟨_, rfl, (up_m rfl (u2 rfl hb_7))⟩ rfl ?_
    refine ar (ro_pickT (u4 rfl hb_7) up_h) rfl <| ar (ro_move up_h) rfl <| al_case up_h (fun hb_8 hq_8 => ?_) (fun hb_8 hq_8 => ?_)
    ·skip
     refine al_ro' (ro_fld_ptr qfl66_2 rfl (up_m rfl (u2 rfl (u4 rfl (u8 rfl s4_4))))) ⟨_, rfl, hb_8⟩ rfl ?_
     refine al_ro' (ro_fld_ptr qfl55_1 rfl up_h) ⟨_, rfl, (up_m rfl hb_8)⟩ rfl ?_
     refine al_ro' (ro_eq (ro_ld_ptr y2_ty3 rfl mo0_3 up_h (nle rfl)) (by simp only [pS, Value.cells, Nat.reduceAdd, jnE] <;> rfl)) ⟨_, rfl, (u2 rfl hb_8)⟩ rfl ?_
     refine al_ro' (ro_call (evL_cons up_h (evL_cons ev_c evL_nil)) rfl (ySmall_ok _ _ (by decide)) y2_hcf79) ⟨_, rfl, (up_m rfl (u2 rfl hb_8))⟩ rfl ?_
     refine ar (ro_pickT (u4 rfl hb_8) up_h) rfl <| ar (ro_assign up_h) rfl <| ae2 (up_m rfl (u4 rfl (u16 rfl s4_4))) up_h ?_; intro e_9 s4_9 s5_9
     refine then_n ⟨(s5_9).trans (by (refine avb ?_; unfold jntB; simp_all)), (s4_9).trans (s4_4).symm, rfl⟩
    refine al_skip' ⟨_, rfl, .inl hb_8⟩ rfl ?_
    refine al_skip' ⟨_, rfl, .inl (up_m rfl hb_8)⟩ rfl ?_
    refine al_skip' ⟨_, rfl, .inl (u2 rfl hb_8)⟩ rfl ?_
    refine al_skip' ⟨_, rfl, .inl (up_m rfl (u2 rfl hb_8))⟩ rfl ?_
    refine ar (ro_pickF (u4 rfl hb_8) ev_c) rfl <| ar (ro_assign up_h) rfl <| ae2 (up_m rfl (u4 rfl (u16 rfl s4_4))) up_h ?_; intro e_10 s4_10 s5_10
    refine then_n ⟨(s5_10).trans (by (refine avb ?_; unfold jntB; simp_all)), (s4_10).trans (s4_4).symm, rfl⟩
   refine al_skip' ⟨_, rfl, .inl hb_7⟩ rfl ?_
   refine al_skip' ⟨_, rfl, .inl (up_m rfl hb_7)⟩ rfl ?_
   refine al_skip' ⟨_, rfl, .inl (u2 rfl hb_7)⟩ rfl ?_
   refine al_skip' ⟨_, rfl, .inl (up_m rfl (u2 rfl hb_7))⟩ rfl ?_
   refine ar (ro_pickF (u4 rfl hb_7) ev_c) rfl <| ar (ro_move up_h) rfl <| al_skip' ⟨_, rfl, .inl up_h⟩ rfl ?_
   refine al_skip' ⟨_, rfl, .inl (up_m rfl up_h)⟩ rfl ?_
   refine al_skip' ⟨_, rfl, .inl (u2 rfl up_h)⟩ rfl ?_
   refine al_skip' ⟨_, rfl, .inl (up_m rfl (u2 rfl up_h))⟩ rfl ?_
   refine ar (ro_pickF (u4 rfl up_h) ev_c) rfl <| ar (ro_assign up_h) rfl <| ae2 (up_m rfl (u4 rfl (u16 rfl s4_4))) up_h ?_; intro e_11 s4_11 s5_11
   refine then_n ⟨(s5_11).trans (by (refine avb ?_; unfold jntB; simp_all)), (s4_11).trans (s4_4).symm, rfl⟩
  refine al_skip' ⟨_, rfl, .inl hb_6⟩ rfl ?_
  refine al_skip' ⟨_, rfl, .inl (up_m rfl hb_6)⟩ rfl ?_
  refine al_skip' ⟨_, rfl, .inl (u2 rfl hb_6)⟩ rfl ?_
  refine ar (ro_pickF (up_m rfl (u2 rfl hb_6)) ev_c) rfl <| ar (ro_move up_h) rfl <| al_skip' ⟨_, rfl, .inl up_h⟩ rfl ?_
  refine al_skip' ⟨_, rfl, .inl (up_m rfl up_h)⟩ rfl ?_
  refine al_skip' ⟨_, rfl, .inl (u2 rfl up_h)⟩ rfl ?_
  refine al_skip' ⟨_, rfl, .inl (up_m rfl (u2 rfl up_h))⟩ rfl ?_
  refine ar (ro_pickF (u4 rfl up_h) ev_c) rfl <| ar (ro_move up_h) rfl <| al_skip' ⟨_, rfl, .inl up_h⟩ rfl ?_
  refine al_skip' ⟨_, rfl, .inl (up_m rfl up_h)⟩ rfl ?_
  refine al_skip' ⟨_, rfl, .inl (u2 rfl up_h)⟩ rfl ?_
  refine al_skip' ⟨_, rfl, .inl (up_m rfl (u2 rfl up_h))⟩ rfl ?_
  refine ar (ro_pickF (u4 rfl up_h) ev_c) rfl <| ar (ro_assign up_h) rfl <| ae2 (up_m rfl (u4 rfl (u16 rfl s4_4))) up_h ?_; intro e_12 s4_12 s5_12
  refine then_n ⟨(s5_12).trans (by (refine avb ?_; unfold jntB; simp_all)), (s4_12).trans (s4_4).symm, rfl⟩
 ·rintro e_5 _ ⟨s5_5, k4_5, rfl⟩
  have s4_5 := k4_5.trans s4_4
  refine aw_seq <| aw_draw 13 (by kernel_rfl) (by kernel_rfl) (by kernel_rfl) (by kernel_rfl) ?_
  refine dr (ro_move s5_5) rfl <| dr (ro_call (evL_cons up_h (evL_cons ev_c evL_nil)) rfl (yUnless_ok _ _) qhcf56) rfl <| dr (ro_fld_ptr qfl66_2 rfl (u2 rfl s4_5)) rfl <| dr (ro_fld_ptr qfl55_0 rfl up_h) rfl <| dr (ro_eq (ro_ld_ptr y2_ty3 rfl mo0_3 up_h (nle rfl)) (by simp only [pS, Value.cells, Nat.reduceAdd, jnE] <;> rfl)) rfl ?_
  refine dr (ro_fld_ptr qfl66_2 rfl (up_m rfl (u4 rfl s4_5))) rfl <| dr (ro_fld_ptr qfl55_1 rfl up_h) rfl <| dr (ro_eq (ro_ld_ptr y2_ty3 rfl mo0_3 up_h (nle rfl)) (by simp only [pS, Value.cells, Nat.reduceAdd, jnE] <;> rfl)) rfl ?_
  refine dr (ro_leq (up_m rfl (u2 rfl up_h)) up_h) rfl <| dr (ro_call (evL_cons up_h (evL_cons ev_c evL_nil)) rfl (yUnless_ok _ _) qhcf56) rfl <| dr (ro_lit y2_sl100 (evP_cons (u8 rfl up_h) (evP_cons up_h evP_nil)) rfl rfl rfl rfl) rfl <| dr (ro_call (evL_cons up_h evL_nil) rfl (yFirst_ok [_, _] (by simp)) qhcf37) rfl ?_
  refine dr (ro_assign up_h) rfl <| ds_nil <| ae1 up_h ?_; clear s4_5 s5_5; intro e_13 s3_13
  refine then_n <| aw_ret <| ret1 (.inr rfl) (by kernel_rfl) (resV_tmp s3_13) (.ro _ rfl) ?_
  clear s3_13 mo0_3 ml_3
  (refine avj ?_; unfold jntE; cases jntB (l.js.getD i.toNat default) <;> simp [firstE, unlessE])
set_option maxRecDepth 100000 in
set_option maxHeartbeats 1000000 in
theorem look2_ok (l : Lin) (i : Int) (hi : 0 ≤ i ∧ i < l.bs.length) : FnOk Try.prog 80 [mA i, .ref (lnC l)] (fun q => q = mA (beaE (l.bs.getD i.toNat default))) := by
 refine fnOk_of (fn := Try.f80) 19 (by kernel_rfl) rfl (by kernel_rfl) (Nat.le_of_ble_eq_true rfl) ?_
 intro e_0 m_0 hA hm_0
 have s0_0 : evA e_0 (.tmp 0) = _ := hA 0 _ rfl
 have s1_0 : evA e_0 (.tmp 1) = _ := hA 1 _ rfl
 have ml_0 : m_0.length = 0 := by rw [hm_0]; rfl
 clear hA hm_0
 refine aw_seq <| at_ <| ar (ro_assign ev_c) rfl <| ae2 (up_m rfl s0_0) (up_m rfl s1_0) ?_; clear s0_0 s1_0; intro e_1 s0_1 s1_1
 refine then_n <| aw_seq <| at_ <| ar (ro_eq (ro_fld_ref qfl26_2 rfl s1_1) (by simp only [pS, Value.cells, Nat.reduceAdd, beE] <;> rfl)) rfl ?_
 refine ar (ro_eq (ro_ld_ref y2_ty23 rfl up_h (nle rfl)) (by simp only [pS, Value.cells, Nat.reduceAdd, beE] <;> rfl)) rfl ?_
 refine ar (ro_move (u2 rfl s0_1)) rfl <| ar (ro_eq (ro_ix y2_sl23 (up_m rfl up_h) up_h (by omega) (by first | (refine idx_map ?_; first | omega | (simp only [lnS]; omega)) | (refine idx_mapI ?_; first | omega | (simp only [lnS]; omega)) | (refine idx_mapN ?_; first | omega | (simp only [lnS]; omega)) | rfl)) (by simp only [pS, Value.cells, Nat.reduceAdd, beE] <;> rfl)) rfl ?_
 refine ar (ro_eq (ro_ld_ref y2_ty69 rfl up_h (nle rfl)) (by simp only [pS, Value.cells, Nat.reduceAdd, beE] <;> rfl)) rfl ?_
 refine al_stm (st_alloc qaz69 rfl ml_0) trivial rfl (fun m_2 hm_2 => ?_)
 have mo0_2 := m_push hm_2 ml_0
 simp only [pS, Value.cells, Nat.reduceAdd, beE] at mo0_2
 have ml_2 := m_push_l hm_2 ml_0
 have ml_2 : _ = 1 := ml_2
 clear hm_2
 refine al_stm (st_store up_h (up_m rfl up_h) rfl rfl mo0_2 qsz69 rfl (nle rfl)) trivial rfl (fun m_3 hm_3 => ?_)
 have mo0_3 := m_set hm_3 mo0_2
 simp only [pS, Value.cells, Nat.reduceAdd, beE] at mo0_3
 have ml_3 := m_set_l hm_3 ml_2
 clear hm_3 mo0_2
 refine ae1 (up_n up_h) ?_; clear s0_1 s1_1; intro e_4 s4_4
 refine then_n <| aw_seq <| at_ <| ar (ro_fld_ptr qfl69_0 rfl s4_4) rfl <| ar (ro_eq (ro_ld_ptr y2_ty3 rfl mo0_3 up_h (nle rfl)) (by simp only [pS, Value.cells, Nat.reduceAdd, beE] <;> rfl)) rfl ?_
 refine ar (ro_call (evL_cons up_h (evL_cons ev_c (evL_cons ev_c evL_nil))) rfl (yWithin_ok _ _ _) qhcf57) rfl <| ar (ro_move up_h) rfl <| al_case up_h (fun hb_5 hq_5 => ?_) (fun hb_5 hq_5 => ?_)
 ·skip
  refine al_ro' (ro_fld_ptr qfl69_1 rfl (u4 rfl s4_4)) ⟨_, rfl, hb_5⟩ rfl ?_
  refine al_ro' (ro_eq (ro_ld_ptr y2_ty3 rfl mo0_3 up_h (nle rfl)) (by simp only [pS, Value.cells, Nat.reduceAdd, beE] <;> rfl)) ⟨_, rfl, (up_m rfl hb_5)⟩ rfl ?_
  refine al_ro' (ro_call (evL_cons up_h (evL_cons ev_c evL_nil)) rfl (ySmall_ok _ _ (by decide)) y2_hcf79) ⟨_, rfl, (u2 rfl hb_5)⟩ rfl ?_
  refine ar (ro_pickT (up_m rfl (u2 rfl hb_5)) up_h) rfl <| ar (ro_call (evL_cons up_h (evL_cons ev_c evL_nil)) rfl (yUnless_ok _ _) qhcf56) rfl <| ar (ro_assign up_h) rfl <| ae1 up_h ?_; clear hb_5 s4_4; intro e_6 s3_6
  refine then_n <| aw_ret <| ret1 (.inr rfl) (by kernel_rfl) (resV_tmp s3_6) (.ro _ rfl) ?_
  clear s3_6 mo0_3 ml_3
  (refine avj ?_; unfold beaE beaB unlessE; simp_all)
 refine al_skip' ⟨_, rfl, .inl hb_5⟩ rfl ?_
 refine al_skip' ⟨_, rfl, .inl (up_m rfl hb_5)⟩ rfl ?_
 refine al_skip' ⟨_, rfl, .inl (u2 rfl hb_5)⟩ rfl ?_
 refine ar (ro_pickF (up_m rfl (u2 rfl hb_5)) ev_c) rfl <| ar (ro_call (evL_cons up_h (evL_cons ev_c evL_nil)) rfl (yUnless_ok _ _) qhcf56) rfl <| ar (ro_assign up_h) rfl <| ae1 up_h ?_; clear hb_5 s4_4; intro e_7 s3_7
 refine then_n <| aw_ret <| ret1 (.inr rfl) (by kernel_rfl) (resV_tmp s3_7) (.ro _ rfl) ?_
 clear s3_7 mo0_3 ml_3
 (refine avj ?_; unfold beaE beaB unlessE; simp_all)
theorem y3_hcf72 : ∀ args w, (callFunc 72 args).run Try.prog w = .ok (.enter 72 args) w := fun _ _ => by kernel_rfl
theorem y3_hcf74 : ∀ args w, (callFunc 74 args).run Try.prog w = .ok (.enter 74 args) w := fun _ _ => by kernel_rfl
theorem y3_sl109 : SlIs Try.prog 109 111 1 8 (.nilFunc) := ⟨by kernel_rfl, by kernel_rfl, by kernel_rfl⟩
theorem y3_sl123 : SlIs Try.prog 123 5 1 1 (.int .u8 0) := ⟨by kernel_rfl, by kernel_rfl, by kernel_rfl⟩
theorem y3_sl22 : SlIs Try.prog 22 66 4 32 (.agg #[.int .i64 0, .int .i64 0, .int .i64 0, .int .i64 0]) := ⟨by kernel_rfl, by kernel_rfl, by kernel_rfl⟩
theorem y3_sl23 : SlIs Try.prog 23 69 2 16 (.agg #[.int .i64 0, .int .i64 0]) := ⟨by kernel_rfl, by kernel_rfl, by kernel_rfl⟩
theorem y3_sl24 : SlIs Try.prog 24 47 3 48 (.agg #[.string ByteArray.empty, .int .i64 0, .slice none 0 0]) := ⟨by kernel_rfl, by kernel_rfl, by kernel_rfl⟩
theorem y3_ty113 : TyIs Try.prog 113 true 3 := ⟨by kernel_rfl, by kernel_rfl⟩
theorem y3_ty22 : TyIs Try.prog 22 false 1 := ⟨by kernel_rfl, by kernel_rfl⟩
theorem y3_ty23 : TyIs Try.prog 23 false 1 := ⟨by kernel_rfl, by kernel_rfl⟩
theorem y3_ty24 : TyIs Try.prog 24 false 1 := ⟨by kernel_rfl, by kernel_rfl⟩
theorem y3_ty3 : TyIs Try.prog 3 false 1 := ⟨by kernel_rfl, by kernel_rfl⟩
theorem y3_ty5 : TyIs Try.prog 5 false 1 := ⟨by kernel_rfl, by kernel_rfl⟩
theorem y3_ty79 : TyIs Try.prog 79 false 1 := ⟨by kernel_rfl, by kernel_rfl⟩
theorem y3_ty9 : TyIs Try.prog 9 false 1 := ⟨by kernel_rfl, by kernel_rfl⟩
theorem y3_u85 : Try.prog.underlying 5 = some (.int .u8) := by kernel_rfl
theorem y3_us123 : Try.prog.underlying 123 = some (.slice 5) := by kernel_rfl
def eaR (k : Int) (e : Nat → Int) (n : Nat) : (Int × Int) × Int := match firN e n with
 | some i => ((k, i), e i)
 | none => ((0, 0), 0)
abbrev fuR (r : (Int × Int) × Int) : AV := fuA r.1.1 r.1.2 r.2
set_option maxRecDepth 100000 in
set_option maxHeartbeats 4000000 in
theorem each1_ok (k n : Int) (f : FuncId) (m : List AV) (er : Nat → Int) (hn : 0 ≤ n ∧ n ≤ 1000000) (hro : roO.roL m = true) (hcf : ∀ args w, (callFunc f args).run Try.prog w = .ok (.enter f args) w) (hc : ∀ i : Int, 0 ≤ i → i < n → FnOk Try.prog f ([] ++ [mA i] ++ m) (fun q => q = mA (er i.toNat))) :
 FnOk Try.prog 75 [.ref [mA n], .ref [.clo (.func f) [] m], .ref [mA k]] (fun q => q = fuR (eaR k er n.toNat)) := by
 refine fnOk_of (fn := Try.f75) 22 (by kernel_rfl) rfl (by kernel_rfl) (Nat.le_of_ble_eq_true rfl) ?_
 intro e_0 m_0 hA hm_0
 have s0_0 : evA e_0 (.tmp 0) = _ := hA 0 _ rfl
 have s1_0 : evA e_0 (.tmp 1) = _ := hA 1 _ rfl
 have s2_0 : evA e_0 (.tmp 2) = _ := hA 2 _ rfl
 have ml_0 : m_0.length = 0 := by rw [hm_0]; rfl
 clear hA hm_0
 refine aw_seq <| at_ <| al_stm (st_alloc qaz113 rfl ml_0) trivial rfl (fun m_1 hm_1 => ?_)
 have mo0_1 := m_push hm_1 ml_0
 simp only [pS, Value.cells, Nat.reduceAdd] at mo0_1
 have ml_1 := m_push_l hm_1 ml_0
 have ml_1 : _ = 1 := ml_1
 clear hm_1
 refine ae4 (up_m rfl s0_0) (up_m rfl s1_0) (up_m rfl s2_0) up_h ?_; clear s0_0 s1_0 s2_0; intro e_2 s0_2 s1_2 s2_2 s3_2
 refine then_n <| aw_seq <| aw_seq <| at_ <| ar (ro_eq (ro_ld_ref y3_ty3 rfl s0_2 (nle rfl)) (by simp only [pS, Value.cells, Nat.reduceAdd] <;> rfl)) rfl ?_
 refine ar (ro_move ev_c) rfl <| ae5 (u2 rfl s1_2) (u2 rfl s2_2) (u2 rfl s3_2) (up_m rfl up_h) up_h ?_; clear s0_2 s1_2 s2_2 s3_2; intro e_3 s1_3 s2_3 s3_3 s6_3 s7_3
 refine then_n <| aw_block <| aw_loop (S := Int) (fun i e mem => (evA e (.tmp 7) = .v (.int .i64 i)) ∧ (evA e (.tmp 1) = evA e_3 (.tmp 1)) ∧ (evA e (.tmp 2) = evA e_3 (.tmp 2)) ∧ (evA e (.tmp 3) = evA e_3 (.tmp 3)) ∧ (evA e (.tmp 6) = evA e_3 (.tmp 6)) ∧ (mem[0]? = m_1[0]?) ∧ (mem.length = 1) ∧ ((0 ≤ i ∧ i ≤ n ∧ ∀ j : Nat, j < i.toNat → er j = 0))) (fun i => (n - i).toNat) _ ⟨s7_3, rfl, rfl, rfl, rfl, rfl, ml_1, ?_⟩ ?_
 ·(exact ⟨by omega, by omega, fun j h => absurd h (by omega)⟩)
 ·rintro i e_4 m_4 ⟨s7_4, k1_4, k2_4, k3_4, k6_4, mk0_4, ml_4, hinv⟩
  have s1_4 := k1_4.trans s1_3
  have s2_4 := k2_4.trans s2_3
  have s3_4 := k3_4.trans s3_3
  have s6_4 := k6_4.trans s6_3
  have mo0_4 := mk0_4.trans mo0_1
  (obtain ⟨p1, p2, p3⟩ := hinv)
  refine aw_seq <| at_ <| ar (ro_lss s7_4 s6_4) rfl <| ae6 (up_m rfl s1_4) (up_m rfl s2_4) (up_m rfl s3_4) (up_m rfl s6_4) (up_m rfl s7_4) up_h ?_; clear s1_4 s2_4 s3_4 s6_4 s7_4; intro e_5 s1_5 s2_5 s3_5 s6_5 s7_5 s8_5
  refine then_n <| aw_seq <| aw_case s8_5 (fun hq_6 => ?_) (fun hq_6 => ?_)
  ·replace hq_6 := bt hq_6
   refine aw_skip <| then_n <| aw_seq <| aw_block <| aw_seq <| at_ <| ar (ro_move s7_5) rfl <| ar (ro_assign up_h) rfl <| ae6 (u2 rfl s1_5) (u2 rfl s2_5) (u2 rfl s3_5) up_h (u2 rfl s6_5) (u2 rfl s7_5) ?_; clear s1_5 s2_5 s3_5 s6_5 s7_5 s8_5; intro e_7 s1_7 s2_7 s3_7 s4_7 s6_7 s7_7
   refine then_n <| aw_seq <| at_ <| ar (ro_eq (ro_ld_ref y3_ty79 rfl s1_7 (nle rfl)) (by simp only [pS, Value.cells, Nat.reduceAdd] <;> rfl)) rfl ?_
   refine ar (ro_move (up_m rfl s4_7)) rfl <| ar (ro_callv (up_m rfl up_h) (evL_cons up_h evL_nil) rfl rfl hro (hc i (by omega) (by omega)) hcf) rfl ?_
   refine ar (ro_assign up_h) rfl <| ae7 (u4 rfl s1_7) (u4 rfl s2_7) (u4 rfl s3_7) (u4 rfl s4_7) up_h (u4 rfl s6_7) (u4 rfl s7_7) ?_; clear s1_7 s2_7 s3_7 s4_7 s6_7 s7_7; intro e_8 s1_8 s2_8 s3_8 s4_8 s5_8 s6_8 s7_8
   refine then_n <| aw_seq <| at_ <| ar (ro_move s5_8) rfl <| ar (ro_neq up_h ev_c) rfl <| ae8 (u2 rfl s1_8) (u2 rfl s2_8) (u2 rfl s3_8) (u2 rfl s4_8) (u2 rfl s5_8) (u2 rfl s6_8) (u2 rfl s7_8) up_h ?_; clear s1_8 s2_8 s3_8 s4_8 s5_8 s6_8 s7_8; intro e_9 s1_9 s2_9 s3_9 s4_9 s5_9 s6_9 s7_9 s14_9
   refine then_n <| aw_case s14_9 (fun hq_10 => ?_) (fun hq_10 => ?_)
   ·replace hq_10 := bnt hq_10
    refine aw_seq <| at_ <| ar (ro_eq (ro_ld_ref y3_ty3 rfl s2_9 (nle rfl)) (by simp only [pS, Value.cells, Nat.reduceAdd] <;> rfl)) rfl ?_
    refine ar (ro_move (up_m rfl s4_9)) rfl <| ar (ro_build (evP_cons (up_m rfl up_h) (evP_cons up_h evP_nil)) qbz75 qbu75 qbp75 rfl) rfl ?_
    refine ar (ro_move (up_m rfl (u2 rfl s5_9))) rfl <| ar (ro_build (evP_cons (up_m rfl up_h) (evP_cons up_h evP_nil)) qbz113 qbu113 qbp113 rfl) rfl ?_
    refine al_stm (st_store (up_m rfl (u4 rfl s3_9)) up_h rfl rfl mo0_4 qsz113 rfl (nle rfl)) trivial rfl (fun m_11 hm_11 => ?_)
    have mo0_11 := m_set hm_11 mo0_4
    simp only [pS, Value.cells, Nat.reduceAdd] at mo0_11
    have ml_11 := m_set_l hm_11 ml_4
    clear hm_11 mo0_4
    refine ae1 (up_n (up_m rfl (u4 rfl s3_9))) ?_; clear s14_9 s1_9 s2_9 s3_9 s4_9 s5_9 s6_9 s7_9; intro e_12 s3_12
    refine then_n <| aw_ret <| block_r <| then_r <| then_r <| block_r <| then_r <| ret1 (.inr rfl) (by kernel_rfl) (resV_cell s3_12 mo0_11 y3_ty113 (nle rfl) (by simp)) (vw_r (.ro _ rfl)) ?_
    clear s3_12 mo0_11 ml_11
    (have h := firN_some p3 (by assumption) (n := n.toNat) (by omega); rw [show eaR k er n.toNat = ((k, i), er i.toNat) by unfold eaR; rw [h]; simp only [Int.toNat_of_nonneg p1]]; rfl)
   replace hq_10 := bnf hq_10
   refine aw_skip <| block_n <| then_n <| at_ ?_
   (refine ar (ro_add' s7_9 ev_c ?_) rfl ?_; · (unfold In64; omega))
   refine ar (ro_move up_h) rfl <| ae5 (u2 rfl s1_9) (u2 rfl s2_9) (u2 rfl s3_9) (u2 rfl s6_9) up_h ?_; clear s14_9 s1_9 s2_9 s3_9 s4_9 s5_9 s6_9 s7_9; intro e_13 s1_13 s2_13 s3_13 s6_13 s7_13
   refine then_n <| ⟨_, ⟨s7_13, (s1_13.trans s1_3.symm), (s2_13.trans s2_3.symm), (s3_13.trans s3_3.symm), (s6_13.trans s6_3.symm), (mo0_4.trans mo0_1.symm), ml_4, ?_⟩, ?_⟩
   ·(refine ⟨by omega, by omega, fun j hj => ?_⟩; by_cases hji : j < i.toNat; (exact p3 j hji); (rw [show j = i.toNat by omega]; assumption))
   ·((try dsimp only); omega)
  replace hq_6 := bf hq_6
  refine aw_exit <| then_x <| then_x <| block_hit <| then_n <| aw_seq <| at_ <| ar (ro_build evP_nil qbz113 qbu113 qbp113 rfl) rfl ?_
  refine al_stm (st_store (up_m rfl s3_5) up_h rfl rfl mo0_4 qsz113 rfl (nle rfl)) trivial rfl (fun m_14 hm_14 => ?_)
  have mo0_14 := m_set hm_14 mo0_4
  simp only [pS, Value.cells, Nat.reduceAdd] at mo0_14
  have ml_14 := m_set_l hm_14 ml_4
  clear hm_14 mo0_4
  refine ae1 (up_n (up_m rfl s3_5)) ?_; clear s1_5 s2_5 s3_5 s6_5 s7_5 s8_5; intro e_15 s3_15
  refine then_n <| aw_ret <| ret1 (.inr rfl) (by kernel_rfl) (resV_cell s3_15 mo0_14 y3_ty113 (nle rfl) (by simp)) (vw_r (.ro _ rfl)) ?_
  clear s3_15 mo0_14 ml_14
  (have h := firN_none (f := er) (n := n.toNat) (fun j hj => p3 j (by omega)); rw [show eaR k er n.toNat = ((0, 0), 0) by unfold eaR; rw [h]]; rfl)
def ckV (l : Lin) : List (List AV) := [[itC (unlessE (isNameB l.nam) 4)], [itC (unlessE (decide ((0 : Int) < l.bs.length ∧ (l.js.length : Int) = l.bs.length + 1)) 10)], [itC (unlessE (decide ((l.bs.length : Int) ≤ 40)) 8)],
 [eaC 1 l.js.length (.clo (.func 77) [] [.ref (lnC l)])], [eaC 2 l.bs.length (.clo (.func 80) [] [.ref (lnC l)])], [itC (unlessE (decide ((l.ss.length : Int) ≤ 4)) 8)], [eaC 3 l.ss.length (.clo (.func 81) [] [.ref (lnC l)])]]
set_option maxRecDepth 100000 in
set_option maxHeartbeats 4000000 in
theorem yIsName_ok (s : ByteArray) (hs : s.size ≤ 1000000000) : FnOk Try.prog 76 [.v (.string s)] (fun q => q = .v (.bool (isNameB s))) := by
 refine fnOk_of (fn := Try.f76) 54 (by kernel_rfl) rfl (by kernel_rfl) (Nat.le_of_ble_eq_true rfl) ?_
 intro e_0 m_0 hA hm_0
 have s0_0 : evA e_0 (.tmp 0) = _ := hA 0 _ rfl
 have ml_0 : m_0.length = 0 := by rw [hm_0]; rfl
 clear hA hm_0
 have hsl := sz_list s
 refine aw_seq <| at_ <| ar (ro_assign ev_c) rfl <| ae1 (up_m rfl s0_0) ?_; clear s0_0; intro e_1 s0_1
 refine then_n <| aw_seq <| aw_seq <| at_ <| ar (ro_move s0_1) rfl <| ar (ro_s2b qun9 y3_us123 y3_u85 up_h) rfl <| ar (ro_eq (ro_len_row up_h rfl y3_sl123.1) (by simp only [lnS] <;> rfl)) rfl ?_
 refine ar (ro_move ev_c) rfl <| ae4 (u4 rfl s0_1) (u2 rfl up_h) (up_m rfl up_h) up_h ?_; clear s0_1; intro e_2 s0_2 s7_2 s8_2 s9_2
 refine then_n <| aw_block <| aw_loop (S := Int) (fun i e mem => (evA e (.tmp 9) = .v (.int .i64 i)) ∧ (evA e (.tmp 0) = evA e_2 (.tmp 0)) ∧ (evA e (.tmp 7) = evA e_2 (.tmp 7)) ∧ (evA e (.tmp 8) = evA e_2 (.tmp 8)) ∧ (mem.length = 0) ∧ ((0 ≤ i ∧ i ≤ s.data.toList.length ∧ ∀ j : Nat, j < i.toNat → okB j (s.data.toList.getD j default) = true))) (fun i => (s.data.toList.length - i).toNat) _ ⟨s9_2, rfl, rfl, rfl, ml_0, ?_⟩ ?_
 ·exact ⟨by omega, by omega, fun j hj => by omega⟩
 ·rintro i e_3 m_3 ⟨s9_3, k0_3, k7_3, k8_3, ml_3, hinv⟩
  have s0_3 := k0_3.trans s0_2
  have s7_3 := k7_3.trans s7_2
  have s8_3 := k8_3.trans s8_2
  refine aw_seq <| at_ <| ar (ro_lss s9_3 s8_3) rfl <| ae5 (up_m rfl s0_3) (up_m rfl s7_3) (up_m rfl s8_3) (up_m rfl s9_3) up_h ?_; clear s0_3 s7_3 s8_3 s9_3; intro e_4 s0_4 s7_4 s8_4 s9_4 s10_4
  refine then_n <| aw_seq <| aw_case s10_4 (fun hq_5 => ?_) (fun hq_5 => ?_)
  ·replace hq_5 := bt hq_5
   refine aw_skip <| then_n <| aw_seq <| aw_block <| aw_seq <| at_ <| ar (ro_move s9_4) rfl <| ar (ro_eq (ro_ix y3_sl123 (up_m rfl s7_4) (up_m rfl s9_4) (by omega) (by first | (refine idx_map ?_; first | omega | (simp only [lnS]; omega)) | (refine idx_mapI ?_; first | omega | (simp only [lnS]; omega)) | (refine idx_mapN ?_; first | omega | (simp only [lnS]; omega)) | rfl)) (by simp only [pS, Value.cells, Nat.reduceAdd] <;> rfl)) rfl ?_
   refine ar (ro_eq (ro_ld_ref y3_ty5 rfl up_h (nle rfl)) (by simp only [pS, Value.cells, Nat.reduceAdd] <;> rfl)) rfl ?_
   refine ar (ro_assign (u2 rfl up_h)) rfl <| ar (ro_assign (up_m rfl up_h)) rfl <| ae6 (up_m rfl (u4 rfl s0_4)) (up_m rfl up_h) up_h (up_m rfl (u4 rfl s7_4)) (up_m rfl (u4 rfl s8_4)) (up_m rfl (u4 rfl s9_4)) ?_; clear s0_4 s10_4 s7_4 s8_4 s9_4; intro e_6 s0_6 s3_6 s4_6 s7_6 s8_6 s9_6
   refine then_n <| aw_seq <| aw_cut (fun e mem => (evA e (.tmp 5) = .v (.bool (letB (s.data.toList.getD i.toNat default).toNat))) ∧ (evA e (.tmp 0) = evA e_6 (.tmp 0)) ∧ (evA e (.tmp 3) = evA e_6 (.tmp 3)) ∧ (evA e (.tmp 4) = evA e_6 (.tmp 4)) ∧ (evA e (.tmp 7) = evA e_6 (.tmp 7)) ∧ (evA e (.tmp 8) = evA e_6 (.tmp 8)) ∧ (evA e (.tmp 9) = evA e_6 (.tmp 9)) ∧ m_3 = mem) ?_ ?_
   ·
    refine at_ <| ar (ro_move s4_6) rfl <| ar (ro_geq up_h ev_c) rfl <| ar (ro_move up_h) rfl <| al_case up_h (fun hb_8 hq_8 => ?_) (fun hb_8 hq_8 => ?_)
    ·replace hq_8 := bt hq_8
     refine al_ro' (ro_move (up_m rfl (u2 rfl s4_6))) ⟨_, rfl, hb_8⟩ rfl ?_
     refine al_ro' (ro_leq up_h ev_c) ⟨_, rfl, (up_m rfl hb_8)⟩ rfl ?_
     refine ar (ro_pickT (u2 rfl hb_8) up_h) rfl <| ar (ro_move up_h) rfl <| al_case up_h (fun hb_9 hq_9 => ?_) (fun hb_9 hq_9 => ?_)
     ·replace hq_9 := bt hq_9
      refine al_skip' ⟨_, rfl, .inl hb_9⟩ rfl ?_
      refine al_skip' ⟨_, rfl, .inl (up_m rfl hb_9)⟩ rfl ?_
      refine al_skip' ⟨_, rfl, .inl (u2 rfl hb_9)⟩ rfl ?_
      refine al_skip' ⟨_, rfl, .inr up_h⟩ rfl ?_
      refine al_skip' ⟨_, rfl, .inr (up_m rfl up_h)⟩ rfl ?_
      refine al_skip' ⟨_, rfl, .inl (up_m rfl (u4 rfl hb_9))⟩ rfl ?_
      refine ar (ro_pickT (u2 rfl (u4 rfl hb_9)) ev_c) rfl <| ar (ro_assign up_h) rfl <| ae7 (up_m rfl (u2 rfl (u4 rfl (u8 rfl s0_6)))) (up_m rfl (u2 rfl (u4 rfl (u8 rfl s3_6)))) (up_m rfl (u2 rfl (u4 rfl (u8 rfl s4_6)))) up_h (up_m rfl (u2 rfl (u4 rfl (u8 rfl s7_6)))) (up_m rfl (u2 rfl (u4 rfl (u8 rfl s8_6)))) (up_m rfl (u2 rfl (u4 rfl (u8 rfl s9_6)))) ?_; intro e_10 s0_10 s3_10 s4_10 s5_10 s7_10 s8_10 s9_10
      refine then_n ⟨(s5_10).trans (by (refine avb ?_; simp only [letB, decide_eq_true_eq, Bool.false_eq_true, true_iff, false_iff]; omega)), (s0_10).trans (s0_6).symm, (s3_10).trans (s3_6).symm, (s4_10).trans (s4_6).symm, (s7_10).trans (s7_6).symm, (s8_10).trans (s8_6).symm, (s9_10).trans (s9_6).symm, rfl⟩
     replace hq_9 := bf hq_9
     refine al_ro' (ro_move (up_m rfl (u2 rfl (u4 rfl s4_6)))) ⟨_, rfl, hb_9⟩ rfl ?_
     refine al_ro' (ro_geq up_h ev_c) ⟨_, rfl, (up_m rfl hb_9)⟩ rfl ?_
     refine al_ro' (ro_move up_h) ⟨_, rfl, (u2 rfl hb_9)⟩ rfl ?_
     refine al_case up_h (fun hb_11 hq_11 => ?_) (fun hb_11 hq_11 => ?_)
     ·replace hq_11 := bt hq_11
      refine al_ro' (ro_move (u2 rfl (u8 rfl s4_6))) ⟨_, rfl, hb_11⟩ rfl ?_
      refine al_ro' (ro_leq up_h ev_c) ⟨_, rfl, (up_m rfl hb_11)⟩ rfl ?_
      refine al_ro' (ro_pickT (u2 rfl hb_11) up_h) ⟨_, rfl, (up_m rfl (u4 rfl hb_9))⟩ rfl ?_
      refine ar (ro_pickF (u2 rfl (u4 rfl hb_9)) up_h) rfl <| ar (ro_assign up_h) rfl <| ae7 (up_m rfl (u2 rfl (u4 rfl (u8 rfl s0_6)))) (up_m rfl (u2 rfl (u4 rfl (u8 rfl s3_6)))) (up_m rfl (u2 rfl (u4 rfl (u8 rfl s4_6)))) up_h (up_m rfl (u2 rfl (u4 rfl (u8 rfl s7_6)))) (up_m rfl (u2 rfl (u4 rfl (u8 rfl s8_6)))) (up_m rfl (u2 rfl (u4 rfl (u8 rfl s9_6)))) ?_; intro e_12 s0_12 s3_12 s4_12 s5_12 s7_12 s8_12 s9_12
      refine then_n ⟨(s5_12).trans (by (refine avb ?_; simp only [letB, decide_eq_true_eq, Bool.false_eq_true, true_iff, false_iff]; omega)), (s0_12).trans (s0_6).symm, (s3_12).trans (s3_6).symm, (s4_12).trans (s4_6).symm, (s7_12).trans (s7_6).symm, (s8_12).trans (s8_6).symm, (s9_12).trans (s9_6).symm, rfl⟩
     ·replace hq_11 := bf hq_11; exfalso; omega
    replace hq_8 := bf hq_8
    refine al_skip' ⟨_, rfl, .inl hb_8⟩ rfl ?_
    refine al_skip' ⟨_, rfl, .inl (up_m rfl hb_8)⟩ rfl ?_
    refine ar (ro_pickF (u2 rfl hb_8) ev_c) rfl <| ar (ro_move up_h) rfl <| al_ro' (ro_move (up_m rfl (u2 rfl (u4 rfl s4_6)))) ⟨_, rfl, up_h⟩ rfl ?_
    refine al_ro' (ro_geq up_h ev_c) ⟨_, rfl, (up_m rfl up_h)⟩ rfl ?_
    refine al_ro' (ro_move up_h) ⟨_, rfl, (u2 rfl up_h)⟩ rfl ?_
    refine al_case up_h (fun hb_14 hq_14 => ?_) (fun hb_14 hq_14 => ?_)
    ·replace hq_14 := bt hq_14
     refine al_ro' (ro_move (u2 rfl (u8 rfl s4_6))) ⟨_, rfl, hb_14⟩ rfl ?_
     refine al_ro' (ro_leq up_h ev_c) ⟨_, rfl, (up_m rfl hb_14)⟩ rfl ?_
     refine al_ro' (ro_pickT (u2 rfl hb_14) up_h) ⟨_, rfl, (up_m rfl (u4 rfl up_h))⟩ rfl ?_
     refine ar (ro_pickF (u2 rfl (u4 rfl up_h)) up_h) rfl <| ar (ro_assign up_h) rfl <| ae7 (up_m rfl (u2 rfl (u4 rfl (u8 rfl s0_6)))) (up_m rfl (u2 rfl (u4 rfl (u8 rfl s3_6)))) (up_m rfl (u2 rfl (u4 rfl (u8 rfl s4_6)))) up_h (up_m rfl (u2 rfl (u4 rfl (u8 rfl s7_6)))) (up_m rfl (u2 rfl (u4 rfl (u8 rfl s8_6)))) (up_m rfl (u2 rfl (u4 rfl (u8 rfl s9_6)))) ?_; intro e_15 s0_15 s3_15 s4_15 s5_15 s7_15 s8_15 s9_15
     refine then_n ⟨(s5_15).trans (by (refine avb ?_; simp only [letB, decide_eq_true_eq, Bool.false_eq_true, true_iff, false_iff]; omega)), (s0_15).trans (s0_6).symm, (s3_15).trans (s3_6).symm, (s4_15).trans (s4_6).symm, (s7_15).trans (s7_6).symm, (s8_15).trans (s8_6).symm, (s9_15).trans (s9_6).symm, rfl⟩
    replace hq_14 := bf hq_14
    refine al_skip' ⟨_, rfl, .inl hb_14⟩ rfl ?_
    refine al_skip' ⟨_, rfl, .inl (up_m rfl hb_14)⟩ rfl ?_
    refine al_ro' (ro_pickF (u2 rfl hb_14) ev_c) ⟨_, rfl, (up_m rfl (u4 rfl up_h))⟩ rfl ?_
    refine ar (ro_pickF (u2 rfl (u4 rfl up_h)) up_h) rfl <| ar (ro_assign up_h) rfl <| ae7 (up_m rfl (u2 rfl (u4 rfl (u8 rfl s0_6)))) (up_m rfl (u2 rfl (u4 rfl (u8 rfl s3_6)))) (up_m rfl (u2 rfl (u4 rfl (u8 rfl s4_6)))) up_h (up_m rfl (u2 rfl (u4 rfl (u8 rfl s7_6)))) (up_m rfl (u2 rfl (u4 rfl (u8 rfl s8_6)))) (up_m rfl (u2 rfl (u4 rfl (u8 rfl s9_6)))) ?_; intro e_16 s0_16 s3_16 s4_16 s5_16 s7_16 s8_16 s9_16
    refine then_n ⟨(s5_16).trans (by (refine avb ?_; simp only [letB, decide_eq_true_eq, Bool.false_eq_true, true_iff, false_iff]; omega)), (s0_16).trans (s0_6).symm, (s3_16).trans (s3_6).symm, (s4_16).trans (s4_6).symm, (s7_16).trans (s7_6).symm, (s8_16).trans (s8_6).symm, (s9_16).trans (s9_6).symm, rfl⟩
   ·rintro e_7 _ ⟨s5_7, k0_7, k3_7, k4_7, k7_7, k8_7, k9_7, rfl⟩
    have s0_7 := k0_7.trans s0_6
    have s3_7 := k3_7.trans s3_6
    have s4_7 := k4_7.trans s4_6
    have s7_7 := k7_7.trans s7_6
    have s8_7 := k8_7.trans s8_6
    have s9_7 := k9_7.trans s9_6
    refine aw_seq <| aw_cut (fun e mem => (evA e (.tmp 45) = .v (.bool (!okB i.toNat (s.data.toList.getD i.toNat default)))) ∧ (evA e (.tmp 0) = evA e_7 (.tmp 0)) ∧ (evA e (.tmp 7) = evA e_7 (.tmp 7)) ∧ (evA e (.tmp 8) = evA e_7 (.tmp 8)) ∧ (evA e (.tmp 9) = evA e_7 (.tmp 9)) ∧ m_3 = mem) ?_ ?_
    ·
     refine at_ <| ar (ro_move s5_7) rfl <| ar (ro_not up_h) rfl <| ar (ro_move up_h) rfl <| al_case up_h (fun hb_18 hq_18 => ?_) (fun hb_18 hq_18 => ?_)
     ·replace hq_18 := bnt hq_18
      refine al_ro' (ro_move (up_m rfl (u2 rfl s3_7))) ⟨_, rfl, hb_18⟩ rfl ?_
      refine al_ro' (ro_eql up_h ev_c) ⟨_, rfl, (up_m rfl hb_18)⟩ rfl ?_
      refine al_ro' (ro_move up_h) ⟨_, rfl, (u2 rfl hb_18)⟩ rfl ?_
      refine al_case up_h (fun hb_19 hq_19 => ?_) (fun hb_19 hq_19 => ?_)
      ·replace hq_19 := bt hq_19
       refine al_skip' ⟨_, rfl, .inl hb_19⟩ rfl ?_
       refine al_skip' ⟨_, rfl, .inl (up_m rfl hb_19)⟩ rfl ?_
       refine al_skip' ⟨_, rfl, .inl (u2 rfl hb_19)⟩ rfl ?_
       refine al_skip' ⟨_, rfl, .inr up_h⟩ rfl ?_
       refine al_skip' ⟨_, rfl, .inr (up_m rfl up_h)⟩ rfl ?_
       refine al_skip' ⟨_, rfl, .inr (u2 rfl up_h)⟩ rfl ?_
       refine al_skip' ⟨_, rfl, .inr up_h⟩ rfl ?_
       refine al_skip' ⟨_, rfl, .inr (up_m rfl up_h)⟩ rfl ?_
       refine al_skip' ⟨_, rfl, .inr (up_m rfl (u4 rfl up_h))⟩ rfl ?_
       refine al_skip' ⟨_, rfl, .inl (up_m rfl (u8 rfl hb_19))⟩ rfl ?_
       refine al_ro' (ro_pickT (u2 rfl (u8 rfl hb_19)) ev_c) ⟨_, rfl, (up_m rfl (u4 rfl (u8 rfl hb_18)))⟩ rfl ?_
       refine ar (ro_pickT (u2 rfl (u4 rfl (u8 rfl hb_18))) up_h) rfl <| ae5 (u2 rfl (u16 rfl s0_7)) (u2 rfl (u16 rfl s7_7)) (u2 rfl (u16 rfl s8_7)) (u2 rfl (u16 rfl s9_7)) up_h ?_; intro e_20 s0_20 s7_20 s8_20 s9_20 s45_20
       refine then_n ⟨(s45_20).trans (by (refine avb ?_; simp only [letB, okB, decide_eq_true_eq, decide_eq_false_iff_not, Bool.false_eq_true, true_iff, false_iff, Bool.not_eq_true'] at *; omega)), (s0_20).trans (s0_7).symm, (s7_20).trans (s7_7).symm, (s8_20).trans (s8_7).symm, (s9_20).trans (s9_7).symm, rfl⟩
      replace hq_19 := bf hq_19
      refine al_ro' (ro_move (u2 rfl (u4 rfl s4_7))) ⟨_, rfl, hb_19⟩ rfl ?_
      refine al_ro' (ro_neq up_h ev_c) ⟨_, rfl, (up_m rfl hb_19)⟩ rfl ?_
      refine al_ro' (ro_move up_h) ⟨_, rfl, (u2 rfl hb_19)⟩ rfl ?_
      refine al_case up_h (fun hb_21 hq_21 => ?_) (fun hb_21 hq_21 => ?_)
      ·replace hq_21 := bnt hq_21
       refine al_ro' (ro_move (up_m rfl (u8 rfl s4_7))) ⟨_, rfl, hb_21⟩ rfl ?_
       refine al_ro' (ro_lss up_h ev_c) ⟨_, rfl, (up_m rfl hb_21)⟩ rfl ?_
       refine al_ro' (ro_move up_h) ⟨_, rfl, (u2 rfl hb_21)⟩ rfl ?_
       refine al_case up_h (fun hb_22 hq_22 => ?_) (fun hb_22 hq_22 => ?_)
       ·replace hq_22 := bt hq_22
        refine al_skip' ⟨_, rfl, .inl hb_22⟩ rfl ?_
        refine al_skip' ⟨_, rfl, .inl (up_m rfl hb_22)⟩ rfl ?_
        refine al_ro' (ro_pickT (u2 rfl hb_22) ev_c) ⟨_, rfl, (up_m rfl (u4 rfl hb_21))⟩ rfl ?_
        refine al_ro' (ro_pickT (u2 rfl (u4 rfl hb_21)) up_h) ⟨_, rfl, (up_m rfl (u8 rfl hb_19))⟩ rfl ?_
        refine al_ro' (ro_pickF (u2 rfl (u8 rfl hb_19)) up_h) ⟨_, rfl, (up_m rfl (u4 rfl (u8 rfl hb_18)))⟩ rfl ?_
        refine ar (ro_pickT (u2 rfl (u4 rfl (u8 rfl hb_18))) up_h) rfl <| ae5 (u2 rfl (u16 rfl s0_7)) (u2 rfl (u16 rfl s7_7)) (u2 rfl (u16 rfl s8_7)) (u2 rfl (u16 rfl s9_7)) up_h ?_; intro e_23 s0_23 s7_23 s8_23 s9_23 s45_23
        refine then_n ⟨(s45_23).trans (by (refine avb ?_; simp only [letB, okB, decide_eq_true_eq, decide_eq_false_iff_not, Bool.false_eq_true, true_iff, false_iff, Bool.not_eq_true'] at *; omega)), (s0_23).trans (s0_7).symm, (s7_23).trans (s7_7).symm, (s8_23).trans (s8_7).symm, (s9_23).trans (s9_7).symm, rfl⟩
       replace hq_22 := bf hq_22
       refine al_ro' (ro_move (u4 rfl (u8 rfl s4_7))) ⟨_, rfl, hb_22⟩ rfl ?_
       refine al_ro' (ro_gtr up_h ev_c) ⟨_, rfl, (up_m rfl hb_22)⟩ rfl ?_
       refine al_ro' (ro_pickF (u2 rfl hb_22) up_h) ⟨_, rfl, (up_m rfl (u4 rfl hb_21))⟩ rfl ?_
       refine al_ro' (ro_pickT (u2 rfl (u4 rfl hb_21)) up_h) ⟨_, rfl, (up_m rfl (u8 rfl hb_19))⟩ rfl ?_
       refine al_ro' (ro_pickF (u2 rfl (u8 rfl hb_19)) up_h) ⟨_, rfl, (up_m rfl (u4 rfl (u8 rfl hb_18)))⟩ rfl ?_
       refine ar (ro_pickT (u2 rfl (u4 rfl (u8 rfl hb_18))) up_h) rfl <| ae5 (u2 rfl (u16 rfl s0_7)) (u2 rfl (u16 rfl s7_7)) (u2 rfl (u16 rfl s8_7)) (u2 rfl (u16 rfl s9_7)) up_h ?_; intro e_24 s0_24 s7_24 s8_24 s9_24 s45_24
       refine then_n ⟨(s45_24).trans (by (refine avb ?_; simp only [letB, okB, decide_eq_true_eq, decide_eq_false_iff_not, Bool.false_eq_true, true_iff, false_iff, Bool.not_eq_true'] at *; omega)), (s0_24).trans (s0_7).symm, (s7_24).trans (s7_7).symm, (s8_24).trans (s8_7).symm, (s9_24).trans (s9_7).symm, rfl⟩
      replace hq_21 := bnf hq_21
      refine al_skip' ⟨_, rfl, .inl hb_21⟩ rfl ?_
      refine al_skip' ⟨_, rfl, .inl (up_m rfl hb_21)⟩ rfl ?_
      refine al_skip' ⟨_, rfl, .inl (u2 rfl hb_21)⟩ rfl ?_
      refine al_skip' ⟨_, rfl, .inr up_h⟩ rfl ?_
      refine al_skip' ⟨_, rfl, .inr (up_m rfl up_h)⟩ rfl ?_
      refine al_skip' ⟨_, rfl, .inl (up_m rfl (u4 rfl hb_21))⟩ rfl ?_
      refine al_ro' (ro_pickF (u2 rfl (u4 rfl hb_21)) ev_c) ⟨_, rfl, (up_m rfl (u8 rfl hb_19))⟩ rfl ?_
      refine al_ro' (ro_pickF (u2 rfl (u8 rfl hb_19)) up_h) ⟨_, rfl, (up_m rfl (u4 rfl (u8 rfl hb_18)))⟩ rfl ?_
      refine ar (ro_pickT (u2 rfl (u4 rfl (u8 rfl hb_18))) up_h) rfl <| ae5 (u2 rfl (u16 rfl s0_7)) (u2 rfl (u16 rfl s7_7)) (u2 rfl (u16 rfl s8_7)) (u2 rfl (u16 rfl s9_7)) up_h ?_; intro e_25 s0_25 s7_25 s8_25 s9_25 s45_25
      refine then_n ⟨(s45_25).trans (by (refine avb ?_; simp only [letB, okB, decide_eq_true_eq, decide_eq_false_iff_not, Bool.false_eq_true, true_iff, false_iff, Bool.not_eq_true'] at *; omega)), (s0_25).trans (s0_7).symm, (s7_25).trans (s7_7).symm, (s8_25).trans (s8_7).symm, (s9_25).trans (s9_7).symm, rfl⟩
     replace hq_18 := bnf hq_18
     refine al_skip' ⟨_, rfl, .inl hb_18⟩ rfl ?_
     refine al_skip' ⟨_, rfl, .inl (up_m rfl hb_18)⟩ rfl ?_
     refine al_skip' ⟨_, rfl, .inl (u2 rfl hb_18)⟩ rfl ?_
     refine al_skip' ⟨_, rfl, .inr up_h⟩ rfl ?_
     refine al_skip' ⟨_, rfl, .inr (up_m rfl up_h)⟩ rfl ?_
     refine al_skip' ⟨_, rfl, .inr (u2 rfl up_h)⟩ rfl ?_
     refine al_skip' ⟨_, rfl, .inr up_h⟩ rfl ?_
     refine al_skip' ⟨_, rfl, .inr (up_m rfl up_h)⟩ rfl ?_
     refine al_skip' ⟨_, rfl, .inr (u2 rfl up_h)⟩ rfl ?_
     refine al_skip' ⟨_, rfl, .inr up_h⟩ rfl ?_
     refine al_skip' ⟨_, rfl, .inr (up_m rfl up_h)⟩ rfl ?_
     refine al_skip' ⟨_, rfl, .inr (up_m rfl (u4 rfl up_h))⟩ rfl ?_
     refine al_skip' ⟨_, rfl, .inr (up_m rfl (u8 rfl up_h))⟩ rfl ?_
     refine al_skip' ⟨_, rfl, .inl (up_m rfl (u4 rfl (u8 rfl hb_18)))⟩ rfl ?_
     refine ar (ro_pickF (u2 rfl (u4 rfl (u8 rfl hb_18))) ev_c) rfl <| ae5 (u2 rfl (u16 rfl s0_7)) (u2 rfl (u16 rfl s7_7)) (u2 rfl (u16 rfl s8_7)) (u2 rfl (u16 rfl s9_7)) up_h ?_; intro e_26 s0_26 s7_26 s8_26 s9_26 s45_26
     refine then_n ⟨(s45_26).trans (by (refine avb ?_; simp only [letB, okB, decide_eq_true_eq, decide_eq_false_iff_not, Bool.false_eq_true, true_iff, false_iff, Bool.not_eq_true'] at *; omega)), (s0_26).trans (s0_7).symm, (s7_26).trans (s7_7).symm, (s8_26).trans (s8_7).symm, (s9_26).trans (s9_7).symm, rfl⟩
    ·rintro e_17 _ ⟨s45_17, k0_17, k7_17, k8_17, k9_17, rfl⟩
     have s0_17 := k0_17.trans s0_7
     have s7_17 := k7_17.trans s7_7
     have s8_17 := k8_17.trans s8_7
     have s9_17 := k9_17.trans s9_7
     refine aw_case s45_17 (fun hq_27 => ?_) (fun hq_27 => ?_)
     ·replace hq_27 := bnt hq_27
      refine aw_seq <| at_ <| ar (ro_assign ev_c) rfl <| ae1 up_h ?_; clear s0_17 s45_17 s7_17 s8_17 s9_17; intro e_28 s2_28
      refine then_n <| aw_ret <| block_r <| then_r <| then_r <| block_r <| then_r <| ret1 (.inr rfl) (by kernel_rfl) (resV_tmp s2_28) (.ro _ rfl) ?_
      clear s2_28 ml_3
      (obtain ⟨h1, h2, h3⟩ := hinv; have hn : namB s.data.toList = false := namB_f (i := i.toNat) (by omega) (by first | assumption | exact okB_f (by assumption)); simp [isNameB, hn])
     replace hq_27 := bnf hq_27
     refine aw_skip <| block_n <| then_n <| at_ ?_
     (refine ar (ro_add' s9_17 ev_c ?_) rfl ?_; · (unfold In64; omega))
     refine ar (ro_move up_h) rfl <| ae4 (u2 rfl s0_17) (u2 rfl s7_17) (u2 rfl s8_17) up_h ?_; clear s0_17 s45_17 s7_17 s8_17 s9_17; intro e_29 s0_29 s7_29 s8_29 s9_29
     refine then_n <| ⟨_, ⟨s9_29, (s0_29.trans s0_2.symm), (s7_29.trans s7_2.symm), (s8_29.trans s8_2.symm), ml_3, ?_⟩, ?_⟩
     ·(obtain ⟨h1, h2, h3⟩ := hinv; refine ⟨by omega, by omega, fun j hj => ?_⟩; by_cases hj' : j < i.toNat; exact h3 j hj'; have hji : j = i.toNat := (by omega); rw [hji]; first | assumption | exact okB_t (by omega))
     ·((try dsimp only); omega)
  replace hq_5 := bf hq_5
  refine aw_exit <| then_x <| then_x <| block_hit <| then_n <| aw_seq <| at_ <| ar (ro_move s0_4) rfl <| ar (ro_sneq up_h ev_c) rfl <| ar (ro_move up_h) rfl <| al_case up_h (fun hb_30 hq_30 => ?_) (fun hb_30 hq_30 => ?_)
  ·replace hq_30 := bt' hq_30
   refine al_ro' (ro_move (up_m rfl (u2 rfl s0_4))) ⟨_, rfl, hb_30⟩ rfl ?_
   refine al_ro' (ro_len_str up_h rfl qun9) ⟨_, rfl, (up_m rfl hb_30)⟩ rfl ?_
   refine al_ro' (ro_leq up_h ev_c) ⟨_, rfl, (u2 rfl hb_30)⟩ rfl ?_
   refine ar (ro_pickT (up_m rfl (u2 rfl hb_30)) up_h) rfl <| ar (ro_assign up_h) rfl <| ae1 up_h ?_; clear hb_30 s0_4 s10_4 s7_4 s8_4 s9_4; intro e_31 s2_31
   refine then_n <| aw_ret <| ret1 (.inr rfl) (by kernel_rfl) (resV_tmp s2_31) (.ro _ rfl) ?_
   clear s2_31 ml_3
   (obtain ⟨h1, h2, h3⟩ := hinv; have hn : namB s.data.toList = true := (namB_t fun j hj => h3 j (by omega)); refine avb ?_; simp only [empty_size, isNameB, hn, Bool.true_and, Bool.and_eq_true, decide_eq_true_eq, Bool.not_eq_true', decide_eq_false_iff_not, Bool.false_eq_true, false_iff, true_iff, Bool.not_eq_false'] at *; omega)
  replace hq_30 := bf' hq_30
  refine al_skip' ⟨_, rfl, .inl hb_30⟩ rfl ?_
  refine al_skip' ⟨_, rfl, .inl (up_m rfl hb_30)⟩ rfl ?_
  refine al_skip' ⟨_, rfl, .inl (u2 rfl hb_30)⟩ rfl ?_
  refine ar (ro_pickF (up_m rfl (u2 rfl hb_30)) ev_c) rfl <| ar (ro_assign up_h) rfl <| ae1 up_h ?_; clear hb_30 s0_4 s10_4 s7_4 s8_4 s9_4; intro e_32 s2_32
  refine then_n <| aw_ret <| ret1 (.inr rfl) (by kernel_rfl) (resV_tmp s2_32) (.ro _ rfl) ?_
  clear s2_32 ml_3
  (obtain ⟨h1, h2, h3⟩ := hinv; have hn : namB s.data.toList = true := (namB_t fun j hj => h3 j (by omega)); refine avb ?_; simp only [empty_size, isNameB, hn, Bool.true_and, Bool.and_eq_true, decide_eq_true_eq, Bool.not_eq_true', decide_eq_false_iff_not, Bool.false_eq_true, false_iff, true_iff, Bool.not_eq_false'] at *; omega)
set_option maxRecDepth 100000 in
set_option maxHeartbeats 4000000 in
theorem checks_ok (l : Lin) (hl : Sho l) : FnOk Try.prog 68 [lnA l] (fun q => q = .row 1 (ckV l)) := by
 obtain ⟨h1, h2, h3, h4, h5⟩ := id hl
 refine fnOk_of (fn := Try.f68) 61 (by kernel_rfl) rfl (by kernel_rfl) (Nat.le_of_ble_eq_true rfl) ?_
 intro e_0 m_0 hA hm_0
 have s0_0 : evA e_0 (.tmp 0) = _ := hA 0 _ rfl
 have ml_0 : m_0.length = 0 := by rw [hm_0]; rfl
 clear hA hm_0
 refine aw_seq <| at_ <| ar (ro_boxR s0_0 rfl (by first | rfl | (simp only [roO.roL, roO, Bool.and_true, Bool.true_and]; first | rfl | assumption) | (apply roL_flat; intro _; rfl))) rfl ?_
 refine ar (ro_assign ev_c) rfl <| ae1 (up_m rfl up_h) ?_; clear s0_0; intro e_1 s1_1
 refine then_n <| aw_seq <| at_ <| ar (ro_assign ev_f) rfl <| ae2 (up_m rfl s1_1) up_h ?_; clear s1_1; intro e_2 s1_2 s3_2
 refine then_n <| aw_seq <| at_ <| ar (ro_assign ev_f) rfl <| ae3 (up_m rfl s1_2) (up_m rfl s3_2) up_h ?_; clear s1_2 s3_2; intro e_3 s1_3 s3_3 s4_3
 refine then_n <| aw_seq <| aw_draw 57 (by kernel_rfl) (by kernel_rfl) (by kernel_rfl) (by kernel_rfl) ?_
 refine dr (ro_move s3_3) rfl <| dr (ro_eq (ro_fld_ref qfl26_0 rfl (up_m rfl s1_3)) (by simp only [pS, Value.cells, Nat.reduceAdd] <;> rfl)) rfl ?_
 refine dr (ro_eq (ro_ld_ref y3_ty9 rfl up_h (nle rfl)) (by simp only [pS, Value.cells, Nat.reduceAdd] <;> rfl)) rfl ?_
 refine dr (ro_call (evL_cons up_h evL_nil) rfl (yIsName_ok l.nam (by omega)) qhcf76) rfl ?_
 refine dr (ro_call (evL_cons up_h (evL_cons ev_c evL_nil)) rfl (yUnless_ok _ _) qhcf56) rfl <| dr (ro_callf (u4 rfl up_h) (evL_cons up_h evL_nil) rfl (itself_ok _) y3_hcf72) rfl <| dr (ro_move (u2 rfl (u4 rfl s3_3))) rfl <| dr (ro_eq (ro_fld_ref qfl26_2 rfl (up_m rfl (u2 rfl (u4 rfl s1_3)))) (by simp only [pS, Value.cells, Nat.reduceAdd] <;> rfl)) rfl ?_
 refine dr (ro_eq (ro_ld_ref y3_ty23 rfl up_h (nle rfl)) (by simp only [pS, Value.cells, Nat.reduceAdd] <;> rfl)) rfl ?_
 refine dr (ro_eq (ro_len_row up_h rfl y3_sl23.1) (by simp only [lnS] <;> rfl)) rfl ?_
 refine dr (ro_gtr up_h ev_c) rfl <| dr (ro_move up_h) rfl <| ds_case up_h (fun hb_4 hq_4 => ?_) (fun hb_4 hq_4 => ?_)
 ·replace hq_4 := bt hq_4
  refine ds_ro' (ro_eq (ro_fld_ref qfl26_1 rfl (u4 rfl (u8 rfl s1_3))) (by simp only [pS, Value.cells, Nat.reduceAdd] <;> rfl)) ⟨_, rfl, hb_4⟩ rfl ?_
  refine ds_ro' (ro_eq (ro_ld_ref y3_ty22 rfl up_h (nle rfl)) (by simp only [pS, Value.cells, Nat.reduceAdd] <;> rfl)) ⟨_, rfl, (up_m rfl hb_4)⟩ rfl ?_
  refine ds_ro' (ro_eq (ro_len_row up_h rfl y3_sl22.1) (by simp only [lnS] <;> rfl)) ⟨_, rfl, (u2 rfl hb_4)⟩ rfl ?_
  refine ds_ro' (ro_eq (ro_fld_ref qfl26_2 rfl (up_m rfl (u2 rfl (u4 rfl (u8 rfl s1_3))))) (by simp only [pS, Value.cells, Nat.reduceAdd] <;> rfl)) ⟨_, rfl, (up_m rfl (u2 rfl hb_4))⟩ rfl ?_
  refine ds_ro' (ro_eq (ro_ld_ref y3_ty23 rfl up_h (nle rfl)) (by simp only [pS, Value.cells, Nat.reduceAdd] <;> rfl)) ⟨_, rfl, (u4 rfl hb_4)⟩ rfl ?_
  refine ds_ro' (ro_eq (ro_len_row up_h rfl y3_sl23.1) (by simp only [lnS] <;> rfl)) ⟨_, rfl, (up_m rfl (u4 rfl hb_4))⟩ rfl ?_
  (refine ds_ro' (ro_add' up_h ev_c ?_) ⟨_, rfl, (u2 rfl (u4 rfl hb_4))⟩ rfl ?_; · (unfold In64; omega))
  refine ds_ro' (ro_eql (u4 rfl up_h) up_h) ⟨_, rfl, (up_m rfl (u2 rfl (u4 rfl hb_4)))⟩ rfl ?_
  refine dr (ro_pickT (u8 rfl hb_4) up_h) rfl <| dr (ro_call (evL_cons up_h (evL_cons ev_c evL_nil)) rfl (yUnless_ok _ _) qhcf56) rfl <| dr (ro_callf (up_m rfl (u2 rfl (u4 rfl (u8 rfl up_h)))) (evL_cons up_h evL_nil) rfl (itself_ok _) y3_hcf72) rfl <| dr (ro_move (up_m rfl (u2 rfl (u4 rfl (u16 rfl s3_3))))) rfl <| dr (ro_eq (ro_fld_ref qfl26_2 rfl (u8 rfl (u16 rfl s1_3))) (by simp only [pS, Value.cells, Nat.reduceAdd] <;> rfl)) rfl ?_
  refine dr (ro_eq (ro_ld_ref y3_ty23 rfl up_h (nle rfl)) (by simp only [pS, Value.cells, Nat.reduceAdd] <;> rfl)) rfl ?_
  refine dr (ro_eq (ro_len_row up_h rfl y3_sl23.1) (by simp only [lnS] <;> rfl)) rfl ?_
  refine dr (ro_leq up_h ev_c) rfl <| dr (ro_call (evL_cons up_h (evL_cons ev_c evL_nil)) rfl (yUnless_ok _ _) qhcf56) rfl <| dr (ro_callf (up_m rfl (u4 rfl up_h)) (evL_cons up_h evL_nil) rfl (itself_ok _) y3_hcf72) rfl <| dr (ro_move (u2 rfl (u4 rfl (u8 rfl (u16 rfl s4_3))))) rfl <| dr (ro_eq (ro_fld_ref qfl26_1 rfl (up_m rfl (u2 rfl (u4 rfl (u8 rfl (u16 rfl s1_3)))))) (by simp only [pS, Value.cells, Nat.reduceAdd] <;> rfl)) rfl ?_
  refine dr (ro_eq (ro_ld_ref y3_ty22 rfl up_h (nle rfl)) (by simp only [pS, Value.cells, Nat.reduceAdd] <;> rfl)) rfl ?_
  refine dr (ro_eq (ro_len_row up_h rfl y3_sl22.1) (by simp only [lnS] <;> rfl)) rfl ?_
  refine dr (ro_makeFunc evL_nil (evL_cons (u2 rfl (u16 rfl (u16 rfl s1_3))) evL_nil)) rfl <| dr (ro_callf (u4 rfl up_h) (evL_cons ev_c (evL_cons (up_m rfl up_h) (evL_cons up_h evL_nil))) rfl (each_ok _ _ _ _ rfl) y3_hcf74) rfl <| dr (ro_move (u4 rfl (u16 rfl (u16 rfl s4_3)))) rfl <| dr (ro_eq (ro_fld_ref qfl26_2 rfl (up_m rfl (u4 rfl (u16 rfl (u16 rfl s1_3))))) (by simp only [pS, Value.cells, Nat.reduceAdd] <;> rfl)) rfl ?_
  refine dr (ro_eq (ro_ld_ref y3_ty23 rfl up_h (nle rfl)) (by simp only [pS, Value.cells, Nat.reduceAdd] <;> rfl)) rfl ?_
  refine dr (ro_eq (ro_len_row up_h rfl y3_sl23.1) (by simp only [lnS] <;> rfl)) rfl ?_
  refine dr (ro_makeFunc evL_nil (evL_cons (u8 rfl (u16 rfl (u16 rfl s1_3))) evL_nil)) rfl <| dr (ro_callf (u4 rfl up_h) (evL_cons ev_c (evL_cons (up_m rfl up_h) (evL_cons up_h evL_nil))) rfl (each_ok _ _ _ _ rfl) y3_hcf74) rfl <| dr (ro_move (u2 rfl (u8 rfl (u16 rfl (u16 rfl s3_3))))) rfl <| dr (ro_eq (ro_fld_ref qfl26_3 rfl (up_m rfl (u2 rfl (u8 rfl (u16 rfl (u16 rfl s1_3)))))) (by simp only [pS, Value.cells, Nat.reduceAdd] <;> rfl)) rfl ?_
  refine dr (ro_eq (ro_ld_ref y3_ty24 rfl up_h (nle rfl)) (by simp only [pS, Value.cells, Nat.reduceAdd] <;> rfl)) rfl ?_
  refine dr (ro_eq (ro_len_row up_h rfl y3_sl24.1) (by simp only [lnS] <;> rfl)) rfl ?_
  refine dr (ro_leq up_h ev_c) rfl <| dr (ro_call (evL_cons up_h (evL_cons ev_c evL_nil)) rfl (yUnless_ok _ _) qhcf56) rfl <| dr (ro_callf (up_m rfl (u4 rfl up_h)) (evL_cons up_h evL_nil) rfl (itself_ok _) y3_hcf72) rfl <| dr (ro_move (up_m rfl (u16 rfl (u16 rfl (u16 rfl s4_3))))) rfl <| dr (ro_eq (ro_fld_ref qfl26_3 rfl (u2 rfl (u16 rfl (u16 rfl (u16 rfl s1_3))))) (by simp only [pS, Value.cells, Nat.reduceAdd] <;> rfl)) rfl ?_
  refine dr (ro_eq (ro_ld_ref y3_ty24 rfl up_h (nle rfl)) (by simp only [pS, Value.cells, Nat.reduceAdd] <;> rfl)) rfl ?_
  refine dr (ro_eq (ro_len_row up_h rfl y3_sl24.1) (by simp only [lnS] <;> rfl)) rfl ?_
  refine dr (ro_makeFunc evL_nil (evL_cons (up_m rfl (u4 rfl (u16 rfl (u16 rfl (u16 rfl s1_3))))) evL_nil)) rfl <| dr (ro_callf (u4 rfl up_h) (evL_cons ev_c (evL_cons (up_m rfl up_h) (evL_cons up_h evL_nil))) rfl (each_ok _ _ _ _ rfl) y3_hcf74) rfl <| dr (ro_lit y3_sl109 (evP_cons (up_m rfl (u16 rfl (u16 rfl (u16 rfl up_h)))) (evP_cons (u16 rfl (u16 rfl up_h)) (evP_cons (up_m rfl (u8 rfl (u16 rfl up_h))) (evP_cons (up_m rfl (u2 rfl (u16 rfl up_h))) (evP_cons (up_m rfl (u4 rfl (u8 rfl up_h))) (evP_cons (u2 rfl (u4 rfl up_h)) (evP_cons up_h evP_nil))))))) rfl rfl rfl rfl) rfl <| dr (ro_assign up_h) rfl <| ds_nil <| ae1 up_h ?_; clear hb_4 s1_3 s3_3 s4_3; intro e_5 s2_5
  refine then_n <| aw_ret <| ret1 (.inr rfl) (by kernel_rfl) (resV_tmp s2_5) (.ro _ rfl) ?_
  clear s2_5 ml_0
  (have hp : (0 : Int) < l.bs.length := (by assumption); have hd : decide ((0 : Int) < l.bs.length ∧ (l.js.length : Int) = l.bs.length + 1) = decide ((l.js.length : Int) = l.bs.length + 1) := decide_eq_decide.2 ⟨fun h => h.2, fun h => ⟨hp, h⟩⟩; unfold ckV; rw [hd])
 replace hq_4 := bf hq_4
 refine ds_skip' ⟨_, rfl, .inl hb_4⟩ rfl ?_
 refine ds_skip' ⟨_, rfl, .inl (up_m rfl hb_4)⟩ rfl ?_
 refine ds_skip' ⟨_, rfl, .inl (u2 rfl hb_4)⟩ rfl ?_
 refine ds_skip' ⟨_, rfl, .inl (up_m rfl (u2 rfl hb_4))⟩ rfl ?_
 refine ds_skip' ⟨_, rfl, .inl (u4 rfl hb_4)⟩ rfl ?_
 refine ds_skip' ⟨_, rfl, .inl (up_m rfl (u4 rfl hb_4))⟩ rfl ?_
 refine ds_skip' ⟨_, rfl, .inl (u2 rfl (u4 rfl hb_4))⟩ rfl ?_
 refine ds_skip' ⟨_, rfl, .inl (up_m rfl (u2 rfl (u4 rfl hb_4)))⟩ rfl ?_
 refine dr (ro_pickF (u8 rfl hb_4) ev_c) rfl <| dr (ro_call (evL_cons up_h (evL_cons ev_c evL_nil)) rfl (yUnless_ok _ _) qhcf56) rfl <| dr (ro_callf (up_m rfl (u2 rfl (u4 rfl (u8 rfl up_h)))) (evL_cons up_h evL_nil) rfl (itself_ok _) y3_hcf72) rfl <| dr (ro_move (up_m rfl (u2 rfl (u4 rfl (u16 rfl s3_3))))) rfl <| dr (ro_eq (ro_fld_ref qfl26_2 rfl (u8 rfl (u16 rfl s1_3))) (by simp only [pS, Value.cells, Nat.reduceAdd] <;> rfl)) rfl ?_
 refine dr (ro_eq (ro_ld_ref y3_ty23 rfl up_h (nle rfl)) (by simp only [pS, Value.cells, Nat.reduceAdd] <;> rfl)) rfl ?_
 refine dr (ro_eq (ro_len_row up_h rfl y3_sl23.1) (by simp only [lnS] <;> rfl)) rfl ?_
 refine dr (ro_leq up_h ev_c) rfl <| dr (ro_call (evL_cons up_h (evL_cons ev_c evL_nil)) rfl (yUnless_ok _ _) qhcf56) rfl <| dr (ro_callf (up_m rfl (u4 rfl up_h)) (evL_cons up_h evL_nil) rfl (itself_ok _) y3_hcf72) rfl <| dr (ro_move (u2 rfl (u4 rfl (u8 rfl (u16 rfl s4_3))))) rfl <| dr (ro_eq (ro_fld_ref qfl26_1 rfl (up_m rfl (u2 rfl (u4 rfl (u8 rfl (u16 rfl s1_3)))))) (by simp only [pS, Value.cells, Nat.reduceAdd] <;> rfl)) rfl ?_
 refine dr (ro_eq (ro_ld_ref y3_ty22 rfl up_h (nle rfl)) (by simp only [pS, Value.cells, Nat.reduceAdd] <;> rfl)) rfl ?_
 refine dr (ro_eq (ro_len_row up_h rfl y3_sl22.1) (by simp only [lnS] <;> rfl)) rfl ?_
 refine dr (ro_makeFunc evL_nil (evL_cons (u2 rfl (u16 rfl (u16 rfl s1_3))) evL_nil)) rfl <| dr (ro_callf (u4 rfl up_h) (evL_cons ev_c (evL_cons (up_m rfl up_h) (evL_cons up_h evL_nil))) rfl (each_ok _ _ _ _ rfl) y3_hcf74) rfl <| dr (ro_move (u4 rfl (u16 rfl (u16 rfl s4_3)))) rfl <| dr (ro_eq (ro_fld_ref qfl26_2 rfl (up_m rfl (u4 rfl (u16 rfl (u16 rfl s1_3))))) (by simp only [pS, Value.cells, Nat.reduceAdd] <;> rfl)) rfl ?_
 refine dr (ro_eq (ro_ld_ref y3_ty23 rfl up_h (nle rfl)) (by simp only [pS, Value.cells, Nat.reduceAdd] <;> rfl)) rfl ?_
 refine dr (ro_eq (ro_len_row up_h rfl y3_sl23.1) (by simp only [lnS] <;> rfl)) rfl ?_
 refine dr (ro_makeFunc evL_nil (evL_cons (u8 rfl (u16 rfl (u16 rfl s1_3))) evL_nil)) rfl <| dr (ro_callf (u4 rfl up_h) (evL_cons ev_c (evL_cons (up_m rfl up_h) (evL_cons up_h evL_nil))) rfl (each_ok _ _ _ _ rfl) y3_hcf74) rfl <| dr (ro_move (u2 rfl (u8 rfl (u16 rfl (u16 rfl s3_3))))) rfl <| dr (ro_eq (ro_fld_ref qfl26_3 rfl (up_m rfl (u2 rfl (u8 rfl (u16 rfl (u16 rfl s1_3)))))) (by simp only [pS, Value.cells, Nat.reduceAdd] <;> rfl)) rfl ?_
 refine dr (ro_eq (ro_ld_ref y3_ty24 rfl up_h (nle rfl)) (by simp only [pS, Value.cells, Nat.reduceAdd] <;> rfl)) rfl ?_
 refine dr (ro_eq (ro_len_row up_h rfl y3_sl24.1) (by simp only [lnS] <;> rfl)) rfl ?_
 refine dr (ro_leq up_h ev_c) rfl <| dr (ro_call (evL_cons up_h (evL_cons ev_c evL_nil)) rfl (yUnless_ok _ _) qhcf56) rfl <| dr (ro_callf (up_m rfl (u4 rfl up_h)) (evL_cons up_h evL_nil) rfl (itself_ok _) y3_hcf72) rfl <| dr (ro_move (up_m rfl (u16 rfl (u16 rfl (u16 rfl s4_3))))) rfl <| dr (ro_eq (ro_fld_ref qfl26_3 rfl (u2 rfl (u16 rfl (u16 rfl (u16 rfl s1_3))))) (by simp only [pS, Value.cells, Nat.reduceAdd] <;> rfl)) rfl ?_
 refine dr (ro_eq (ro_ld_ref y3_ty24 rfl up_h (nle rfl)) (by simp only [pS, Value.cells, Nat.reduceAdd] <;> rfl)) rfl ?_
 refine dr (ro_eq (ro_len_row up_h rfl y3_sl24.1) (by simp only [lnS] <;> rfl)) rfl ?_
 refine dr (ro_makeFunc evL_nil (evL_cons (up_m rfl (u4 rfl (u16 rfl (u16 rfl (u16 rfl s1_3))))) evL_nil)) rfl <| dr (ro_callf (u4 rfl up_h) (evL_cons ev_c (evL_cons (up_m rfl up_h) (evL_cons up_h evL_nil))) rfl (each_ok _ _ _ _ rfl) y3_hcf74) rfl <| dr (ro_lit y3_sl109 (evP_cons (up_m rfl (u16 rfl (u16 rfl (u16 rfl up_h)))) (evP_cons (u16 rfl (u16 rfl up_h)) (evP_cons (up_m rfl (u8 rfl (u16 rfl up_h))) (evP_cons (up_m rfl (u2 rfl (u16 rfl up_h))) (evP_cons (up_m rfl (u4 rfl (u8 rfl up_h))) (evP_cons (u2 rfl (u4 rfl up_h)) (evP_cons up_h evP_nil))))))) rfl rfl rfl rfl) rfl <| dr (ro_assign up_h) rfl <| ds_nil <| ae1 up_h ?_; clear hb_4 s1_3 s3_3 s4_3; intro e_6 s2_6
 refine then_n <| aw_ret <| ret1 (.inr rfl) (by kernel_rfl) (resV_tmp s2_6) (.ro _ rfl) ?_
 clear s2_6 ml_0
 (have hd : decide ((0 : Int) < l.bs.length ∧ (l.js.length : Int) = l.bs.length + 1) = false := decide_eq_false (fun h => absurd h.1 (by omega)); unfold ckV; rw [hd])
theorem y4_fl113_0 : FldIs Try.prog 113 0 0 true 2 := by unfold FldIs; kernel_rfl
theorem y4_fl113_1 : FldIs Try.prog 113 1 2 false 1 := by unfold FldIs; kernel_rfl
theorem y4_hcf68 : ∀ args w, (callFunc 68 args).run Try.prog w = .ok (.enter 68 args) w := fun _ _ => by kernel_rfl
theorem y4_sl109 : SlIs Try.prog 109 111 1 8 (.nilFunc) := ⟨by kernel_rfl, by kernel_rfl, by kernel_rfl⟩
theorem y4_ty111 : TyIs Try.prog 111 false 1 := ⟨by kernel_rfl, by kernel_rfl⟩
theorem y4_ty26 : TyIs Try.prog 26 true 4 := ⟨by kernel_rfl, by kernel_rfl⟩
theorem y4_ty29 : TyIs Try.prog 29 false 1 := ⟨by kernel_rfl, by kernel_rfl⟩
theorem y4_ty75 : TyIs Try.prog 75 true 2 := ⟨by kernel_rfl, by kernel_rfl⟩
def ckL (l : Lin) : List AV := [itC (unlessE (isNameB l.nam) 4), itC (unlessE (decide ((0 : Int) < l.bs.length ∧ (l.js.length : Int) = l.bs.length + 1)) 10), itC (unlessE (decide ((l.bs.length : Int) ≤ 40)) 8),
 eaC 1 l.js.length (.clo (.func 77) [] [.ref (lnC l)]), eaC 2 l.bs.length (.clo (.func 80) [] [.ref (lnC l)]), itC (unlessE (decide ((l.ss.length : Int) ≤ 4)) 8), eaC 3 l.ss.length (.clo (.func 81) [] [.ref (lnC l)])]
theorem ckV_L (l : Lin) : ckV l = (ckL l).map oneAV := rfl
def ckR (l : Lin) : List ((Int × Int) × Int) := [((0, 0), unlessE (isNameB l.nam) 4), ((0, 0), unlessE (decide ((0 : Int) < l.bs.length ∧ (l.js.length : Int) = l.bs.length + 1)) 10), ((0, 0), unlessE (decide ((l.bs.length : Int) ≤ 40)) 8),
 eaR 1 (fun i => jntE (l.js.getD i default)) l.js.length, eaR 2 (fun i => beaE (l.bs.getD i default)) l.bs.length, ((0, 0), unlessE (decide ((l.ss.length : Int) ≤ 4)) 8), eaR 3 (swiE l) l.ss.length]
theorem it_clo (er : Int) : CloOk Try.prog (itC er) [] (fun q => q = fuR ((0, 0), er)) := ⟨_, _, _, rfl, rfl, rfl, fun _ _ => by kernel_rfl, itself1_ok er⟩
theorem ea_clo (k : Int) (n : Nat) (f : FuncId) (m : List AV) (er : Nat → Int) (hn : n ≤ 1000000) (hro : roO.roL m = true) (hcf : ∀ args w, (callFunc f args).run Try.prog w = .ok (.enter f args) w) (hc : ∀ i : Int, 0 ≤ i → i < n → FnOk Try.prog f ([] ++ [mA i] ++ m) (fun q => q = mA (er i.toNat))) :
 CloOk Try.prog (eaC k n (.clo (.func f) [] m)) [] (fun q => q = fuR (eaR k er n)) :=
 ⟨_, _, _, rfl, rfl, by first | (simp only [roO.roL, roO, Bool.and_true, Bool.true_and]; done) | simp [roO.roL, roO, hro], fun _ _ => by kernel_rfl, each1_ok k n f m er (by omega) hro hcf hc⟩
theorem ck_clo (l : Lin) (hl : Sho l) (hsw : l.js.length = l.bs.length + 1 → ∀ i : Int, 0 ≤ i → i < l.ss.length → FnOk Try.prog 81 [mA i, .ref (lnC l)] (fun q => q = mA (swiE l i.toNat))) : ∀ i : Nat, i < 7 → (∀ j : Nat, j < i → ((ckR l).getD j default).2 = 0) → CloOk Try.prog ((ckL l).getD i default) [] (fun q => q = fuR ((ckR l).getD i default))
 | 0, _, _ => it_clo _
 | 1, _, _ => it_clo _
 | 2, _, _ => it_clo _
 | 3, _, _ => ea_clo _ _ _ _ _ hl.2.1 rfl (fun _ _ => by kernel_rfl) fun i h0 h1 => look1_ok l i ⟨h0, h1⟩
 | 4, _, _ => ea_clo _ _ _ _ _ hl.2.2.1 rfl (fun _ _ => by kernel_rfl) fun i h0 h1 => look2_ok l i ⟨h0, h1⟩
 | 5, _, _ => it_clo _
 | 6, _, hz => ea_clo _ _ _ _ _ hl.2.2.2.1 rfl (fun _ _ => by kernel_rfl) (hsw (by
  have h1 : unlessE (decide ((0 : Int) < l.bs.length ∧ (l.js.length : Int) = l.bs.length + 1)) 10 = 0 := hz 1 (by omega)
  by_cases hd : (0 : Int) < l.bs.length ∧ (l.js.length : Int) = l.bs.length + 1
  ·omega
  ·rw [decide_eq_false hd] at h1; exact absurd h1 (by decide)))
set_option maxRecDepth 100000 in
set_option maxHeartbeats 4000000 in
theorem checkLine_of (l : Lin) (hl : Sho l) (r : (Int × Int) × Int) (hr : ∀ i : Nat, i < 7 → (∀ j : Nat, j < i → ((ckR l).getD j default).2 = 0) → ((ckR l).getD i default).2 ≠ 0 → r = (ckR l).getD i default) (hr0 : (∀ j : Nat, j < 7 → ((ckR l).getD j default).2 = 0) → r = ((0, 0), 0))
 (hck : ∀ i : Nat, i < 7 → (∀ j : Nat, j < i → ((ckR l).getD j default).2 = 0) → CloOk Try.prog ((ckL l).getD i default) [] (fun q => q = fuR ((ckR l).getD i default))) : FnOk Try.prog 49 [lnA l] (fun q => q = .tuple [.agg [mA r.1.1, mA r.1.2], mA r.2]) := by
 have h7 : (ckL l).length = 7 := rfl
 refine fnOk_of (fn := Try.f49) 25 (by kernel_rfl) rfl (by kernel_rfl) (Nat.le_of_ble_eq_true rfl) ?_
 intro e_0 m_0 hA hm_0
 have s0_0 : evA e_0 (.tmp 0) = _ := hA 0 _ rfl
 have ml_0 : m_0.length = 0 := by rw [hm_0]; rfl
 clear hA hm_0
 refine aw_seq <| at_ <| al_stm (st_box s0_0 rfl ml_0) trivial rfl (fun m_1 hm_1 => ?_)
 have mo0_1 := m_push hm_1 ml_0
 have ml_1 := m_push_l hm_1 ml_0
 have ml_1 : _ = 1 := ml_1
 clear hm_1
 refine al_stm (st_alloc qaz75 rfl ml_1) trivial rfl (fun m_2 hm_2 => ?_)
 have mo1_2 := m_push hm_2 ml_1
 simp only [pS, Value.cells, Nat.reduceAdd, oneAV] at mo1_2
 have mo0_2 := m_push_o hm_2 mo0_1
 have ml_2 := m_push_l hm_2 ml_1
 have ml_2 : _ = 2 := ml_2
 clear hm_2 mo0_1
 refine ar (ro_assign ev_c) rfl <| ae2 (u2 rfl up_h) (up_m rfl up_h) ?_; clear s0_0; intro e_3 s1_3 s2_3
 refine then_n <| aw_seq <| aw_seq <| at_ <| ar (ro_eq (ro_ld_ptr y4_ty26 rfl mo0_2 s1_3 (nle rfl)) (by simp only [pS, Value.cells, Nat.reduceAdd, oneAV] <;> rfl)) rfl ?_
 refine ar (ro_call (evL_cons up_h evL_nil) rfl ((checks_ok l hl).mono (fun q h => h.trans (by rw [ckV_L]))) y4_hcf68) rfl ?_
 refine ar (ro_eq (ro_len_row up_h rfl y4_sl109.1) (by simp only [lnS] <;> rfl)) rfl ?_
 refine ar (ro_move ev_c) rfl <| ae4 (u4 rfl s2_3) (u2 rfl up_h) (up_m rfl up_h) up_h ?_; clear s1_3 s2_3; intro e_4 s2_4 s8_4 s9_4 s10_4
 refine then_n <| aw_block <| aw_loop (S := Int) (fun i e mem => (evA e (.tmp 10) = .v (.int .i64 i)) ∧ (evA e (.tmp 2) = evA e_4 (.tmp 2)) ∧ (evA e (.tmp 8) = evA e_4 (.tmp 8)) ∧ (evA e (.tmp 9) = evA e_4 (.tmp 9)) ∧ (mem[1]? = m_2[1]?) ∧ (mem[0]? = m_2[0]?) ∧ (∃ n, mem.length = n ∧ 2 ≤ n) ∧ ((0 ≤ i ∧ i ≤ 7 ∧ ∀ j : Nat, j < i.toNat → ((ckR l).getD j default).2 = 0))) (fun i => (7 - i).toNat) _ ⟨s10_4, rfl, rfl, rfl, rfl, rfl, ⟨_, ml_2, Nat.le_refl _⟩, ?_⟩ ?_
 ·(exact ⟨by omega, by omega, fun j h => absurd h (by omega)⟩)
 ·rintro i e_5 m_5 ⟨s10_5, k2_5, k8_5, k9_5, mk1_5, mk0_5, ⟨n_5, ml_5, hn_5⟩, hinv⟩
  have s2_5 := k2_5.trans s2_4
  have s8_5 := k8_5.trans s8_4
  have s9_5 := k9_5.trans s9_4
  have mo1_5 := mk1_5.trans mo1_2
  have mo0_5 := mk0_5.trans mo0_2
  (obtain ⟨p1, p2, p3⟩ := hinv)
  refine aw_seq <| at_ <| ar (ro_lss s10_5 s9_5) rfl <| ae5 (up_m rfl s2_5) (up_m rfl s8_5) (up_m rfl s9_5) (up_m rfl s10_5) up_h ?_; clear s10_5 s2_5 s8_5 s9_5; intro e_6 s2_6 s8_6 s9_6 s10_6 s11_6
  refine then_n <| aw_seq <| aw_case s11_6 (fun hq_7 => ?_) (fun hq_7 => ?_)
  ·replace hq_7 := bt hq_7
   refine aw_skip <| then_n <| aw_seq <| aw_block <| aw_seq <| at_ <| ar (ro_eq (ro_ix y4_sl109 s8_6 s10_6 (by omega) (by first | (refine idx_map ?_; first | omega | (simp only [lnS]; omega)) | (refine idx_mapI ?_; first | omega | (simp only [lnS]; omega)) | (refine idx_mapN ?_; first | omega | (simp only [lnS]; omega)) | rfl)) (by simp only [pS, Value.cells, Nat.reduceAdd, oneAV] <;> rfl)) rfl ?_
   refine ar (ro_eq (ro_ld_ref y4_ty111 rfl up_h (nle rfl)) (by simp only [pS, Value.cells, Nat.reduceAdd, oneAV] <;> rfl)) rfl ?_
   refine ar (ro_assign up_h) rfl <| ae5 (up_m rfl (u2 rfl s2_6)) up_h (up_m rfl (u2 rfl s8_6)) (up_m rfl (u2 rfl s9_6)) (up_m rfl (u2 rfl s10_6)) ?_; clear s10_6 s11_6 s2_6 s8_6 s9_6; intro e_8 s2_8 s5_8 s8_8 s9_8 s10_8
   refine then_n <| aw_seq <| at_ <| ar (ro_move s5_8) rfl <| ar (ro_callo up_h evL_nil rfl (hck i.toNat (by omega) p3)) rfl ?_
   refine al_stm (st_alloc qaz113 rfl ml_5) trivial rfl (fun m_9 hm_9 => ?_)
   have mon_5_9 := m_push hm_9 ml_5
   simp only [pS, Value.cells, Nat.reduceAdd, oneAV] at mon_5_9
   have mo1_9 := m_push_o hm_9 mo1_5
   have mo0_9 := m_push_o hm_9 mo0_5
   have ml_9 := m_push_l hm_9 ml_5
   clear hm_9 mo1_5 mo0_5
   refine al_stm (st_store up_h (up_m rfl up_h) rfl rfl mon_5_9 qsz113 rfl (nle rfl)) trivial rfl (fun m_10 hm_10 => ?_)
   have mon_5_10 := m_set hm_10 mon_5_9
   simp only [pS, Value.cells, Nat.reduceAdd, oneAV] at mon_5_10
   have mo1_10 := m_set_o hm_10 mo1_9 (by omega)
   have mo0_10 := m_set_o hm_10 mo0_9 (by omega)
   have ml_10 := m_set_l hm_10 ml_9
   clear hm_10 mon_5_9 mo1_9 mo0_9
   refine ae5 (up_n (up_m rfl (u2 rfl s2_8))) (up_n up_h) (up_n (up_m rfl (u2 rfl s8_8))) (up_n (up_m rfl (u2 rfl s9_8))) (up_n (up_m rfl (u2 rfl s10_8))) ?_; clear s10_8 s2_8 s5_8 s8_8 s9_8; intro e_11 s2_11 s6_11 s8_11 s9_11 s10_11
   refine then_n <| aw_seq <| at_ <| ar (ro_fld_ptr y4_fl113_1 rfl s6_11) rfl <| ar (ro_eq (ro_ld_ptr y4_ty29 rfl mon_5_10 up_h (nle rfl)) (by simp only [pS, Value.cells, Nat.reduceAdd, oneAV] <;> rfl)) rfl ?_
   refine ar (ro_neq up_h ev_c) rfl <| ae6 (up_m rfl (u2 rfl s2_11)) (up_m rfl (u2 rfl s6_11)) (up_m rfl (u2 rfl s8_11)) (up_m rfl (u2 rfl s9_11)) (up_m rfl (u2 rfl s10_11)) up_h ?_; clear s10_11 s2_11 s6_11 s8_11 s9_11; intro e_12 s2_12 s6_12 s8_12 s9_12 s10_12 s18_12
   refine then_n <| aw_case s18_12 (fun hq_13 => ?_) (fun hq_13 => ?_)
   ·replace hq_13 := bnt hq_13
    refine aw_seq <| aw_drawK 5 0 ml_10 (by kernel_rfl) (by kernel_rfl) (by kernel_rfl) (by kernel_rfl) (fun m_14 hm_14 => ?_)
    have mon_5_14 := m_room_o hm_14 mon_5_10
    have mo1_14 := m_room_o hm_14 mo1_10
    have mo0_14 := m_room_o hm_14 mo0_10
    have ml_14 : _ = n_5 + 1 := m_room_l (K := 0) hm_14 ml_10
    clear hm_14 mon_5_10 mo1_10 mo0_10 ml_10
    refine dh_ro (fun M_ hM_ => (ro_fld_ptr y4_fl113_0 rfl s6_12)) trivial ?_
    refine dh_ld (n_5) (fun M_ hM_ => (ro_eq (ro_ld_ptr y4_ty75 rfl (agr hM_ mon_5_14 (by simp)) up_h (nle rfl)) (by simp only [pS, Value.cells, Nat.reduceAdd, oneAV] <;> rfl))) trivial trivial ?_
    refine dh_ro (fun M_ hM_ => (ro_fld_ptr y4_fl113_1 rfl (u2 rfl s6_12))) trivial ?_
    refine dh_ld (n_5) (fun M_ hM_ => (ro_eq (ro_ld_ptr y4_ty29 rfl (agr hM_ mon_5_14 (by simp)) up_h (nle rfl)) (by simp only [pS, Value.cells, Nat.reduceAdd, oneAV] <;> rfl))) trivial trivial ?_
    refine dh_set (1) (fun M_ hM_ => (se_store (u4 rfl s2_12) (u2 rfl up_h) rfl rfl (agr hM_ mo1_14 (by simp)) qsz75 rfl (nle rfl))) trivial trivial ⟨.inl (by simp <;> omega), ⟨.inl (by simp <;> omega), trivial⟩⟩ (fun m_15 hm_15 => ?_)
    have mo1_15 := m_set hm_15 mo1_14
    simp only [pS, Value.cells, Nat.reduceAdd, oneAV] at mo1_15
    have mon_5_15 := m_set_o hm_15 mon_5_14 (by omega)
    have mo0_15 := m_set_o hm_15 mo0_14 (by decide)
    have ml_15 := m_set_l hm_15 ml_14
    clear hm_15 mon_5_14 mo1_14 mo0_14
    refine dh_nil rfl ?_
    refine ar (ro_assign (up_n up_h)) rfl <| ae2 (up_m rfl (up_n (u4 rfl s2_12))) up_h ?_; clear s10_12 s18_12 s2_12 s6_12 s8_12 s9_12; intro e_16 s2_16 s3_16
    refine then_n <| aw_ret <| block_r <| then_r <| then_r <| block_r <| then_r <| ret2 (.inr rfl) (by kernel_rfl) (resV_cell s2_16 mo1_15 y4_ty75 (nle rfl) (by simp)) (resV_tmp s3_16) (vw_r (.ro _ rfl)) (.ro _ rfl) ?_
    clear s2_16 s3_16 mo1_15 mon_5_15 mo0_15 ml_15
    (rw [hr i.toNat (by omega) p3 (by assumption)]; rfl)
   replace hq_13 := bnf hq_13
   refine aw_skip <| block_n <| then_n <| at_ ?_
   (refine ar (ro_add' s10_12 ev_c ?_) rfl ?_; · (unfold In64; omega))
   refine ar (ro_move up_h) rfl <| ae4 (u2 rfl s2_12) (u2 rfl s8_12) (u2 rfl s9_12) up_h ?_; clear s10_12 s18_12 s2_12 s6_12 s8_12 s9_12; intro e_17 s2_17 s8_17 s9_17 s10_17
   refine then_n <| ⟨_, ⟨s10_17, (s2_17.trans s2_4.symm), (s8_17.trans s8_4.symm), (s9_17.trans s9_4.symm), (mo1_10.trans mo1_2.symm), (mo0_10.trans mo0_2.symm), ⟨_, ml_10, by omega⟩, ?_⟩, ?_⟩
   ·(refine ⟨by omega, by omega, fun j hj => ?_⟩; by_cases hji : j < i.toNat; (exact p3 j hji); (rw [show j = i.toNat by omega]; assumption))
   ·((try dsimp only); omega)
  replace hq_7 := bf hq_7
  refine aw_exit <| then_x <| then_x <| block_hit <| then_n <| aw_seq <| at_ <| ar (ro_build evP_nil qbz75 qbu75 qbp75 rfl) rfl ?_
  refine al_stm (st_store (up_m rfl s2_6) up_h rfl rfl mo1_5 qsz75 rfl (nle rfl)) trivial rfl (fun m_18 hm_18 => ?_)
  have mo1_18 := m_set hm_18 mo1_5
  simp only [pS, Value.cells, Nat.reduceAdd, oneAV] at mo1_18
  have mo0_18 := m_set_o hm_18 mo0_5 (by decide)
  have ml_18 := m_set_l hm_18 ml_5
  clear hm_18 mo1_5 mo0_5
  refine ar (ro_assign ev_c) rfl <| ae2 (up_m rfl (up_n (up_m rfl s2_6))) up_h ?_; clear s10_6 s11_6 s2_6 s8_6 s9_6; intro e_19 s2_19 s3_19
  refine then_n <| aw_ret <| ret2 (.inr rfl) (by kernel_rfl) (resV_cell s2_19 mo1_18 y4_ty75 (nle rfl) (by simp)) (resV_tmp s3_19) (vw_r (.ro _ rfl)) (.ro _ rfl) ?_
  clear s2_19 s3_19 mo1_18 mo0_18 ml_18
  (rw [hr0 (fun j hj => p3 j (by omega))]; rfl)
def seqM : List ((Int × Int) × Int) → (Int × Int) × Int
 | [] => ((0, 0), 0)
 | r :: rs => if r.2 = 0 then seqM rs else r
theorem seqM_at : ∀ {rs : List ((Int × Int) × Int)} {i : Nat}, i < rs.length → (∀ j : Nat, j < i → (rs.getD j default).2 = 0) → (rs.getD i default).2 ≠ 0 → seqM rs = rs.getD i default
 | [], _, h, _, _ => absurd h (by simp)
 | r :: rs, 0, _, _, h => by
  have h : r.2 ≠ 0 := h
  simp only [seqM]; rw [if_neg h]; rfl
 | r :: rs, i + 1, hi, hn, h => by
  have h0 : r.2 = 0 := hn 0 (by omega)
  simp only [seqM]; rw [if_pos h0]
  exact seqM_at (rs := rs) (i := i) (by simpa using hi) (fun j hj => hn (j + 1) (by omega)) h
theorem seqM_none : ∀ {rs : List ((Int × Int) × Int)}, (∀ j : Nat, j < rs.length → (rs.getD j default).2 = 0) → seqM rs = ((0, 0), 0)
 | [], _ => rfl
 | r :: rs, h => by
  have h0 : r.2 = 0 := h 0 (by simp)
  simp only [seqM]; rw [if_pos h0]
  exact seqM_none (rs := rs) (fun j hj => h (j + 1) (by simpa using hj))
theorem firN_ne {f : Nat → Int} : ∀ {n i : Nat}, firN f n = some i → f i ≠ 0 ∧ i < n
 | 0, i, h => by simp [firN] at h
 | n + 1, i, h => by
  simp only [firN] at h
  cases hq : firN f n with
  | some k =>
   rw [hq] at h; cases h
   have := firN_ne hq
   exact ⟨this.1, by omega⟩
  | none =>
   rw [hq] at h
   by_cases hz : f n = 0
   ·simp [hz] at h
   ·simp [hz] at h; subst h; exact ⟨hz, by omega⟩
theorem seqM_it (b : Bool) (er : Int) (he : er ≠ 0) (rs : List ((Int × Int) × Int)) : seqM (((0, 0), unlessE b er) :: rs) = if b then seqM rs else ((0, 0), er) := by
 cases b
 ·simp only [seqM, unlessE]; simp [he]
 ·simp only [seqM, unlessE]; simp
theorem seqM_ea (k : Int) (f : Nat → Int) (n : Nat) (rs : List ((Int × Int) × Int)) : seqM (eaR k f n :: rs) = lisM k f n (seqM rs) := by
 unfold eaR lisM
 cases h : firN f n with
 | none => simp only [seqM]; simp
 | some i => simp only [seqM]; rw [if_neg (firN_ne h).1]
theorem linM_seq (l : Lin) : linM l = seqM (ckR l) := by
 unfold ckR
 rw [seqM_it _ _ (by decide), seqM_it _ _ (by decide), seqM_it _ _ (by decide), seqM_ea, seqM_ea, seqM_it _ _ (by decide), seqM_ea]
 unfold linM
 cases isNameB l.nam
 ·rfl
 ·by_cases h2 : l.bs.length = 0 ∨ l.js.length ≠ l.bs.length + 1
  ·simp only [Bool.not_true, Bool.false_eq_true, if_false, if_true]
   rw [if_pos h2, decide_eq_false (by omega)]; rfl
  ·simp only [Bool.not_true, Bool.false_eq_true, if_false, if_true]
   rw [if_neg h2, decide_eq_true (p := (0 : Int) < l.bs.length ∧ (l.js.length : Int) = l.bs.length + 1) (by omega)]
   by_cases h3 : 40 < l.bs.length
   ·rw [if_pos h3, decide_eq_false (p := (l.bs.length : Int) ≤ 40) (by omega)]; rfl
   ·rw [if_neg h3, decide_eq_true (p := (l.bs.length : Int) ≤ 40) (by omega)]
    simp only [if_true]
    congr 2
    by_cases h4 : 4 < l.ss.length
    ·rw [if_pos h4, decide_eq_false (p := (l.ss.length : Int) ≤ 4) (by omega)]; rfl
    ·rw [if_neg h4, decide_eq_true (p := (l.ss.length : Int) ≤ 4) (by omega)]; rfl
theorem checkLine_sw (l : Lin) (hl : Sho l) (hsw : l.js.length = l.bs.length + 1 → ∀ i : Int, 0 ≤ i → i < l.ss.length → FnOk Try.prog 81 [mA i, .ref (lnC l)] (fun q => q = mA (swiE l i.toNat))) : FnOk Try.prog 49 [lnA l] (fun q => q = .tuple [.agg [mA (linM l).1.1, mA (linM l).1.2], mA (linM l).2]) :=
 checkLine_of l hl (linM l) (fun i hi h1 h2 => (linM_seq l).trans (seqM_at (rs := ckR l) hi h1 h2)) (fun h => (linM_seq l).trans (seqM_none (rs := ckR l) h)) (ck_clo l hl hsw)
theorem y6_sl40 : SlIs Try.prog 40 3 1 8 (.int .i64 0) := ⟨by kernel_rfl, by kernel_rfl, by kernel_rfl⟩
theorem y6_ty3 : TyIs Try.prog 3 false 1 := ⟨by kernel_rfl, by kernel_rfl⟩
theorem y6_ty40 : TyIs Try.prog 40 false 1 := ⟨by kernel_rfl, by kernel_rfl⟩
theorem y6_ty9 : TyIs Try.prog 9 false 1 := ⟨by kernel_rfl, by kernel_rfl⟩
set_option maxRecDepth 100000 in
set_option maxHeartbeats 1000000 in
theorem sameName_ok (o s : Swi) : FnOk Try.prog 87 [.agg (swE o), .ref (swE s)] (fun q => q = tbA (o.nam.toList == s.nam.toList)) := by
 refine fnOk_of (fn := Try.f87) 9 (by kernel_rfl) rfl (by kernel_rfl) (Nat.le_of_ble_eq_true rfl) ?_
 intro e_0 m_0 hA hm_0
 have s0_0 : evA e_0 (.tmp 0) = _ := hA 0 _ rfl
 have s1_0 : evA e_0 (.tmp 1) = _ := hA 1 _ rfl
 have ml_0 : m_0.length = 0 := by rw [hm_0]; rfl
 clear hA hm_0
 refine aw_seq <| at_ <| al_stm (st_box s0_0 rfl ml_0) trivial rfl (fun m_1 hm_1 => ?_)
 have mo0_1 := m_push hm_1 ml_0
 simp only [pS, Value.cells, Nat.reduceAdd, swE] at mo0_1
 have ml_1 := m_push_l hm_1 ml_0
 have ml_1 : _ = 1 := ml_1
 clear hm_1
 refine ar (ro_assign ev_c) rfl <| ae2 (u2 rfl s1_0) (up_m rfl up_h) ?_; clear s0_0 s1_0; intro e_2 s1_2 s2_2
 refine then_n <| aw_seq <| at_ <| ar (ro_fld_ptr qfl47_0 rfl s2_2) rfl <| ar (ro_eq (ro_ld_ptr y6_ty9 rfl mo0_1 up_h (nle rfl)) (by simp only [pS, Value.cells, Nat.reduceAdd, swE] <;> rfl)) rfl ?_
 refine ar (ro_eq (ro_fld_ref qfl47_0 rfl (u2 rfl s1_2)) (by simp only [pS, Value.cells, Nat.reduceAdd, swE] <;> rfl)) rfl ?_
 refine ar (ro_eq (ro_ld_ref y6_ty9 rfl up_h (nle rfl)) (by simp only [pS, Value.cells, Nat.reduceAdd, swE] <;> rfl)) rfl ?_
 refine ar (ro_seql (u2 rfl up_h) up_h) rfl <| ar (ro_assign up_h) rfl <| ae1 up_h ?_; clear s1_2 s2_2; intro e_3 s3_3
 refine then_n <| aw_ret <| ret1 (.inr rfl) (by kernel_rfl) (resV_tmp s3_3) (.ro _ rfl) ?_
 clear s3_3 mo0_1 ml_1
 rfl
set_option maxRecDepth 100000 in
set_option maxHeartbeats 1000000 in
theorem clash_ok (o s : Swi) (ho : o.acr.length ≤ 1000000) (hs : s.acr.length ≤ 1000000) : FnOk Try.prog 88 [.agg (swE o), .ref (swE s)] (fun q => q = tbA (claB s o)) := by
 refine fnOk_of (fn := Try.f88) 24 (by kernel_rfl) rfl (by kernel_rfl) (Nat.le_of_ble_eq_true rfl) ?_
 intro e_0 m_0 hA hm_0
 have s0_0 : evA e_0 (.tmp 0) = _ := hA 0 _ rfl
 have s1_0 : evA e_0 (.tmp 1) = _ := hA 1 _ rfl
 have ml_0 : m_0.length = 0 := by rw [hm_0]; rfl
 clear hA hm_0
 refine aw_seq <| at_ <| al_stm (st_box s0_0 rfl ml_0) trivial rfl (fun m_1 hm_1 => ?_)
 have mo0_1 := m_push hm_1 ml_0
 simp only [pS, Value.cells, Nat.reduceAdd, swE] at mo0_1
 have ml_1 := m_push_l hm_1 ml_0
 have ml_1 : _ = 1 := ml_1
 clear hm_1
 refine ar (ro_assign ev_c) rfl <| ae2 (u2 rfl s1_0) (up_m rfl up_h) ?_; clear s0_0 s1_0; intro e_2 s1_2 s2_2
 refine then_n <| aw_seq <| at_ <| ar (ro_eq (ro_fld_ref qfl47_1 rfl s1_2) (by simp only [pS, Value.cells, Nat.reduceAdd, swE] <;> rfl)) rfl ?_
 refine ar (ro_eq (ro_ld_ref y6_ty3 rfl up_h (nle rfl)) (by simp only [pS, Value.cells, Nat.reduceAdd, swE] <;> rfl)) rfl ?_
 refine ar (ro_fld_ptr qfl47_1 rfl (u2 rfl s2_2)) rfl <| ar (ro_eq (ro_ld_ptr y6_ty3 rfl mo0_1 up_h (nle rfl)) (by simp only [pS, Value.cells, Nat.reduceAdd, swE] <;> rfl)) rfl ?_
 refine ar (ro_fld_ptr qfl47_2 rfl (u4 rfl s2_2)) rfl <| ar (ro_eq (ro_ld_ptr y6_ty40 rfl mo0_1 up_h (nle rfl)) (by simp only [pS, Value.cells, Nat.reduceAdd, swE] <;> rfl)) rfl ?_
 refine ar (ro_eq (ro_len_row up_h rfl y6_sl40.1) (by simp only [lnS] <;> rfl)) rfl ?_
 refine ar (ro_add (up_m rfl (u2 rfl up_h)) up_h) rfl <| ar (ro_lss (u2 rfl (u4 rfl up_h)) up_h) rfl <| ar (ro_move up_h) rfl <| al_case up_h (fun hb_3 hq_3 => ?_) (fun hb_3 hq_3 => ?_)
 ·replace hq_3 := bt hq_3
  refine al_ro' (ro_fld_ptr qfl47_1 rfl (u2 rfl (u8 rfl s2_2))) ⟨_, rfl, hb_3⟩ rfl ?_
  refine al_ro' (ro_eq (ro_ld_ptr y6_ty3 rfl mo0_1 up_h (nle rfl)) (by simp only [pS, Value.cells, Nat.reduceAdd, swE] <;> rfl)) ⟨_, rfl, (up_m rfl hb_3)⟩ rfl ?_
  refine al_ro' (ro_eq (ro_fld_ref qfl47_1 rfl (u4 rfl (u8 rfl s1_2))) (by simp only [pS, Value.cells, Nat.reduceAdd, swE] <;> rfl)) ⟨_, rfl, (u2 rfl hb_3)⟩ rfl ?_
  refine al_ro' (ro_eq (ro_ld_ref y6_ty3 rfl up_h (nle rfl)) (by simp only [pS, Value.cells, Nat.reduceAdd, swE] <;> rfl)) ⟨_, rfl, (up_m rfl (u2 rfl hb_3))⟩ rfl ?_
  refine al_ro' (ro_eq (ro_fld_ref qfl47_2 rfl (u2 rfl (u4 rfl (u8 rfl s1_2)))) (by simp only [pS, Value.cells, Nat.reduceAdd, swE] <;> rfl)) ⟨_, rfl, (u4 rfl hb_3)⟩ rfl ?_
  refine al_ro' (ro_eq (ro_ld_ref y6_ty40 rfl up_h (nle rfl)) (by simp only [pS, Value.cells, Nat.reduceAdd, swE] <;> rfl)) ⟨_, rfl, (up_m rfl (u4 rfl hb_3))⟩ rfl ?_
  refine al_ro' (ro_eq (ro_len_row up_h rfl y6_sl40.1) (by simp only [lnS] <;> rfl)) ⟨_, rfl, (u2 rfl (u4 rfl hb_3))⟩ rfl ?_
  refine al_ro' (ro_add (up_m rfl (u2 rfl up_h)) up_h) ⟨_, rfl, (up_m rfl (u2 rfl (u4 rfl hb_3)))⟩ rfl ?_
  refine al_ro' (ro_lss (u2 rfl (u4 rfl up_h)) up_h) ⟨_, rfl, (u8 rfl hb_3)⟩ rfl ?_
  refine ar (ro_pickT (up_m rfl (u8 rfl hb_3)) up_h) rfl <| ar (ro_assign up_h) rfl <| ae1 up_h ?_; clear hb_3 s1_2 s2_2; intro e_4 s3_4
  refine then_n <| aw_ret <| ret1 (.inr rfl) (by kernel_rfl) (resV_tmp s3_4) (.ro _ rfl) ?_
  clear s3_4 mo0_1 ml_1
  (refine avb ?_; simp only [claB, decide_eq_true_eq, Bool.false_eq_true, true_iff, false_iff, ← wrap_eq]; omega)
 replace hq_3 := bf hq_3
 refine al_skip' ⟨_, rfl, .inl hb_3⟩ rfl ?_
 refine al_skip' ⟨_, rfl, .inl (up_m rfl hb_3)⟩ rfl ?_
 refine al_skip' ⟨_, rfl, .inl (u2 rfl hb_3)⟩ rfl ?_
 refine al_skip' ⟨_, rfl, .inl (up_m rfl (u2 rfl hb_3))⟩ rfl ?_
 refine al_skip' ⟨_, rfl, .inl (u4 rfl hb_3)⟩ rfl ?_
 refine al_skip' ⟨_, rfl, .inl (up_m rfl (u4 rfl hb_3))⟩ rfl ?_
 refine al_skip' ⟨_, rfl, .inl (u2 rfl (u4 rfl hb_3))⟩ rfl ?_
 refine al_skip' ⟨_, rfl, .inl (up_m rfl (u2 rfl (u4 rfl hb_3)))⟩ rfl ?_
 refine al_skip' ⟨_, rfl, .inl (u8 rfl hb_3)⟩ rfl ?_
 refine ar (ro_pickF (up_m rfl (u8 rfl hb_3)) ev_c) rfl <| ar (ro_assign up_h) rfl <| ae1 up_h ?_; clear hb_3 s1_2 s2_2; intro e_5 s3_5
 refine then_n <| aw_ret <| ret1 (.inr rfl) (by kernel_rfl) (resV_tmp s3_5) (.ro _ rfl) ?_
 clear s3_5 mo0_1 ml_1
 (refine avb ?_; simp only [claB, decide_eq_true_eq, Bool.false_eq_true, true_iff, false_iff, ← wrap_eq]; omega)
set_option maxRecDepth 100000 in
set_option maxHeartbeats 1000000 in
theorem notAcross_ok (n : Int) : FnOk Try.prog 90 [mA n] (fun q => q = tbA (!smaB n 20000)) := by
 refine fnOk_of (fn := Try.f90) 6 (by kernel_rfl) rfl (by kernel_rfl) (Nat.le_of_ble_eq_true rfl) ?_
 intro e_0 m_0 hA hm_0
 have s0_0 : evA e_0 (.tmp 0) = _ := hA 0 _ rfl
 have ml_0 : m_0.length = 0 := by rw [hm_0]; rfl
 clear hA hm_0
 refine aw_seq <| at_ <| ar (ro_assign ev_c) rfl <| ae1 (up_m rfl s0_0) ?_; clear s0_0; intro e_1 s0_1
 refine then_n <| aw_seq <| at_ <| ar (ro_move s0_1) rfl <| ar (ro_call (evL_cons up_h evL_nil) rfl (isAcross_ok n) qhcf78) rfl <| ar (ro_not up_h) rfl <| ar (ro_assign up_h) rfl <| ae1 up_h ?_; clear s0_1; intro e_2 s2_2
 refine then_n <| aw_ret <| ret1 (.inr rfl) (by kernel_rfl) (resV_tmp s2_2) (.ro _ rfl) ?_
 clear s2_2 ml_0
 rfl
theorem y7_hcf90 : ∀ args w, (callFunc 90 args).run Try.prog w = .ok (.enter 90 args) w := fun _ _ => by kernel_rfl
theorem y7_hcf91 : ∀ args w, (callFunc 91 args).run Try.prog w = .ok (.enter 91 args) w := fun _ _ => by kernel_rfl
theorem y7_hcf92 : ∀ args w, (callFunc 92 args).run Try.prog w = .ok (.enter 92 args) w := fun _ _ => by kernel_rfl
theorem y7_sl24 : SlIs Try.prog 24 47 3 48 (.agg #[.string ByteArray.empty, .int .i64 0, .slice none 0 0]) := ⟨by kernel_rfl, by kernel_rfl, by kernel_rfl⟩
theorem y7_sl40 : SlIs Try.prog 40 3 1 8 (.int .i64 0) := ⟨by kernel_rfl, by kernel_rfl, by kernel_rfl⟩
theorem y7_ty3 : TyIs Try.prog 3 false 1 := ⟨by kernel_rfl, by kernel_rfl⟩
theorem y7_ty47 : TyIs Try.prog 47 true 3 := ⟨by kernel_rfl, by kernel_rfl⟩
def idxS {α : Type} (p : α → Bool) (l : List α) : Int := match l.findIdx? p with
 | some i => i
 | none => -1
theorem idxS_hit {α : Type} [Inhabited α] {g : α → Bool} {l : List α} {i : Nat} (hi : i < l.length) (h : g (l.getD i default) = true) (hn : ∀ j : Nat, j < i → g (l.getD j default) = false) : idxS g l = i := by
 have e : ∀ j, (hj : j < l.length) → l.getD j default = l[j] := fun j hj => by simp [List.getD_eq_getElem?_getD, hj]
 unfold idxS
 rw [show l.findIdx? g = some i from List.findIdx?_eq_some_iff_getElem.2 ⟨hi, by rw [← e i hi, h], fun j hj => by rw [← e j (by omega), hn j hj]; decide⟩]
theorem idxS_miss {α : Type} [Inhabited α] {g : α → Bool} {l : List α} (hn : ∀ j : Nat, j < l.length → g (l.getD j default) = false) : idxS g l = -1 := by
 unfold idxS
 rw [List.findIdx?_eq_none_iff.2 fun x hx => by
  obtain ⟨j, hj, rfl⟩ := List.getElem_of_mem hx
  have := hn j hj
  rwa [List.getD_eq_getElem?_getD, List.getElem?_eq_getElem hj] at this]
theorem idxS_any {α : Type} (g : α → Bool) (l : List α) : (0 ≤ idxS g l) ↔ l.any g = true := by
 unfold idxS
 rw [List.any_eq_true]
 cases h : l.findIdx? g with
 | none =>
  rw [List.findIdx?_eq_none_iff] at h
  refine ⟨fun q => absurd q (by decide), fun ⟨x, hx, hg⟩ => ?_⟩
  rw [h x hx] at hg; cases hg
 | some i =>
  obtain ⟨hi, h1, _⟩ := List.findIdx?_eq_some_iff_getElem.1 h
  exact ⟨fun _ => ⟨_, List.getElem_mem hi, h1⟩, fun _ => by show (0 : Int) ≤ (i : Int); omega⟩
set_option maxRecDepth 100000 in
set_option maxHeartbeats 4000000 in
theorem indexS_ok (ss : List Swi) (c : AV) (p : Swi → Bool) (hl : ss.length ≤ 1000000) (hc : ∀ i : Nat, i < ss.length → CloOk Try.prog c [.agg (swE (ss.getD i default))] (fun q => q = tbA (p (ss.getD i default)))) :
 FnOk Try.prog 91 [.row 3 (ss.map swE), c] (fun q => q = mA (idxS p ss)) := by
 refine fnOk_of (fn := Try.f91) 19 (by kernel_rfl) rfl (by kernel_rfl) (Nat.le_of_ble_eq_true rfl) ?_
 intro e_0 m_0 hA hm_0
 have s0_0 : evA e_0 (.tmp 0) = _ := hA 0 _ rfl
 have s1_0 : evA e_0 (.tmp 1) = _ := hA 1 _ rfl
 have ml_0 : m_0.length = 0 := by rw [hm_0]; rfl
 clear hA hm_0
 refine aw_seq <| at_ <| ar (ro_assign ev_c) rfl <| ae2 (up_m rfl s0_0) (up_m rfl s1_0) ?_; clear s0_0 s1_0; intro e_1 s0_1 s1_1
 refine then_n <| aw_seq <| aw_seq <| at_ <| ar (ro_move s0_1) rfl <| ar (ro_eq (ro_len_row up_h rfl y7_sl24.1) (by simp only [lnS] <;> rfl)) rfl ?_
 refine ar (ro_move ev_c) rfl <| ae4 (up_m rfl (u2 rfl s0_1)) (up_m rfl (u2 rfl s1_1)) (up_m rfl up_h) up_h ?_; clear s0_1 s1_1; intro e_2 s0_2 s1_2 s7_2 s8_2
 refine then_n <| aw_block <| aw_loop (S := Int) (fun i e mem => (evA e (.tmp 8) = .v (.int .i64 i)) ∧ (evA e (.tmp 0) = evA e_2 (.tmp 0)) ∧ (evA e (.tmp 1) = evA e_2 (.tmp 1)) ∧ (evA e (.tmp 7) = evA e_2 (.tmp 7)) ∧ (mem.length = 0) ∧ ((0 ≤ i ∧ i ≤ ss.length ∧ ∀ j : Nat, j < i.toNat → p (ss.getD j default) = false))) (fun i => (ss.length - i).toNat) _ ⟨s8_2, rfl, rfl, rfl, ml_0, ?_⟩ ?_
 ·(exact ⟨by omega, by omega, fun j h => absurd h (by omega)⟩)
 ·rintro i e_3 m_3 ⟨s8_3, k0_3, k1_3, k7_3, ml_3, hinv⟩
  have s0_3 := k0_3.trans s0_2
  have s1_3 := k1_3.trans s1_2
  have s7_3 := k7_3.trans s7_2
  (obtain ⟨p1, p2, p3⟩ := hinv)
  refine aw_seq <| at_ <| ar (ro_lss s8_3 s7_3) rfl <| ae5 (up_m rfl s0_3) (up_m rfl s1_3) (up_m rfl s7_3) (up_m rfl s8_3) up_h ?_; clear s0_3 s1_3 s7_3 s8_3; intro e_4 s0_4 s1_4 s7_4 s8_4 s9_4
  refine then_n <| aw_seq <| aw_case s9_4 (fun hq_5 => ?_) (fun hq_5 => ?_)
  ·replace hq_5 := bt hq_5
   refine aw_skip <| then_n <| aw_seq <| aw_block <| aw_seq <| at_ <| ar (ro_move s8_4) rfl <| ar (ro_assign up_h) rfl <| ae5 (u2 rfl s0_4) (u2 rfl s1_4) up_h (u2 rfl s7_4) (u2 rfl s8_4) ?_; clear s0_4 s1_4 s7_4 s8_4 s9_4; intro e_6 s0_6 s1_6 s5_6 s7_6 s8_6
   refine then_n <| aw_seq <| at_ <| ar (ro_move s1_6) rfl <| ar (ro_move (up_m rfl s0_6)) rfl <| ar (ro_move (u2 rfl s5_6)) rfl <| ar (ro_eq (ro_ix y7_sl24 (up_m rfl up_h) up_h (by omega) (by first | (refine idx_map ?_; first | omega | (simp only [lnS]; omega)) | (refine idx_mapI ?_; first | omega | (simp only [lnS]; omega)) | (refine idx_mapN ?_; first | omega | (simp only [lnS]; omega)) | rfl)) (by rfl)) rfl ?_
   refine ar (ro_eq (ro_ld_ref y7_ty47 rfl up_h (nle rfl)) (by simp only [pS, Value.cells, Nat.reduceAdd] <;> rfl)) rfl ?_
   refine ar (ro_callo (u4 rfl up_h) (evL_cons up_h evL_nil) rfl (hc i.toNat (by omega))) rfl ?_
   refine ae6 (u2 rfl (u4 rfl s0_6)) (u2 rfl (u4 rfl s1_6)) (u2 rfl (u4 rfl s5_6)) (u2 rfl (u4 rfl s7_6)) (u2 rfl (u4 rfl s8_6)) up_h ?_; clear s0_6 s1_6 s5_6 s7_6 s8_6; intro e_7 s0_7 s1_7 s5_7 s7_7 s8_7 s16_7
   refine then_n <| aw_case s16_7 (fun hq_8 => ?_) (fun hq_8 => ?_)
   ·skip
    refine aw_seq <| at_ <| ar (ro_move s5_7) rfl <| ar (ro_assign up_h) rfl <| ae1 up_h ?_; clear s0_7 s16_7 s1_7 s5_7 s7_7 s8_7; intro e_9 s4_9
    refine then_n <| aw_ret <| block_r <| then_r <| then_r <| block_r <| then_r <| ret1 (.inr rfl) (by kernel_rfl) (resV_tmp s4_9) (.ro _ rfl) ?_
    clear s4_9 ml_3
    (rw [idxS_hit (i := i.toNat) (by omega) (by assumption) p3, Int.toNat_of_nonneg p1])
   refine aw_skip <| block_n <| then_n <| at_ ?_
   (refine ar (ro_add' s8_7 ev_c ?_) rfl ?_; · (unfold In64; omega))
   refine ar (ro_move up_h) rfl <| ae4 (u2 rfl s0_7) (u2 rfl s1_7) (u2 rfl s7_7) up_h ?_; clear s0_7 s16_7 s1_7 s5_7 s7_7 s8_7; intro e_10 s0_10 s1_10 s7_10 s8_10
   refine then_n <| ⟨_, ⟨s8_10, (s0_10.trans s0_2.symm), (s1_10.trans s1_2.symm), (s7_10.trans s7_2.symm), ml_3, ?_⟩, ?_⟩
   ·(refine ⟨by omega, by omega, fun j hj => ?_⟩; by_cases hji : j < i.toNat; (exact p3 j hji); (rw [show j = i.toNat by omega]; assumption))
   ·((try dsimp only); omega)
  replace hq_5 := bf hq_5
  refine aw_exit <| then_x <| then_x <| block_hit <| then_n <| aw_seq <| at_ <| ar (ro_assign ev_c) rfl <| ae1 up_h ?_; clear s0_4 s1_4 s7_4 s8_4 s9_4; intro e_11 s4_11
  refine then_n <| aw_ret <| ret1 (.inr rfl) (by kernel_rfl) (resV_tmp s4_11) (.ro _ rfl) ?_
  clear s4_11 ml_3
  (rw [idxS_miss (fun j hj => p3 j (by omega))])
set_option maxRecDepth 100000 in
set_option maxHeartbeats 1000000 in
theorem containsS_ok (ss : List Swi) (c : AV) (p : Swi → Bool) (hro : roO c = true) (hl : ss.length ≤ 1000000) (hc : ∀ i : Nat, i < ss.length → CloOk Try.prog c [.agg (swE (ss.getD i default))] (fun q => q = tbA (p (ss.getD i default)))) :
 FnOk Try.prog 86 [.row 3 (ss.map swE), c] (fun q => q = tbA (ss.any p)) := by
 refine fnOk_of (fn := Try.f86) 9 (by kernel_rfl) rfl (by kernel_rfl) (Nat.le_of_ble_eq_true rfl) ?_
 intro e_0 m_0 hA hm_0
 have s0_0 : evA e_0 (.tmp 0) = _ := hA 0 _ rfl
 have s1_0 : evA e_0 (.tmp 1) = _ := hA 1 _ rfl
 have ml_0 : m_0.length = 0 := by rw [hm_0]; rfl
 clear hA hm_0
 refine aw_seq <| at_ <| ar (ro_assign ev_c) rfl <| ae2 (up_m rfl s0_0) (up_m rfl s1_0) ?_; clear s0_0 s1_0; intro e_1 s0_1 s1_1
 refine then_n <| aw_seq <| at_ <| ar (ro_move s0_1) rfl <| ar (ro_move (up_m rfl s1_1)) rfl <| ar (ro_call (evL_cons (up_m rfl up_h) (evL_cons up_h evL_nil)) (by first | rfl | (simp only [roO.roL, roO, Bool.and_true, Bool.true_and]; first | rfl | assumption) | simp [roO.roL, roO, *]) (indexS_ok ss c p hl hc) y7_hcf91) rfl ?_
 refine ar (ro_geq up_h ev_c) rfl <| ar (ro_assign up_h) rfl <| ae1 up_h ?_; clear s0_1 s1_1; intro e_2 s4_2
 refine then_n <| aw_ret <| ret1 (.inr rfl) (by kernel_rfl) (resV_tmp s4_2) (.ro _ rfl) ?_
 clear s4_2 ml_0
 (refine avb ?_; simp only [decide_eq_true_eq, idxS_any])
set_option maxRecDepth 100000 in
set_option maxHeartbeats 4000000 in
theorem indexA_ok (l : List Int) (hl : l.length ≤ 1000000) : FnOk Try.prog 92 [.row 1 (l.map iE), .v (.func (.func 90) #[] #[])] (fun q => q = mA (idxS (fun n => !smaB n 20000) l)) := by
 refine fnOk_of (fn := Try.f92) 19 (by kernel_rfl) rfl (by kernel_rfl) (Nat.le_of_ble_eq_true rfl) ?_
 intro e_0 m_0 hA hm_0
 have s0_0 : evA e_0 (.tmp 0) = _ := hA 0 _ rfl
 have s1_0 : evA e_0 (.tmp 1) = _ := hA 1 _ rfl
 have ml_0 : m_0.length = 0 := by rw [hm_0]; rfl
 clear hA hm_0
 refine aw_seq <| at_ <| ar (ro_assign ev_c) rfl <| ae2 (up_m rfl s0_0) (up_m rfl s1_0) ?_; clear s0_0 s1_0; intro e_1 s0_1 s1_1
 refine then_n <| aw_seq <| aw_seq <| at_ <| ar (ro_move s0_1) rfl <| ar (ro_eq (ro_len_row up_h rfl y7_sl40.1) (by simp only [lnS] <;> rfl)) rfl ?_
 refine ar (ro_move ev_c) rfl <| ae4 (up_m rfl (u2 rfl s0_1)) (up_m rfl (u2 rfl s1_1)) (up_m rfl up_h) up_h ?_; clear s0_1 s1_1; intro e_2 s0_2 s1_2 s7_2 s8_2
 refine then_n <| aw_block <| aw_loop (S := Int) (fun i e mem => (evA e (.tmp 8) = .v (.int .i64 i)) ∧ (evA e (.tmp 0) = evA e_2 (.tmp 0)) ∧ (evA e (.tmp 1) = evA e_2 (.tmp 1)) ∧ (evA e (.tmp 7) = evA e_2 (.tmp 7)) ∧ (mem.length = 0) ∧ ((0 ≤ i ∧ i ≤ l.length ∧ ∀ j : Nat, j < i.toNat → (!smaB (l.getD j default) 20000) = false))) (fun i => (l.length - i).toNat) _ ⟨s8_2, rfl, rfl, rfl, ml_0, ?_⟩ ?_
 ·(exact ⟨by omega, by omega, fun j h => absurd h (by omega)⟩)
 ·rintro i e_3 m_3 ⟨s8_3, k0_3, k1_3, k7_3, ml_3, hinv⟩
  have s0_3 := k0_3.trans s0_2
  have s1_3 := k1_3.trans s1_2
  have s7_3 := k7_3.trans s7_2
  (obtain ⟨p1, p2, p3⟩ := hinv)
  refine aw_seq <| at_ <| ar (ro_lss s8_3 s7_3) rfl <| ae5 (up_m rfl s0_3) (up_m rfl s1_3) (up_m rfl s7_3) (up_m rfl s8_3) up_h ?_; clear s0_3 s1_3 s7_3 s8_3; intro e_4 s0_4 s1_4 s7_4 s8_4 s9_4
  refine then_n <| aw_seq <| aw_case s9_4 (fun hq_5 => ?_) (fun hq_5 => ?_)
  ·replace hq_5 := bt hq_5
   refine aw_skip <| then_n <| aw_seq <| aw_block <| aw_seq <| at_ <| ar (ro_move s8_4) rfl <| ar (ro_assign up_h) rfl <| ae5 (u2 rfl s0_4) (u2 rfl s1_4) up_h (u2 rfl s7_4) (u2 rfl s8_4) ?_; clear s0_4 s1_4 s7_4 s8_4 s9_4; intro e_6 s0_6 s1_6 s5_6 s7_6 s8_6
   refine then_n <| aw_seq <| at_ <| ar (ro_move s1_6) rfl <| ar (ro_move (up_m rfl s0_6)) rfl <| ar (ro_move (u2 rfl s5_6)) rfl <| ar (ro_eq (ro_ix y7_sl40 (up_m rfl up_h) up_h (by omega) (by first | (refine idx_map ?_; first | omega | (simp only [lnS]; omega)) | (refine idx_mapI ?_; first | omega | (simp only [lnS]; omega)) | (refine idx_mapN ?_; first | omega | (simp only [lnS]; omega)) | rfl)) (by simp only [pS, Value.cells, Nat.reduceAdd] <;> rfl)) rfl ?_
   refine ar (ro_eq (ro_ld_ref y7_ty3 rfl up_h (nle rfl)) (by simp only [pS, Value.cells, Nat.reduceAdd] <;> rfl)) rfl ?_
   refine ar (ro_callf (u4 rfl up_h) (evL_cons up_h evL_nil) rfl (notAcross_ok _) y7_hcf90) rfl <| ae6 (u2 rfl (u4 rfl s0_6)) (u2 rfl (u4 rfl s1_6)) (u2 rfl (u4 rfl s5_6)) (u2 rfl (u4 rfl s7_6)) (u2 rfl (u4 rfl s8_6)) up_h ?_; clear s0_6 s1_6 s5_6 s7_6 s8_6; intro e_7 s0_7 s1_7 s5_7 s7_7 s8_7 s16_7
   refine then_n <| aw_case s16_7 (fun hq_8 => ?_) (fun hq_8 => ?_)
   ·replace hq_8 := bt' hq_8
    refine aw_seq <| at_ <| ar (ro_move s5_7) rfl <| ar (ro_assign up_h) rfl <| ae1 up_h ?_; clear s0_7 s16_7 s1_7 s5_7 s7_7 s8_7; intro e_9 s4_9
    refine then_n <| aw_ret <| block_r <| then_r <| then_r <| block_r <| then_r <| ret1 (.inr rfl) (by kernel_rfl) (resV_tmp s4_9) (.ro _ rfl) ?_
    clear s4_9 ml_3
    (rw [idxS_hit (i := i.toNat) (by omega) (by rw [‹smaB _ _ = false›]; rfl) p3, Int.toNat_of_nonneg p1])
   replace hq_8 := bf' hq_8
   refine aw_skip <| block_n <| then_n <| at_ ?_
   (refine ar (ro_add' s8_7 ev_c ?_) rfl ?_; · (unfold In64; omega))
   refine ar (ro_move up_h) rfl <| ae4 (u2 rfl s0_7) (u2 rfl s1_7) (u2 rfl s7_7) up_h ?_; clear s0_7 s16_7 s1_7 s5_7 s7_7 s8_7; intro e_10 s0_10 s1_10 s7_10 s8_10
   refine then_n <| ⟨_, ⟨s8_10, (s0_10.trans s0_2.symm), (s1_10.trans s1_2.symm), (s7_10.trans s7_2.symm), ml_3, ?_⟩, ?_⟩
   ·(refine ⟨by omega, by omega, fun j hj => ?_⟩; by_cases hji : j < i.toNat; (exact p3 j hji); (rw [show j = i.toNat by omega]; rw [‹smaB _ _ = true›]; rfl))
   ·((try dsimp only); omega)
  replace hq_5 := bf hq_5
  refine aw_exit <| then_x <| then_x <| block_hit <| then_n <| aw_seq <| at_ <| ar (ro_assign ev_c) rfl <| ae1 up_h ?_; clear s0_4 s1_4 s7_4 s8_4 s9_4; intro e_11 s4_11
  refine then_n <| aw_ret <| ret1 (.inr rfl) (by kernel_rfl) (resV_tmp s4_11) (.ro _ rfl) ?_
  clear s4_11 ml_3
  (rw [idxS_miss (fun j hj => p3 j (by omega))])
set_option maxRecDepth 100000 in
set_option maxHeartbeats 1000000 in
theorem containsA_ok (l : List Int) (hl : l.length ≤ 1000000) : FnOk Try.prog 89 [.row 1 (l.map iE), .v (.func (.func 90) #[] #[])] (fun q => q = tbA (l.any (fun n => !smaB n 20000))) := by
 refine fnOk_of (fn := Try.f89) 9 (by kernel_rfl) rfl (by kernel_rfl) (Nat.le_of_ble_eq_true rfl) ?_
 intro e_0 m_0 hA hm_0
 have s0_0 : evA e_0 (.tmp 0) = _ := hA 0 _ rfl
 have s1_0 : evA e_0 (.tmp 1) = _ := hA 1 _ rfl
 have ml_0 : m_0.length = 0 := by rw [hm_0]; rfl
 clear hA hm_0
 refine aw_seq <| at_ <| ar (ro_assign ev_c) rfl <| ae2 (up_m rfl s0_0) (up_m rfl s1_0) ?_; clear s0_0 s1_0; intro e_1 s0_1 s1_1
 refine then_n <| aw_seq <| at_ <| ar (ro_move s0_1) rfl <| ar (ro_move (up_m rfl s1_1)) rfl <| ar (ro_call (evL_cons (up_m rfl up_h) (evL_cons up_h evL_nil)) rfl (indexA_ok l hl) y7_hcf92) rfl <| ar (ro_geq up_h ev_c) rfl <| ar (ro_assign up_h) rfl <| ae1 up_h ?_; clear s0_1 s1_1; intro e_2 s4_2
 refine then_n <| aw_ret <| ret1 (.inr rfl) (by kernel_rfl) (resV_tmp s4_2) (.ro _ rfl) ?_
 clear s4_2 ml_0
 (refine avb ?_; simp only [decide_eq_true_eq, idxS_any])
theorem y8_hcf82 : ∀ args w, (callFunc 82 args).run Try.prog w = .ok (.enter 82 args) w := fun _ _ => by kernel_rfl
theorem y8_hcf86 : ∀ args w, (callFunc 86 args).run Try.prog w = .ok (.enter 86 args) w := fun _ _ => by kernel_rfl
theorem y8_hcf89 : ∀ args w, (callFunc 89 args).run Try.prog w = .ok (.enter 89 args) w := fun _ _ => by kernel_rfl
theorem y8_sl100 : SlIs Try.prog 100 29 1 8 (.int .i64 0) := ⟨by kernel_rfl, by kernel_rfl, by kernel_rfl⟩
theorem y8_sl22 : SlIs Try.prog 22 66 4 32 (.agg #[.int .i64 0, .int .i64 0, .int .i64 0, .int .i64 0]) := ⟨by kernel_rfl, by kernel_rfl, by kernel_rfl⟩
theorem y8_sl24 : SlIs Try.prog 24 47 3 48 (.agg #[.string ByteArray.empty, .int .i64 0, .slice none 0 0]) := ⟨by kernel_rfl, by kernel_rfl, by kernel_rfl⟩
theorem y8_sl40 : SlIs Try.prog 40 3 1 8 (.int .i64 0) := ⟨by kernel_rfl, by kernel_rfl, by kernel_rfl⟩
theorem y8_ty22 : TyIs Try.prog 22 false 1 := ⟨by kernel_rfl, by kernel_rfl⟩
theorem y8_ty24 : TyIs Try.prog 24 false 1 := ⟨by kernel_rfl, by kernel_rfl⟩
theorem y8_ty26 : TyIs Try.prog 26 true 4 := ⟨by kernel_rfl, by kernel_rfl⟩
theorem y8_ty3 : TyIs Try.prog 3 false 1 := ⟨by kernel_rfl, by kernel_rfl⟩
theorem y8_ty40 : TyIs Try.prog 40 false 1 := ⟨by kernel_rfl, by kernel_rfl⟩
theorem y8_ty47 : TyIs Try.prog 47 true 3 := ⟨by kernel_rfl, by kernel_rfl⟩
theorem y8_ty9 : TyIs Try.prog 9 false 1 := ⟨by kernel_rfl, by kernel_rfl⟩
theorem tkm {α : Type} (f : α → List AV) (l : List α) (a : Nat) : (l.map f).take a = (l.take a).map f := List.map_take.symm
theorem sn_clo (o s : Swi) : CloOk Try.prog (.clo (.func 87) [] [.ref (swE s)]) [.agg (swE o)] (fun q => q = tbA (o.nam.toList == s.nam.toList)) := ⟨_, _, _, rfl, rfl, rfl, fun _ _ => by kernel_rfl, sameName_ok o s⟩
theorem cl_clo (o s : Swi) (ho : o.acr.length ≤ 1000000) (hs : s.acr.length ≤ 1000000) : CloOk Try.prog (.clo (.func 88) [] [.ref (swE s)]) [.agg (swE o)] (fun q => q = tbA (claB s o)) := ⟨_, _, _, rfl, rfl, rfl, fun _ _ => by kernel_rfl, clash_ok o s ho hs⟩
theorem sn_contains (ss : List Swi) (k : Nat) (s : Swi) (hl : (ss.take k).length ≤ 1000000) : FnOk Try.prog 86 [.row 3 ((ss.map swE).take k), .clo (.func 87) [] [.ref (swE s)]] (fun q => q = tbA ((ss.take k).any (fun o => o.nam.toList == s.nam.toList))) := by
 rw [tkm]
 exact containsS_ok (ss.take k) _ _ rfl hl fun j _ => sn_clo ((ss.take k).getD j default) s
theorem cl_contains (ss : List Swi) (k : Nat) (s : Swi) (hl : (ss.take k).length ≤ 1000000) (ho : ∀ j : Nat, ((ss.take k).getD j default).acr.length ≤ 1000000) (hs : s.acr.length ≤ 1000000) : FnOk Try.prog 86 [.row 3 ((ss.map swE).take k), .clo (.func 88) [] [.ref (swE s)]] (fun q => q = tbA ((ss.take k).any (fun o => claB s o))) := by
 rw [tkm]
 exact containsS_ok (ss.take k) _ (fun o => claB s o) rfl hl fun j _ => cl_clo ((ss.take k).getD j default) s (ho j) hs
def innB (l : Lin) (s : Swi) : Bool := decide (1 ≤ s.fst ∧ s.fst ≤ (l.js.length : Int) - 2 ∧ (s.acr.length : Int) ≤ l.js.length - 1 - s.fst)
theorem inn_eq {l : Lin} {s : Swi} (hj : l.js.length = l.bs.length + 1) (h0 : s.acr.length ≠ 0) : innB l s = withinB s.fst 1 (l.bs.length - s.acr.length) := by
 rw [Bool.eq_iff_iff]
 simp only [innB, withinB, Bool.and_eq_true, decide_eq_true_eq]
 omega
theorem swi_first {l : Lin} {i : Nat} (hj : l.js.length = l.bs.length + 1) : firstE [unlessE (isNameB (l.ss.getD i default).nam) 4, unlessE (!(l.ss.take i).any (fun o => o.nam.toList == (l.ss.getD i default).nam.toList)) 5, unlessE (decide ((0 : Int) < (l.ss.getD i default).acr.length)) 10, unlessE (innB l (l.ss.getD i default)) 6,
 unlessE (!(l.ss.getD i default).acr.any (fun n => !smaB n 20000)) 2, unlessE (!(l.ss.take i).any (fun o => claB (l.ss.getD i default) o)) 13] = swiE l i := by
 unfold swiE
 generalize l.ss.getD i default = s
 generalize (l.ss.take i).any (fun o => o.nam.toList == s.nam.toList) = b1
 generalize (l.ss.take i).any (fun o => claB s o) = b2
 generalize s.acr.any (fun n => !smaB n 20000) = b3
 by_cases h0 : s.acr.length = 0
 ·rw [decide_eq_false (p := (0 : Int) < s.acr.length) (by omega), if_pos h0]
  cases isNameB s.nam <;> cases b1 <;> simp [firstE, unlessE]
 ·rw [decide_eq_true (p := (0 : Int) < s.acr.length) (by omega), if_neg h0, inn_eq hj h0]
  cases isNameB s.nam <;> cases b1 <;> cases withinB s.fst 1 (l.bs.length - s.acr.length) <;> cases b3 <;> cases b2 <;> simp [firstE, unlessE]
set_option maxRecDepth 100000 in
set_option maxHeartbeats 4000000 in
theorem ySwitch_ok (l : Lin) (hl : Sho l) (hj : l.js.length = l.bs.length + 1) (i : Int) (hi : 0 ≤ i ∧ i < l.ss.length) : FnOk Try.prog 82 [lnA l, mA i] (fun q => q = mA (swiE l i.toNat)) := by
 obtain ⟨h1, h2, h3, h4, h5⟩ := id hl
 have hs := hl.at i.toNat
 have hoat : ∀ j : Nat, ((l.ss.take i.toNat).getD j default).acr.length ≤ 1000000 := fun j => by
  by_cases hjl : j < (l.ss.take i.toNat).length
  ·exact (h5 _ (List.mem_of_mem_take (by rw [List.getD_eq_getElem?_getD, List.getElem?_eq_getElem hjl]; exact List.getElem_mem hjl))).2
  ·rw [List.getD_eq_getElem?_getD, List.getElem?_eq_none (by omega)]; decide
 have htl : (l.ss.take i.toNat).length ≤ 1000000 := by rw [List.length_take]; omega
 refine fnOk_of (fn := Try.f82) 69 (by kernel_rfl) rfl (by kernel_rfl) (Nat.le_of_ble_eq_true rfl) ?_
 intro e_0 m_0 hA hm_0
 have s0_0 : evA e_0 (.tmp 0) = _ := hA 0 _ rfl
 have s1_0 : evA e_0 (.tmp 1) = _ := hA 1 _ rfl
 have ml_0 : m_0.length = 0 := by rw [hm_0]; rfl
 clear hA hm_0
 refine aw_seq <| at_ <| al_stm (st_box s0_0 rfl ml_0) trivial rfl (fun m_1 hm_1 => ?_)
 have mo0_1 := m_push hm_1 ml_0
 have ml_1 := m_push_l hm_1 ml_0
 have ml_1 : _ = 1 := ml_1
 clear hm_1
 refine ar (ro_assign ev_c) rfl <| ae2 (u2 rfl s1_0) (up_m rfl up_h) ?_; clear s0_0 s1_0; intro e_2 s1_2 s2_2
 refine then_n <| aw_seq <| at_ <| ar (ro_fld_ptr qfl26_3 rfl s2_2) rfl <| ar (ro_eq (ro_ld_ptr y8_ty24 rfl mo0_1 up_h (nle rfl)) (by simp only [pS, Value.cells, Nat.reduceAdd, swE, tkm] <;> rfl)) rfl ?_
 refine ar (ro_move (u2 rfl s1_2)) rfl <| ar (ro_eq (ro_ix y8_sl24 (up_m rfl up_h) up_h (by omega) (by first | (refine idx_map ?_; first | omega | (simp only [lnS]; omega)) | (refine idx_mapI ?_; first | omega | (simp only [lnS]; omega)) | (refine idx_mapN ?_; first | omega | (simp only [lnS]; omega)) | rfl)) (by simp only [pS, Value.cells, Nat.reduceAdd, swE, tkm] <;> rfl)) rfl ?_
 refine ar (ro_eq (ro_ld_ref y8_ty47 rfl up_h (nle rfl)) (by simp only [pS, Value.cells, Nat.reduceAdd, swE, tkm] <;> rfl)) rfl ?_
 refine al_stm (st_alloc qaz47 rfl ml_1) trivial rfl (fun m_3 hm_3 => ?_)
 have mo1_3 := m_push hm_3 ml_1
 simp only [pS, Value.cells, Nat.reduceAdd, swE, tkm] at mo1_3
 have mo0_3 := m_push_o hm_3 mo0_1
 have ml_3 := m_push_l hm_3 ml_1
 have ml_3 : _ = 2 := ml_3
 clear hm_3 mo0_1
 refine al_stm (st_store up_h (up_m rfl up_h) rfl rfl mo1_3 qsz47 rfl (nle rfl)) trivial rfl (fun m_4 hm_4 => ?_)
 have mo1_4 := m_set hm_4 mo1_3
 simp only [pS, Value.cells, Nat.reduceAdd, swE, tkm] at mo1_4
 have mo0_4 := m_set_o hm_4 mo0_3 (by decide)
 have ml_4 := m_set_l hm_4 ml_3
 clear hm_4 mo1_3 mo0_3
 refine ae3 (up_n (u2 rfl (u4 rfl s1_2))) (up_n (u2 rfl (u4 rfl s2_2))) (up_n up_h) ?_; clear s1_2 s2_2; intro e_5 s1_5 s2_5 s5_5
 refine then_n <| aw_seq <| at_ <| ar (ro_fld_ptr qfl26_3 rfl s2_5) rfl <| ar (ro_eq (ro_ld_ptr y8_ty24 rfl mo0_4 up_h (nle rfl)) (by simp only [pS, Value.cells, Nat.reduceAdd, swE, tkm] <;> rfl)) rfl ?_
 refine ar (ro_move (u2 rfl s1_5)) rfl <| ar (ro_slh y8_sl24 (up_m rfl up_h) up_h (by omega) (by simp only [lnS] <;> omega)) rfl ?_
 refine ar (ro_assign up_h) rfl <| ae3 (up_m rfl (u4 rfl s2_5)) (up_m rfl (u4 rfl s5_5)) up_h ?_; clear s1_5 s2_5 s5_5; intro e_6 s2_6 s5_6 s6_6
 refine then_n <| aw_seq <| aw_freeze s5_6 mo1_4 (by first | rfl | (apply roL_flat; intro _; rfl)) (fun m_7 e_7 hm_7 he_7 => ?_)
 have mo0_7 := m_set_o hm_7 mo0_4 (by decide)
 have ml_7 := m_set_l hm_7 ml_4
 have s2_7 : evA e_7 (.tmp 2) = _ := (congrArg (fun q => evA q (.tmp 2)) he_7).trans (up_m rfl s2_6)
 have s5_7 : evA e_7 (.tmp 5) = _ := (congrArg (fun q => evA q (.tmp 5)) he_7).trans up_h
 have s6_7 : evA e_7 (.tmp 6) = _ := (congrArg (fun q => evA q (.tmp 6)) he_7).trans (up_m rfl s6_6)
 clear hm_7 he_7
 refine at_ <| ar (ro_move s6_7) rfl <| ar (ro_makeFunc evL_nil (evL_cons (up_m rfl s5_7) evL_nil)) rfl <| ar (ro_call (evL_cons (up_m rfl up_h) (evL_cons up_h evL_nil)) rfl (sn_contains l.ss i.toNat (l.ss.getD i.toNat default) htl) y8_hcf86) rfl <| ar (ro_assign up_h) rfl <| ae4 (u4 rfl s2_7) (u4 rfl s5_7) (u4 rfl s6_7) up_h ?_; clear s2_7 s5_7 s6_7; intro e_8 s2_8 s5_8 s6_8 s7_8
 refine then_n <| aw_seq <| aw_cut (fun e mem => (evA e (.tmp 8) = .v (.bool (innB l (l.ss.getD i.toNat default)))) ∧ (evA e (.tmp 5) = evA e_8 (.tmp 5)) ∧ (evA e (.tmp 6) = evA e_8 (.tmp 6)) ∧ (evA e (.tmp 7) = evA e_8 (.tmp 7)) ∧ m_7 = mem) ?_ ?_
 ·
  refine at_ <| ar (ro_eq (ro_fld_ref qfl47_1 rfl s5_8) (by simp only [pS, Value.cells, Nat.reduceAdd, swE, tkm] <;> rfl)) rfl ?_
  refine ar (ro_eq (ro_ld_ref y8_ty3 rfl up_h (nle rfl)) (by simp only [pS, Value.cells, Nat.reduceAdd, swE, tkm] <;> rfl)) rfl ?_
  refine ar (ro_fld_ptr qfl26_1 rfl (u2 rfl s2_8)) rfl <| ar (ro_eq (ro_ld_ptr y8_ty22 rfl mo0_7 up_h (nle rfl)) (by simp only [pS, Value.cells, Nat.reduceAdd, swE, tkm] <;> rfl)) rfl ?_
  refine ar (ro_eq (ro_len_row up_h rfl y8_sl22.1) (by simp only [lnS] <;> rfl)) rfl ?_
  (refine ar (ro_sub' up_h ev_c ?_) rfl ?_; · (unfold In64; omega))
  refine ar (ro_call (evL_cons (u4 rfl up_h) (evL_cons ev_c (evL_cons up_h evL_nil))) rfl (yWithin_ok _ _ _) qhcf57) rfl <| ar (ro_move up_h) rfl <| al_case up_h (fun hb_10 hq_10 => ?_) (fun hb_10 hq_10 => ?_)
  ·skip
   refine al_ro' (ro_eq (ro_fld_ref qfl47_2 rfl (u8 rfl s5_8)) (by simp only [pS, Value.cells, Nat.reduceAdd, swE, tkm] <;> rfl)) ⟨_, rfl, hb_10⟩ rfl ?_
   refine al_ro' (ro_eq (ro_ld_ref y8_ty40 rfl up_h (nle rfl)) (by simp only [pS, Value.cells, Nat.reduceAdd, swE, tkm] <;> rfl)) ⟨_, rfl, (up_m rfl hb_10)⟩ rfl ?_
   refine al_ro' (ro_eq (ro_len_row up_h rfl y8_sl40.1) (by simp only [lnS] <;> rfl)) ⟨_, rfl, (u2 rfl hb_10)⟩ rfl ?_
   refine al_ro' (ro_fld_ptr qfl26_1 rfl (up_m rfl (u2 rfl (u8 rfl s2_8)))) ⟨_, rfl, (up_m rfl (u2 rfl hb_10))⟩ rfl ?_
   refine al_ro' (ro_eq (ro_ld_ptr y8_ty22 rfl mo0_7 up_h (nle rfl)) (by simp only [pS, Value.cells, Nat.reduceAdd, swE, tkm] <;> rfl)) ⟨_, rfl, (u4 rfl hb_10)⟩ rfl ?_
   refine al_ro' (ro_eq (ro_len_row up_h rfl y8_sl22.1) (by simp only [lnS] <;> rfl)) ⟨_, rfl, (up_m rfl (u4 rfl hb_10))⟩ rfl ?_
   (refine al_ro' (ro_sub' up_h ev_c ?_) ⟨_, rfl, (u2 rfl (u4 rfl hb_10))⟩ rfl ?_; · (unfold In64; omega))
   refine al_ro' (ro_eq (ro_fld_ref qfl47_1 rfl (up_m rfl (u2 rfl (u4 rfl (u8 rfl s5_8))))) (by simp only [pS, Value.cells, Nat.reduceAdd, swE, tkm] <;> rfl)) ⟨_, rfl, (up_m rfl (u2 rfl (u4 rfl hb_10)))⟩ rfl ?_
   refine al_ro' (ro_eq (ro_ld_ref y8_ty3 rfl up_h (nle rfl)) (by simp only [pS, Value.cells, Nat.reduceAdd, swE, tkm] <;> rfl)) ⟨_, rfl, (u8 rfl hb_10)⟩ rfl ?_
   refine al_ro' (ro_sub (u2 rfl up_h) up_h) ⟨_, rfl, (up_m rfl (u8 rfl hb_10))⟩ rfl ?_
   refine al_ro' (ro_leq (up_m rfl (u2 rfl (u4 rfl up_h))) up_h) ⟨_, rfl, (u2 rfl (u8 rfl hb_10))⟩ rfl ?_
   refine ar (ro_pickT (up_m rfl (u2 rfl (u8 rfl hb_10))) up_h) rfl <| ar (ro_assign up_h) rfl <| ae4 (up_m rfl (u4 rfl (u16 rfl s5_8))) (up_m rfl (u4 rfl (u16 rfl s6_8))) (up_m rfl (u4 rfl (u16 rfl s7_8))) up_h ?_; intro e_11 s5_11 s6_11 s7_11 s8_11
   refine then_n ⟨(s8_11).trans (by (refine avb ?_; simp only [innB, withinB, wrap_eq, Bool.and_eq_true, Bool.and_eq_false_imp, decide_eq_true_eq, decide_eq_false_iff_not, Bool.false_eq_true, true_iff, false_iff] at *; (try unfold wrap64 at *); omega)), (s5_11).trans (s5_8).symm, (s6_11).trans (s6_8).symm, (s7_11).trans (s7_8).symm, rfl⟩
  refine al_skip' ⟨_, rfl, .inl hb_10⟩ rfl ?_
  refine al_skip' ⟨_, rfl, .inl (up_m rfl hb_10)⟩ rfl ?_
  refine al_skip' ⟨_, rfl, .inl (u2 rfl hb_10)⟩ rfl ?_
  refine al_skip' ⟨_, rfl, .inl (up_m rfl (u2 rfl hb_10))⟩ rfl ?_
  refine al_skip' ⟨_, rfl, .inl (u4 rfl hb_10)⟩ rfl ?_
  refine al_skip' ⟨_, rfl, .inl (up_m rfl (u4 rfl hb_10))⟩ rfl ?_
  refine al_skip' ⟨_, rfl, .inl (u2 rfl (u4 rfl hb_10))⟩ rfl ?_
  refine al_skip' ⟨_, rfl, .inl (up_m rfl (u2 rfl (u4 rfl hb_10)))⟩ rfl ?_
  refine al_skip' ⟨_, rfl, .inl (u8 rfl hb_10)⟩ rfl ?_
  refine al_skip' ⟨_, rfl, .inl (up_m rfl (u8 rfl hb_10))⟩ rfl ?_
  refine al_skip' ⟨_, rfl, .inl (u2 rfl (u8 rfl hb_10))⟩ rfl ?_
  refine ar (ro_pickF (up_m rfl (u2 rfl (u8 rfl hb_10))) ev_c) rfl <| ar (ro_assign up_h) rfl <| ae4 (up_m rfl (u4 rfl (u16 rfl s5_8))) (up_m rfl (u4 rfl (u16 rfl s6_8))) (up_m rfl (u4 rfl (u16 rfl s7_8))) up_h ?_; intro e_12 s5_12 s6_12 s7_12 s8_12
  refine then_n ⟨(s8_12).trans (by (refine avb ?_; simp only [innB, withinB, wrap_eq, Bool.and_eq_true, Bool.and_eq_false_imp, decide_eq_true_eq, decide_eq_false_iff_not, Bool.false_eq_true, true_iff, false_iff] at *; (try unfold wrap64 at *); omega)), (s5_12).trans (s5_8).symm, (s6_12).trans (s6_8).symm, (s7_12).trans (s7_8).symm, rfl⟩
 ·rintro e_9 _ ⟨s8_9, k5_9, k6_9, k7_9, rfl⟩
  have s5_9 := k5_9.trans s5_8
  have s6_9 := k6_9.trans s6_8
  have s7_9 := k7_9.trans s7_8
  refine aw_seq <| at_ <| ar (ro_move s6_9) rfl <| ar (ro_makeFunc evL_nil (evL_cons (up_m rfl s5_9) evL_nil)) rfl <| ar (ro_call (evL_cons (up_m rfl up_h) (evL_cons up_h evL_nil)) rfl (cl_contains l.ss i.toNat (l.ss.getD i.toNat default) htl hoat hs.2) y8_hcf86) rfl <| ar (ro_assign up_h) rfl <| ae4 (u4 rfl s5_9) (u4 rfl s7_9) (u4 rfl s8_9) up_h ?_; clear s5_9 s6_9 s7_9 s8_9; intro e_13 s5_13 s7_13 s8_13 s9_13
  refine then_n <| aw_seq <| aw_draw 25 (by kernel_rfl) (by kernel_rfl) (by kernel_rfl) (by kernel_rfl) ?_
  refine dr (ro_eq (ro_fld_ref qfl47_0 rfl s5_13) (by simp only [pS, Value.cells, Nat.reduceAdd, swE, tkm] <;> rfl)) rfl ?_
  refine dr (ro_eq (ro_ld_ref y8_ty9 rfl up_h (nle rfl)) (by simp only [pS, Value.cells, Nat.reduceAdd, swE, tkm] <;> rfl)) rfl ?_
  refine dr (ro_call (evL_cons up_h evL_nil) rfl (yIsName_ok _ (by omega)) qhcf76) rfl ?_
  refine dr (ro_call (evL_cons up_h (evL_cons ev_c evL_nil)) rfl (yUnless_ok _ _) qhcf56) rfl <| dr (ro_move (u4 rfl s7_13)) rfl <| dr (ro_not up_h) rfl <| dr (ro_call (evL_cons up_h (evL_cons ev_c evL_nil)) rfl (yUnless_ok _ _) qhcf56) rfl <| dr (ro_eq (ro_fld_ref qfl47_2 rfl (up_m rfl (u2 rfl (u4 rfl s5_13)))) (by simp only [pS, Value.cells, Nat.reduceAdd, swE, tkm] <;> rfl)) rfl ?_
  refine dr (ro_eq (ro_ld_ref y8_ty40 rfl up_h (nle rfl)) (by simp only [pS, Value.cells, Nat.reduceAdd, swE, tkm] <;> rfl)) rfl ?_
  refine dr (ro_eq (ro_len_row up_h rfl y8_sl40.1) (by simp only [lnS] <;> rfl)) rfl ?_
  refine dr (ro_gtr up_h ev_c) rfl <| dr (ro_call (evL_cons up_h (evL_cons ev_c evL_nil)) rfl (yUnless_ok _ _) qhcf56) rfl <| dr (ro_move (u4 rfl (u8 rfl s8_13))) rfl <| dr (ro_call (evL_cons up_h (evL_cons ev_c evL_nil)) rfl (yUnless_ok _ _) qhcf56) rfl <| dr (ro_eq (ro_fld_ref qfl47_2 rfl (u2 rfl (u4 rfl (u8 rfl s5_13)))) (by simp only [pS, Value.cells, Nat.reduceAdd, swE, tkm] <;> rfl)) rfl ?_
  refine dr (ro_eq (ro_ld_ref y8_ty40 rfl up_h (nle rfl)) (by simp only [pS, Value.cells, Nat.reduceAdd, swE, tkm] <;> rfl)) rfl ?_
  refine dr (ro_call (evL_cons up_h (evL_cons ev_f evL_nil)) rfl (containsA_ok _ (by omega)) y8_hcf89) rfl ?_
  refine dr (ro_not up_h) rfl <| dr (ro_call (evL_cons up_h (evL_cons ev_c evL_nil)) rfl (yUnless_ok _ _) qhcf56) rfl <| dr (ro_move (up_m rfl (u2 rfl (u16 rfl s9_13)))) rfl <| dr (ro_not up_h) rfl <| dr (ro_call (evL_cons up_h (evL_cons ev_c evL_nil)) rfl (yUnless_ok _ _) qhcf56) rfl <| dr (ro_lit y8_sl100 (evP_cons (u2 rfl (u16 rfl up_h)) (evP_cons (up_m rfl (u2 rfl (u4 rfl (u8 rfl up_h)))) (evP_cons (u2 rfl (u8 rfl up_h)) (evP_cons (u8 rfl up_h) (evP_cons (up_m rfl (u2 rfl up_h)) (evP_cons up_h evP_nil)))))) rfl rfl rfl rfl) rfl <| dr (ro_call (evL_cons up_h evL_nil) rfl (yFirst_ok [_, _, _, _, _, _] (by simp)) qhcf37) rfl ?_
  refine dr (ro_assign up_h) rfl <| ds_nil <| ae1 up_h ?_; clear s5_13 s7_13 s8_13 s9_13; intro e_14 s4_14
  refine then_n <| aw_ret <| ret1 (.inr rfl) (by kernel_rfl) (resV_tmp s4_14) (.ro _ rfl) ?_
  clear s4_14 mo0_7 ml_7
  (rw [← swi_first hj])
set_option maxRecDepth 100000 in
set_option maxHeartbeats 1000000 in
theorem look3_ok (l : Lin) (hl : Sho l) (hj : l.js.length = l.bs.length + 1) (i : Int) (hi : 0 ≤ i ∧ i < l.ss.length) : FnOk Try.prog 81 [mA i, .ref (lnC l)] (fun q => q = mA (swiE l i.toNat)) := by
 refine fnOk_of (fn := Try.f81) 7 (by kernel_rfl) rfl (by kernel_rfl) (Nat.le_of_ble_eq_true rfl) ?_
 intro e_0 m_0 hA hm_0
 have s0_0 : evA e_0 (.tmp 0) = _ := hA 0 _ rfl
 have s1_0 : evA e_0 (.tmp 1) = _ := hA 1 _ rfl
 have ml_0 : m_0.length = 0 := by rw [hm_0]; rfl
 clear hA hm_0
 refine aw_seq <| at_ <| ar (ro_assign ev_c) rfl <| ae2 (up_m rfl s0_0) (up_m rfl s1_0) ?_; clear s0_0 s1_0; intro e_1 s0_1 s1_1
 refine then_n <| aw_seq <| at_ <| ar (ro_eq (ro_ld_ref y8_ty26 rfl s1_1 (nle rfl)) (by simp only [pS, Value.cells, Nat.reduceAdd] <;> rfl)) rfl ?_
 refine ar (ro_move (up_m rfl s0_1)) rfl <| ar (ro_call (evL_cons (up_m rfl up_h) (evL_cons up_h evL_nil)) rfl (ySwitch_ok l hl hj i hi) y8_hcf82) rfl <| ar (ro_assign up_h) rfl <| ae1 up_h ?_; clear s0_1 s1_1; intro e_2 s3_2
 refine then_n <| aw_ret <| ret1 (.inr rfl) (by kernel_rfl) (resV_tmp s3_2) (.ro _ rfl) ?_
 clear s3_2 ml_0
 rfl
theorem yCheckLine_ok (l : Lin) (hl : Sho l) : FnOk Try.prog 49 [lnA l] (fun q => q = .tuple [.agg [mA (linM l).1.1, mA (linM l).1.2], mA (linM l).2]) :=
 checkLine_sw l hl fun hj i h0 h1 => look3_ok l hl hj i ⟨h0, h1⟩
theorem y9_sl23 : SlIs Try.prog 23 69 2 16 (.agg #[.int .i64 0, .int .i64 0]) := ⟨by kernel_rfl, by kernel_rfl, by kernel_rfl⟩
theorem y9_sl24 : SlIs Try.prog 24 47 3 48 (.agg #[.string ByteArray.empty, .int .i64 0, .slice none 0 0]) := ⟨by kernel_rfl, by kernel_rfl, by kernel_rfl⟩
theorem y9_sl40 : SlIs Try.prog 40 3 1 8 (.int .i64 0) := ⟨by kernel_rfl, by kernel_rfl, by kernel_rfl⟩
theorem y9_ty23 : TyIs Try.prog 23 false 1 := ⟨by kernel_rfl, by kernel_rfl⟩
theorem y9_ty24 : TyIs Try.prog 24 false 1 := ⟨by kernel_rfl, by kernel_rfl⟩
theorem y9_ty3 : TyIs Try.prog 3 false 1 := ⟨by kernel_rfl, by kernel_rfl⟩
theorem y9_ty40 : TyIs Try.prog 40 false 1 := ⟨by kernel_rfl, by kernel_rfl⟩
theorem y9_ty47 : TyIs Try.prog 47 true 3 := ⟨by kernel_rfl, by kernel_rfl⟩
theorem y9_ty9 : TyIs Try.prog 9 false 1 := ⟨by kernel_rfl, by kernel_rfl⟩
theorem take_getD {α : Type} [Inhabited α] {l : List α} {j k : Nat} (h : j < k) : (l.take k).getD j default = l.getD j default := by simp [List.getD_eq_getElem?_getD, h]
theorem any_take_hit {α : Type} [Inhabited α] {p : α → Bool} {l : List α} {j k : Nat} (hj : j < k) (hk : k ≤ l.length) (h : p (l.getD j default) = true) : (l.take k).any p = true := by
 rw [List.any_eq_true]
 have hl : j < (l.take k).length := by rw [List.length_take]; omega
 refine ⟨(l.take k)[j], List.getElem_mem hl, ?_⟩
 rw [← take_getD (l := l) hj, List.getD_eq_getElem?_getD, List.getElem?_eq_getElem hl] at h
 exact h
theorem any_take_miss {α : Type} [Inhabited α] {p : α → Bool} {l : List α} {k : Nat} (h : ∀ j : Nat, j < k → p (l.getD j default) = false) : (l.take k).any p = false := by
 rw [List.any_eq_false]
 intro x hx
 obtain ⟨j, hj, rfl⟩ := List.getElem_of_mem hx
 have hjk : j < k := by rw [List.length_take] at hj; omega
 have := h j hjk
 rw [← take_getD (l := l) hjk, List.getD_eq_getElem?_getD, List.getElem?_eq_getElem hj] at this
 simpa using this
theorem any_hit {α : Type} [Inhabited α] {p : α → Bool} {l : List α} {j : Nat} (hj : j < l.length) (h : p (l.getD j default) = true) : l.any p = true := by
 have := any_take_hit (k := l.length) hj (Nat.le_refl _) h
 rwa [List.take_length] at this
theorem any_miss {α : Type} [Inhabited α] {p : α → Bool} {l : List α} (h : ∀ j : Nat, j < l.length → p (l.getD j default) = false) : l.any p = false := by
 have := any_take_miss (k := l.length) h
 rwa [List.take_length] at this
set_option maxRecDepth 100000 in
set_option maxHeartbeats 4000000 in
theorem rSwitch_ok (l : Lin) (hl : Sho l) (i : Int) (hi : 0 ≤ i ∧ i < l.ss.length) : FnOk Try.prog 55 [lnA l, mA i] (fun q => q = mA (swiE l i.toNat)) := by
 obtain ⟨h1, h2, h3, h4, h5⟩ := id hl
 have hs := hl.at i.toNat
 refine fnOk_of (fn := Try.f55) 92 (by kernel_rfl) rfl (by kernel_rfl) (Nat.le_of_ble_eq_true rfl) ?_
 intro e_0 m_0 hA hm_0
 have s0_0 : evA e_0 (.tmp 0) = _ := hA 0 _ rfl
 have s1_0 : evA e_0 (.tmp 1) = _ := hA 1 _ rfl
 have ml_0 : m_0.length = 0 := by rw [hm_0]; rfl
 clear hA hm_0
 refine aw_seq <| at_ <| al_stm (st_box s0_0 rfl ml_0) trivial rfl (fun m_1 hm_1 => ?_)
 have mo0_1 := m_push hm_1 ml_0
 have ml_1 := m_push_l hm_1 ml_0
 have ml_1 : _ = 1 := ml_1
 clear hm_1
 refine ar (ro_assign ev_c) rfl <| ae2 (u2 rfl s1_0) (up_m rfl up_h) ?_; clear s0_0 s1_0; intro e_2 s1_2 s2_2
 refine then_n <| aw_seq <| at_ <| ar (ro_fld_ptr qfl26_3 rfl s2_2) rfl <| ar (ro_eq (ro_ld_ptr y9_ty24 rfl mo0_1 up_h (nle rfl)) (by simp only [pS, Value.cells, Nat.reduceAdd, swE] <;> rfl)) rfl ?_
 refine ar (ro_move (u2 rfl s1_2)) rfl <| ar (ro_eq (ro_ix y9_sl24 (up_m rfl up_h) up_h (by omega) (by first | (refine idx_map ?_; first | omega | (simp only [lnS]; omega)) | (refine idx_mapI ?_; first | omega | (simp only [lnS]; omega)) | (refine idx_mapN ?_; first | omega | (simp only [lnS]; omega)) | rfl)) (by simp only [pS, Value.cells, Nat.reduceAdd, swE] <;> rfl)) rfl ?_
 refine ar (ro_eq (ro_ld_ref y9_ty47 rfl up_h (nle rfl)) (by simp only [pS, Value.cells, Nat.reduceAdd, swE] <;> rfl)) rfl ?_
 refine al_stm (st_alloc qaz47 rfl ml_1) trivial rfl (fun m_3 hm_3 => ?_)
 have mo1_3 := m_push hm_3 ml_1
 simp only [pS, Value.cells, Nat.reduceAdd, swE] at mo1_3
 have mo0_3 := m_push_o hm_3 mo0_1
 have ml_3 := m_push_l hm_3 ml_1
 have ml_3 : _ = 2 := ml_3
 clear hm_3 mo0_1
 refine al_stm (st_store up_h (up_m rfl up_h) rfl rfl mo1_3 qsz47 rfl (nle rfl)) trivial rfl (fun m_4 hm_4 => ?_)
 have mo1_4 := m_set hm_4 mo1_3
 simp only [pS, Value.cells, Nat.reduceAdd, swE] at mo1_4
 have mo0_4 := m_set_o hm_4 mo0_3 (by decide)
 have ml_4 := m_set_l hm_4 ml_3
 clear hm_4 mo1_3 mo0_3
 refine ae3 (up_n (u2 rfl (u4 rfl s1_2))) (up_n (u2 rfl (u4 rfl s2_2))) (up_n up_h) ?_; clear s1_2 s2_2; intro e_5 s1_5 s2_5 s5_5
 refine then_n <| aw_seq <| aw_seq <| at_ <| ar (ro_fld_ptr qfl47_0 rfl s5_5) rfl <| ar (ro_eq (ro_ld_ptr y9_ty9 rfl mo1_4 up_h (nle rfl)) (by simp only [pS, Value.cells, Nat.reduceAdd, swE] <;> rfl)) rfl ?_
 refine ar (ro_call (evL_cons up_h evL_nil) rfl (bIsName_ok _ (by omega)) qhcf53) rfl ?_
 refine ar (ro_not up_h) rfl <| ae4 (u4 rfl s1_5) (u4 rfl s2_5) (u4 rfl s5_5) up_h ?_; clear s1_5 s2_5 s5_5; intro e_6 s1_6 s2_6 s5_6 s18_6
 refine then_n <| aw_case s18_6 (fun hq_7 => ?_) (fun hq_7 => ?_)
 ·replace hq_7 := bt' hq_7
  refine aw_seq <| at_ <| ar (ro_assign ev_c) rfl <| ae1 up_h ?_; clear s18_6 s1_6 s2_6 s5_6; intro e_8 s4_8
  refine then_n <| aw_ret <| then_r <| ret1 (.inr rfl) (by kernel_rfl) (resV_tmp s4_8) (.ro _ rfl) ?_
  clear s4_8 mo1_4 mo0_4 ml_4
  (have e : isNameB (l.ss.getD i.toNat default).nam = false := (by assumption); unfold swiE; rw [e]; rfl)
 replace hq_7 := bf' hq_7
 refine aw_skip <| then_n <| aw_seq <| aw_seq <| at_ <| ar (ro_assign ev_c) rfl <| ae4 (up_m rfl s1_6) (up_m rfl s2_6) (up_m rfl s5_6) up_h ?_; clear s18_6 s1_6 s2_6 s5_6; intro e_9 s1_9 s2_9 s5_9 s6_9
 refine then_n <| aw_block <| aw_loop (S := Int) (fun k e mem => (evA e (.tmp 6) = .v (.int .i64 k)) ∧ (evA e (.tmp 1) = evA e_9 (.tmp 1)) ∧ (evA e (.tmp 2) = evA e_9 (.tmp 2)) ∧ (evA e (.tmp 5) = evA e_9 (.tmp 5)) ∧ (mem[1]? = m_4[1]?) ∧ (mem[0]? = m_4[0]?) ∧ (mem.length = 2) ∧ ((0 ≤ k ∧ k ≤ i ∧ ∀ j : Nat, j < k.toNat → ((l.ss.getD j default).nam.toList == (l.ss.getD i.toNat default).nam.toList) = false))) (fun k => (i - k).toNat) _ ⟨s6_9, rfl, rfl, rfl, rfl, rfl, ml_4, ?_⟩ ?_
 ·(exact ⟨by omega, by omega, fun j h => absurd h (by omega)⟩)
 ·rintro k e_10 m_10 ⟨s6_10, k1_10, k2_10, k5_10, mk1_10, mk0_10, ml_10, hinv⟩
  have s1_10 := k1_10.trans s1_9
  have s2_10 := k2_10.trans s2_9
  have s5_10 := k5_10.trans s5_9
  have mo1_10 := mk1_10.trans mo1_4
  have mo0_10 := mk0_10.trans mo0_4
  (obtain ⟨p1, p2, p3⟩ := hinv)
  refine aw_seq <| aw_seq <| at_ <| ar (ro_move s6_10) rfl <| ar (ro_move (up_m rfl s1_10)) rfl <| ar (ro_lss (up_m rfl up_h) up_h) rfl <| ae5 (up_m rfl (u2 rfl s1_10)) (up_m rfl (u2 rfl s2_10)) (up_m rfl (u2 rfl s5_10)) (up_m rfl (u2 rfl s6_10)) up_h ?_; clear s1_10 s2_10 s5_10 s6_10; intro e_11 s1_11 s2_11 s5_11 s6_11 s21_11
  refine then_n <| aw_case s21_11 (fun hq_12 => ?_) (fun hq_12 => ?_)
  ·replace hq_12 := bt hq_12
   refine aw_skip <| then_n <| aw_seq <| aw_block <| aw_seq <| aw_draw 9 (by kernel_rfl) (by kernel_rfl) (by kernel_rfl) (by kernel_rfl) ?_
   refine dr (ro_fld_ptr qfl26_3 rfl s2_11) rfl <| dr (ro_eq (ro_ld_ptr y9_ty24 rfl mo0_10 up_h (nle rfl)) (by simp only [pS, Value.cells, Nat.reduceAdd, swE] <;> rfl)) rfl ?_
   refine dr (ro_move (u2 rfl s6_11)) rfl <| dr (ro_eq (ro_ix y9_sl24 (up_m rfl up_h) up_h (by omega) (by first | (refine idx_map ?_; first | omega | (simp only [lnS]; omega)) | (refine idx_mapI ?_; first | omega | (simp only [lnS]; omega)) | (refine idx_mapN ?_; first | omega | (simp only [lnS]; omega)) | rfl)) (by simp only [pS, Value.cells, Nat.reduceAdd, swE] <;> rfl)) rfl ?_
   refine dr (ro_eq (ro_fld_ref qfl47_0 rfl up_h) (by simp only [pS, Value.cells, Nat.reduceAdd, swE] <;> rfl)) rfl ?_
   refine dr (ro_eq (ro_ld_ref y9_ty9 rfl up_h (nle rfl)) (by simp only [pS, Value.cells, Nat.reduceAdd, swE] <;> rfl)) rfl ?_
   refine dr (ro_fld_ptr qfl47_0 rfl (u2 rfl (u4 rfl s5_11))) rfl <| dr (ro_eq (ro_ld_ptr y9_ty9 rfl mo1_10 up_h (nle rfl)) (by simp only [pS, Value.cells, Nat.reduceAdd, swE] <;> rfl)) rfl ?_
   refine dr (ro_seql (u2 rfl up_h) up_h) rfl <| ds_nil <| ae5 (up_m rfl (u8 rfl s1_11)) (up_m rfl (u8 rfl s2_11)) (up_m rfl (u8 rfl s5_11)) (up_m rfl (u8 rfl s6_11)) up_h ?_; clear s1_11 s21_11 s2_11 s5_11 s6_11; intro e_13 s1_13 s2_13 s5_13 s6_13 s32_13
   refine then_n <| aw_case s32_13 (fun hq_14 => ?_) (fun hq_14 => ?_)
   ·skip
    refine aw_seq <| at_ <| ar (ro_assign ev_c) rfl <| ae1 up_h ?_; clear s1_13 s2_13 s32_13 s5_13 s6_13; intro e_15 s4_15
    refine then_n <| aw_ret <| block_r <| then_r <| then_r <| block_r <| then_r <| ret1 (.inr rfl) (by kernel_rfl) (resV_tmp s4_15) (.ro _ rfl) ?_
    clear s4_15 mo1_10 mo0_10 ml_10
    (have e : isNameB (l.ss.getD i.toNat default).nam = true := (by assumption); have e2 := any_take_hit (l := l.ss) (k := i.toNat) (p := fun o => o.nam.toList == (l.ss.getD i.toNat default).nam.toList) (j := k.toNat) (by omega) (by omega) (by assumption); unfold swiE; rw [e, e2]; rfl)
   refine aw_skip <| block_n <| then_n <| at_ <| ar (ro_move s6_13) rfl ?_
   (refine ar (ro_add' up_h ev_c ?_) rfl ?_; · (unfold In64; omega))
   refine ar (ro_assign up_h) rfl <| ae4 (up_m rfl (u2 rfl s1_13)) (up_m rfl (u2 rfl s2_13)) (up_m rfl (u2 rfl s5_13)) up_h ?_; clear s1_13 s2_13 s32_13 s5_13 s6_13; intro e_16 s1_16 s2_16 s5_16 s6_16
   refine then_n <| ⟨_, ⟨s6_16, (s1_16.trans s1_9.symm), (s2_16.trans s2_9.symm), (s5_16.trans s5_9.symm), (mo1_10.trans mo1_4.symm), (mo0_10.trans mo0_4.symm), ml_10, ?_⟩, ?_⟩
   ·(refine ⟨by omega, by omega, fun j hj => ?_⟩; by_cases hji : j < k.toNat; (exact p3 j hji); (rw [show j = k.toNat by omega]; assumption))
   ·((try dsimp only); omega)
  replace hq_12 := bf hq_12
  refine aw_exit <| then_x <| then_x <| block_hit <| then_n <| aw_seq <| aw_seq <| at_ <| ar (ro_fld_ptr qfl47_2 rfl s5_11) rfl <| ar (ro_eq (ro_ld_ptr y9_ty40 rfl mo1_10 up_h (nle rfl)) (by simp only [pS, Value.cells, Nat.reduceAdd, swE] <;> rfl)) rfl ?_
  refine ar (ro_eq (ro_len_row up_h rfl y9_sl40.1) (by simp only [lnS] <;> rfl)) rfl ?_
  refine ar (ro_eql up_h ev_c) rfl ?_
  refine ae4 (u4 rfl s1_11) (u4 rfl s2_11) (u4 rfl s5_11) up_h ?_; clear s1_11 s21_11 s2_11 s5_11 s6_11; intro e_17 s1_17 s2_17 s5_17 s36_17
  refine then_n <| aw_case s36_17 (fun hq_18 => ?_) (fun hq_18 => ?_)
  ·replace hq_18 := bt hq_18
   refine aw_seq <| at_ <| ar (ro_assign ev_c) rfl <| ae1 up_h ?_; clear s1_17 s2_17 s36_17 s5_17; intro e_19 s4_19
   refine then_n <| aw_ret <| then_r <| ret1 (.inr rfl) (by kernel_rfl) (resV_tmp s4_19) (.ro _ rfl) ?_
   clear s4_19 mo1_10 mo0_10 ml_10
   (have e : isNameB (l.ss.getD i.toNat default).nam = true := (by assumption); have e2 := any_take_miss (l := l.ss) (k := i.toNat) (p := fun o => o.nam.toList == (l.ss.getD i.toNat default).nam.toList) (fun j hj => p3 j (by omega)); unfold swiE; rw [e, e2, if_pos (show (l.ss.getD i.toNat default).acr.length = 0 by omega)]; rfl)
  replace hq_18 := bf hq_18
  refine aw_skip <| then_n <| aw_seq <| aw_seq <| at_ <| ar (ro_fld_ptr qfl47_1 rfl s5_17) rfl <| ar (ro_eq (ro_ld_ptr y9_ty3 rfl mo1_10 up_h (nle rfl)) (by simp only [pS, Value.cells, Nat.reduceAdd, swE] <;> rfl)) rfl ?_
  refine ar (ro_fld_ptr qfl26_2 rfl (u2 rfl s2_17)) rfl <| ar (ro_eq (ro_ld_ptr y9_ty23 rfl mo0_10 up_h (nle rfl)) (by simp only [pS, Value.cells, Nat.reduceAdd, swE] <;> rfl)) rfl ?_
  refine ar (ro_eq (ro_len_row up_h rfl y9_sl23.1) (by simp only [lnS] <;> rfl)) rfl ?_
  refine ar (ro_fld_ptr qfl47_2 rfl (up_m rfl (u4 rfl s5_17))) rfl <| ar (ro_eq (ro_ld_ptr y9_ty40 rfl mo1_10 up_h (nle rfl)) (by simp only [pS, Value.cells, Nat.reduceAdd, swE] <;> rfl)) rfl ?_
  refine ar (ro_eq (ro_len_row up_h rfl y9_sl40.1) (by simp only [lnS] <;> rfl)) rfl ?_
  (refine ar (ro_sub' (up_m rfl (u2 rfl up_h)) up_h ?_) rfl ?_; · (unfold In64; omega))
  refine ar (ro_call (evL_cons (up_m rfl (u2 rfl (u4 rfl up_h))) (evL_cons ev_c (evL_cons up_h evL_nil))) rfl (bWithin_ok _ _ _) qhcf16) rfl <| ar (ro_not up_h) rfl <| ae4 (up_m rfl (u2 rfl (u8 rfl s1_17))) (up_m rfl (u2 rfl (u8 rfl s2_17))) (up_m rfl (u2 rfl (u8 rfl s5_17))) up_h ?_; clear s1_17 s2_17 s36_17 s5_17; intro e_20 s1_20 s2_20 s5_20 s47_20
  refine then_n <| aw_case s47_20 (fun hq_21 => ?_) (fun hq_21 => ?_)
  ·replace hq_21 := bt' hq_21
   refine aw_seq <| at_ <| ar (ro_assign ev_c) rfl <| ae1 up_h ?_; clear s1_20 s2_20 s47_20 s5_20; intro e_22 s4_22
   refine then_n <| aw_ret <| then_r <| ret1 (.inr rfl) (by kernel_rfl) (resV_tmp s4_22) (.ro _ rfl) ?_
   clear s4_22 mo1_10 mo0_10 ml_10
   (have e : isNameB (l.ss.getD i.toNat default).nam = true := (by assumption); have e2 := any_take_miss (l := l.ss) (k := i.toNat) (p := fun o => o.nam.toList == (l.ss.getD i.toNat default).nam.toList) (fun j hj => p3 j (by omega)); unfold swiE; rw [e, e2, if_neg (show ¬ (l.ss.getD i.toNat default).acr.length = 0 by omega), ‹withinB _ _ _ = false›]; rfl)
  replace hq_21 := bf' hq_21
  refine aw_skip <| then_n <| aw_seq <| aw_seq <| at_ <| ar (ro_assign ev_c) rfl <| ae4 (up_m rfl s1_20) (up_m rfl s2_20) (up_m rfl s5_20) up_h ?_; clear s1_20 s2_20 s47_20 s5_20; intro e_23 s1_23 s2_23 s5_23 s7_23
  refine then_n <| aw_block <| aw_loop (S := Int) (fun k2 e mem => (evA e (.tmp 7) = .v (.int .i64 k2)) ∧ (evA e (.tmp 1) = evA e_23 (.tmp 1)) ∧ (evA e (.tmp 2) = evA e_23 (.tmp 2)) ∧ (evA e (.tmp 5) = evA e_23 (.tmp 5)) ∧ (mem[1]? = m_10[1]?) ∧ (mem[0]? = m_10[0]?) ∧ (mem.length = 2) ∧ ((0 ≤ k2 ∧ k2 ≤ (l.ss.getD i.toNat default).acr.length ∧ ∀ j : Nat, j < k2.toNat → (!smaB ((l.ss.getD i.toNat default).acr.getD j default) 20000) = false))) (fun k2 => ((l.ss.getD i.toNat default).acr.length - k2).toNat) _ ⟨s7_23, rfl, rfl, rfl, rfl, rfl, ml_10, ?_⟩ ?_
  ·(exact ⟨by omega, by omega, fun j h => absurd h (by omega)⟩)
  ·rintro k2 e_24 m_24 ⟨s7_24, k1_24, k2_24, k5_24, mk1_24, mk0_24, ml_24, hinv⟩
   have s1_24 := k1_24.trans s1_23
   have s2_24 := k2_24.trans s2_23
   have s5_24 := k5_24.trans s5_23
   have mo1_24 := mk1_24.trans mo1_10
   have mo0_24 := mk0_24.trans mo0_10
   (obtain ⟨q1, q2, q3⟩ := hinv)
   refine aw_seq <| aw_seq <| at_ <| ar (ro_move s7_24) rfl <| ar (ro_fld_ptr qfl47_2 rfl (up_m rfl s5_24)) rfl <| ar (ro_eq (ro_ld_ptr y9_ty40 rfl mo1_24 up_h (nle rfl)) (by simp only [pS, Value.cells, Nat.reduceAdd, swE] <;> rfl)) rfl ?_
   refine ar (ro_eq (ro_len_row up_h rfl y9_sl40.1) (by simp only [lnS] <;> rfl)) rfl ?_
   refine ar (ro_lss (up_m rfl (u2 rfl up_h)) up_h) rfl <| ae5 (up_m rfl (u4 rfl s1_24)) (up_m rfl (u4 rfl s2_24)) (up_m rfl (u4 rfl s5_24)) (up_m rfl (u4 rfl s7_24)) up_h ?_; clear s1_24 s2_24 s5_24 s7_24; intro e_25 s1_25 s2_25 s5_25 s7_25 s52_25
   refine then_n <| aw_case s52_25 (fun hq_26 => ?_) (fun hq_26 => ?_)
   ·replace hq_26 := bt hq_26
    refine aw_skip <| then_n <| aw_seq <| aw_block <| aw_seq <| at_ <| ar (ro_fld_ptr qfl47_2 rfl s5_25) rfl <| ar (ro_eq (ro_ld_ptr y9_ty40 rfl mo1_24 up_h (nle rfl)) (by simp only [pS, Value.cells, Nat.reduceAdd, swE] <;> rfl)) rfl ?_
    refine ar (ro_move (u2 rfl s7_25)) rfl <| ar (ro_eq (ro_ix y9_sl40 (up_m rfl up_h) up_h (by omega) (by first | (refine idx_map ?_; first | omega | (simp only [lnS]; omega)) | (refine idx_mapI ?_; first | omega | (simp only [lnS]; omega)) | (refine idx_mapN ?_; first | omega | (simp only [lnS]; omega)) | rfl)) (by simp only [pS, Value.cells, Nat.reduceAdd, swE] <;> rfl)) rfl ?_
    refine ar (ro_eq (ro_ld_ref y9_ty3 rfl up_h (nle rfl)) (by simp only [pS, Value.cells, Nat.reduceAdd, swE] <;> rfl)) rfl ?_
    refine ar (ro_call (evL_cons up_h (evL_cons ev_c evL_nil)) rfl (size_ok _ _ (by decide)) qhcf54) rfl ?_
    refine ar (ro_not up_h) rfl <| ae5 (up_m rfl (u2 rfl (u4 rfl s1_25))) (up_m rfl (u2 rfl (u4 rfl s2_25))) (up_m rfl (u2 rfl (u4 rfl s5_25))) (up_m rfl (u2 rfl (u4 rfl s7_25))) up_h ?_; clear s1_25 s2_25 s52_25 s5_25 s7_25; intro e_27 s1_27 s2_27 s5_27 s7_27 s61_27
    refine then_n <| aw_case s61_27 (fun hq_28 => ?_) (fun hq_28 => ?_)
    ·replace hq_28 := bt' hq_28
     refine aw_seq <| at_ <| ar (ro_assign ev_c) rfl <| ae1 up_h ?_; clear s1_27 s2_27 s5_27 s61_27 s7_27; intro e_29 s4_29
     refine then_n <| aw_ret <| block_r <| then_r <| then_r <| block_r <| then_r <| ret1 (.inr rfl) (by kernel_rfl) (resV_tmp s4_29) (.ro _ rfl) ?_
     clear s4_29 mo1_24 mo0_24 ml_24
     (have e : isNameB (l.ss.getD i.toNat default).nam = true := (by assumption); have e2 := any_take_miss (l := l.ss) (k := i.toNat) (p := fun o => o.nam.toList == (l.ss.getD i.toNat default).nam.toList) (fun j hj => p3 j (by omega)); have e4 := any_hit (p := fun n => !smaB n 20000) (l := (l.ss.getD i.toNat default).acr) (j := k2.toNat) (by omega) (by rw [‹smaB _ _ = false›]; rfl); unfold swiE; rw [e, e2, if_neg (show ¬ (l.ss.getD i.toNat default).acr.length = 0 by omega), ‹withinB _ _ _ = true›, e4]; rfl)
    replace hq_28 := bf' hq_28
    refine aw_skip <| block_n <| then_n <| at_ <| ar (ro_move s7_27) rfl ?_
    (refine ar (ro_add' up_h ev_c ?_) rfl ?_; · (unfold In64; omega))
    refine ar (ro_assign up_h) rfl <| ae4 (up_m rfl (u2 rfl s1_27)) (up_m rfl (u2 rfl s2_27)) (up_m rfl (u2 rfl s5_27)) up_h ?_; clear s1_27 s2_27 s5_27 s61_27 s7_27; intro e_30 s1_30 s2_30 s5_30 s7_30
    refine then_n <| ⟨_, ⟨s7_30, (s1_30.trans s1_23.symm), (s2_30.trans s2_23.symm), (s5_30.trans s5_23.symm), (mo1_24.trans mo1_10.symm), (mo0_24.trans mo0_10.symm), ml_24, ?_⟩, ?_⟩
    ·(refine ⟨by omega, by omega, fun j hj => ?_⟩; by_cases hji : j < k2.toNat; (exact q3 j hji); (rw [show j = k2.toNat by omega, ‹smaB _ _ = true›]; rfl))
    ·((try dsimp only); omega)
   replace hq_26 := bf hq_26
   refine aw_exit <| then_x <| then_x <| block_hit <| then_n <| aw_seq <| aw_seq <| at_ <| ar (ro_assign ev_c) rfl <| ae4 (up_m rfl s1_25) (up_m rfl s2_25) (up_m rfl s5_25) up_h ?_; clear s1_25 s2_25 s52_25 s5_25 s7_25; intro e_31 s1_31 s2_31 s5_31 s8_31
   refine then_n <| aw_block <| aw_loop (S := Int) (fun k3 e mem => (evA e (.tmp 8) = .v (.int .i64 k3)) ∧ (evA e (.tmp 1) = evA e_31 (.tmp 1)) ∧ (evA e (.tmp 2) = evA e_31 (.tmp 2)) ∧ (evA e (.tmp 5) = evA e_31 (.tmp 5)) ∧ (mem[1]? = m_24[1]?) ∧ (mem[0]? = m_24[0]?) ∧ (∃ n, mem.length = n ∧ 2 ≤ n) ∧ ((0 ≤ k3 ∧ k3 ≤ i ∧ ∀ j : Nat, j < k3.toNat → claB (l.ss.getD i.toNat default) (l.ss.getD j default) = false))) (fun k3 => (i - k3).toNat) _ ⟨s8_31, rfl, rfl, rfl, rfl, rfl, ⟨_, ml_24, Nat.le_refl _⟩, ?_⟩ ?_
   ·(exact ⟨by omega, by omega, fun j h => absurd h (by omega)⟩)
   ·rintro k3 e_32 m_32 ⟨s8_32, k1_32, k2_32, k5_32, mk1_32, mk0_32, ⟨n_32, ml_32, hn_32⟩, hinv⟩
    have s1_32 := k1_32.trans s1_31
    have s2_32 := k2_32.trans s2_31
    have s5_32 := k5_32.trans s5_31
    have mo1_32 := mk1_32.trans mo1_24
    have mo0_32 := mk0_32.trans mo0_24
    (obtain ⟨r1, r2, r3⟩ := hinv; have hso := hl.at k3.toNat)
    refine aw_seq <| aw_seq <| at_ <| ar (ro_move s8_32) rfl <| ar (ro_move (up_m rfl s1_32)) rfl <| ar (ro_lss (up_m rfl up_h) up_h) rfl <| ae5 (up_m rfl (u2 rfl s1_32)) (up_m rfl (u2 rfl s2_32)) (up_m rfl (u2 rfl s5_32)) (up_m rfl (u2 rfl s8_32)) up_h ?_; clear s1_32 s2_32 s5_32 s8_32; intro e_33 s1_33 s2_33 s5_33 s8_33 s64_33
    refine then_n <| aw_case s64_33 (fun hq_34 => ?_) (fun hq_34 => ?_)
    ·replace hq_34 := bt hq_34
     refine aw_skip <| then_n <| aw_seq <| aw_block <| aw_seq <| at_ <| ar (ro_fld_ptr qfl26_3 rfl s2_33) rfl <| ar (ro_eq (ro_ld_ptr y9_ty24 rfl mo0_32 up_h (nle rfl)) (by simp only [pS, Value.cells, Nat.reduceAdd, swE] <;> rfl)) rfl ?_
     refine ar (ro_move (u2 rfl s8_33)) rfl <| ar (ro_eq (ro_ix y9_sl24 (up_m rfl up_h) up_h (by omega) (by first | (refine idx_map ?_; first | omega | (simp only [lnS]; omega)) | (refine idx_mapI ?_; first | omega | (simp only [lnS]; omega)) | (refine idx_mapN ?_; first | omega | (simp only [lnS]; omega)) | rfl)) (by simp only [pS, Value.cells, Nat.reduceAdd, swE] <;> rfl)) rfl ?_
     refine ar (ro_eq (ro_ld_ref y9_ty47 rfl up_h (nle rfl)) (by simp only [pS, Value.cells, Nat.reduceAdd, swE] <;> rfl)) rfl ?_
     refine al_stm (st_alloc qaz47 rfl ml_32) trivial rfl (fun m_35 hm_35 => ?_)
     have mon_32_35 := m_push hm_35 ml_32
     simp only [pS, Value.cells, Nat.reduceAdd, swE] at mon_32_35
     have mo1_35 := m_push_o hm_35 mo1_32
     have mo0_35 := m_push_o hm_35 mo0_32
     have ml_35 := m_push_l hm_35 ml_32
     clear hm_35 mo1_32 mo0_32
     refine al_stm (st_store up_h (up_m rfl up_h) rfl rfl mon_32_35 qsz47 rfl (nle rfl)) trivial rfl (fun m_36 hm_36 => ?_)
     have mon_32_36 := m_set hm_36 mon_32_35
     simp only [pS, Value.cells, Nat.reduceAdd, swE] at mon_32_36
     have mo1_36 := m_set_o hm_36 mo1_35 (by omega)
     have mo0_36 := m_set_o hm_36 mo0_35 (by omega)
     have ml_36 := m_set_l hm_36 ml_35
     clear hm_36 mon_32_35 mo1_35 mo0_35
     refine ae5 (up_n (u2 rfl (u4 rfl s1_33))) (up_n (u2 rfl (u4 rfl s2_33))) (up_n (u2 rfl (u4 rfl s5_33))) (up_n (u2 rfl (u4 rfl s8_33))) (up_n up_h) ?_; clear s1_33 s2_33 s5_33 s64_33 s8_33; intro e_37 s1_37 s2_37 s5_37 s8_37 s9_37
     refine then_n <| aw_seq <| aw_cut (fun e mem => (evA e (.tmp 91) = .v (.bool (claB (l.ss.getD i.toNat default) (l.ss.getD k3.toNat default)))) ∧ (evA e (.tmp 1) = evA e_37 (.tmp 1)) ∧ (evA e (.tmp 2) = evA e_37 (.tmp 2)) ∧ (evA e (.tmp 5) = evA e_37 (.tmp 5)) ∧ (evA e (.tmp 8) = evA e_37 (.tmp 8)) ∧ m_36 = mem) ?_ ?_
     ·
      refine at_ <| ar (ro_fld_ptr qfl47_1 rfl s5_37) rfl <| ar (ro_eq (ro_ld_ptr y9_ty3 rfl mo1_36 up_h (nle rfl)) (by simp only [pS, Value.cells, Nat.reduceAdd, swE] <;> rfl)) rfl ?_
      refine ar (ro_fld_ptr qfl47_1 rfl (u2 rfl s9_37)) rfl <| ar (ro_eq (ro_ld_ptr y9_ty3 rfl mon_32_36 up_h (nle rfl)) (by simp only [pS, Value.cells, Nat.reduceAdd, swE] <;> rfl)) rfl ?_
      refine ar (ro_fld_ptr qfl47_2 rfl (u4 rfl s9_37)) rfl <| ar (ro_eq (ro_ld_ptr y9_ty40 rfl mon_32_36 up_h (nle rfl)) (by simp only [pS, Value.cells, Nat.reduceAdd, swE] <;> rfl)) rfl ?_
      refine ar (ro_eq (ro_len_row up_h rfl y9_sl40.1) (by simp only [lnS] <;> rfl)) rfl ?_
      refine ar (ro_add (up_m rfl (u2 rfl up_h)) up_h) rfl <| ar (ro_lss (u2 rfl (u4 rfl up_h)) up_h) rfl <| ar (ro_move up_h) rfl <| al_case up_h (fun hb_39 hq_39 => ?_) (fun hb_39 hq_39 => ?_)
      ·replace hq_39 := bt hq_39
       refine al_ro' (ro_fld_ptr qfl47_1 rfl (u2 rfl (u8 rfl s9_37))) ⟨_, rfl, hb_39⟩ rfl ?_
       refine al_ro' (ro_eq (ro_ld_ptr y9_ty3 rfl mon_32_36 up_h (nle rfl)) (by simp only [pS, Value.cells, Nat.reduceAdd, swE] <;> rfl)) ⟨_, rfl, (up_m rfl hb_39)⟩ rfl ?_
       refine al_ro' (ro_fld_ptr qfl47_1 rfl (u4 rfl (u8 rfl s5_37))) ⟨_, rfl, (u2 rfl hb_39)⟩ rfl ?_
       refine al_ro' (ro_eq (ro_ld_ptr y9_ty3 rfl mo1_36 up_h (nle rfl)) (by simp only [pS, Value.cells, Nat.reduceAdd, swE] <;> rfl)) ⟨_, rfl, (up_m rfl (u2 rfl hb_39))⟩ rfl ?_
       refine al_ro' (ro_fld_ptr qfl47_2 rfl (u2 rfl (u4 rfl (u8 rfl s5_37)))) ⟨_, rfl, (u4 rfl hb_39)⟩ rfl ?_
       refine al_ro' (ro_eq (ro_ld_ptr y9_ty40 rfl mo1_36 up_h (nle rfl)) (by simp only [pS, Value.cells, Nat.reduceAdd, swE] <;> rfl)) ⟨_, rfl, (up_m rfl (u4 rfl hb_39))⟩ rfl ?_
       refine al_ro' (ro_eq (ro_len_row up_h rfl y9_sl40.1) (by simp only [lnS] <;> rfl)) ⟨_, rfl, (u2 rfl (u4 rfl hb_39))⟩ rfl ?_
       refine al_ro' (ro_add (up_m rfl (u2 rfl up_h)) up_h) ⟨_, rfl, (up_m rfl (u2 rfl (u4 rfl hb_39)))⟩ rfl ?_
       refine al_ro' (ro_lss (u2 rfl (u4 rfl up_h)) up_h) ⟨_, rfl, (u8 rfl hb_39)⟩ rfl ?_
       refine ar (ro_pickT (up_m rfl (u8 rfl hb_39)) up_h) rfl <| ae5 (u4 rfl (u16 rfl s1_37)) (u4 rfl (u16 rfl s2_37)) (u4 rfl (u16 rfl s5_37)) (u4 rfl (u16 rfl s8_37)) up_h ?_; intro e_40 s1_40 s2_40 s5_40 s8_40 s91_40
       refine then_n ⟨(s91_40).trans (by (refine avb ?_; simp only [claB, decide_eq_true_eq, Bool.false_eq_true, true_iff, false_iff, ← wrap_eq]; omega)), (s1_40).trans (s1_37).symm, (s2_40).trans (s2_37).symm, (s5_40).trans (s5_37).symm, (s8_40).trans (s8_37).symm, rfl⟩
      replace hq_39 := bf hq_39
      refine al_skip' ⟨_, rfl, .inl hb_39⟩ rfl ?_
      refine al_skip' ⟨_, rfl, .inl (up_m rfl hb_39)⟩ rfl ?_
      refine al_skip' ⟨_, rfl, .inl (u2 rfl hb_39)⟩ rfl ?_
      refine al_skip' ⟨_, rfl, .inl (up_m rfl (u2 rfl hb_39))⟩ rfl ?_
      refine al_skip' ⟨_, rfl, .inl (u4 rfl hb_39)⟩ rfl ?_
      refine al_skip' ⟨_, rfl, .inl (up_m rfl (u4 rfl hb_39))⟩ rfl ?_
      refine al_skip' ⟨_, rfl, .inl (u2 rfl (u4 rfl hb_39))⟩ rfl ?_
      refine al_skip' ⟨_, rfl, .inl (up_m rfl (u2 rfl (u4 rfl hb_39)))⟩ rfl ?_
      refine al_skip' ⟨_, rfl, .inl (u8 rfl hb_39)⟩ rfl ?_
      refine ar (ro_pickF (up_m rfl (u8 rfl hb_39)) ev_c) rfl <| ae5 (u4 rfl (u16 rfl s1_37)) (u4 rfl (u16 rfl s2_37)) (u4 rfl (u16 rfl s5_37)) (u4 rfl (u16 rfl s8_37)) up_h ?_; intro e_41 s1_41 s2_41 s5_41 s8_41 s91_41
      refine then_n ⟨(s91_41).trans (by (refine avb ?_; simp only [claB, decide_eq_true_eq, Bool.false_eq_true, true_iff, false_iff, ← wrap_eq]; omega)), (s1_41).trans (s1_37).symm, (s2_41).trans (s2_37).symm, (s5_41).trans (s5_37).symm, (s8_41).trans (s8_37).symm, rfl⟩
     ·rintro e_38 _ ⟨s91_38, k1_38, k2_38, k5_38, k8_38, rfl⟩
      have s1_38 := k1_38.trans s1_37
      have s2_38 := k2_38.trans s2_37
      have s5_38 := k5_38.trans s5_37
      have s8_38 := k8_38.trans s8_37
      refine aw_case s91_38 (fun hq_42 => ?_) (fun hq_42 => ?_)
      ·replace hq_42 := bt hq_42
       refine aw_seq <| at_ <| ar (ro_assign ev_c) rfl <| ae1 up_h ?_; clear s1_38 s2_38 s5_38 s8_38 s91_38; intro e_43 s4_43
       refine then_n <| aw_ret <| block_r <| then_r <| then_r <| block_r <| then_r <| ret1 (.inr rfl) (by kernel_rfl) (resV_tmp s4_43) (.ro _ rfl) ?_
       clear s4_43 mon_32_36 mo1_36 mo0_36 ml_36
       (have e : isNameB (l.ss.getD i.toNat default).nam = true := (by assumption); have e2 := any_take_miss (l := l.ss) (k := i.toNat) (p := fun o => o.nam.toList == (l.ss.getD i.toNat default).nam.toList) (fun j hj => p3 j (by omega)); have e4 := any_miss (p := fun n => !smaB n 20000) (l := (l.ss.getD i.toNat default).acr) (fun j hj => q3 j (by omega)); have e5 := any_take_hit (l := l.ss) (k := i.toNat) (p := fun o => claB (l.ss.getD i.toNat default) o) (j := k3.toNat) (by omega) (by omega) (by first | assumption | (simp only [claB, decide_eq_true_eq, decide_eq_false_iff_not]; assumption)); unfold swiE; rw [e, e2, if_neg (show ¬ (l.ss.getD i.toNat default).acr.length = 0 by omega), ‹withinB _ _ _ = true›, e4, e5]; rfl)
      replace hq_42 := bf hq_42
      refine aw_skip <| block_n <| then_n <| at_ <| ar (ro_move s8_38) rfl ?_
      (refine ar (ro_add' up_h ev_c ?_) rfl ?_; · (unfold In64; omega))
      refine ar (ro_assign up_h) rfl <| ae4 (up_m rfl (u2 rfl s1_38)) (up_m rfl (u2 rfl s2_38)) (up_m rfl (u2 rfl s5_38)) up_h ?_; clear s1_38 s2_38 s5_38 s8_38 s91_38; intro e_44 s1_44 s2_44 s5_44 s8_44
      refine then_n <| ⟨_, ⟨s8_44, (s1_44.trans s1_31.symm), (s2_44.trans s2_31.symm), (s5_44.trans s5_31.symm), (mo1_36.trans mo1_24.symm), (mo0_36.trans mo0_24.symm), ⟨_, ml_36, by omega⟩, ?_⟩, ?_⟩
      ·(refine ⟨by omega, by omega, fun j hj => ?_⟩; by_cases hji : j < k3.toNat; (exact r3 j hji); (rw [show j = k3.toNat by omega]; first | assumption | (simp only [claB, decide_eq_true_eq, decide_eq_false_iff_not]; assumption)))
      ·((try dsimp only); omega)
    replace hq_34 := bf hq_34
    refine aw_exit <| then_x <| then_x <| block_hit <| then_n <| aw_seq <| at_ <| ar (ro_assign ev_c) rfl <| ae1 up_h ?_; clear s1_33 s2_33 s5_33 s64_33 s8_33; intro e_45 s4_45
    refine then_n <| aw_ret <| ret1 (.inr rfl) (by kernel_rfl) (resV_tmp s4_45) (.ro _ rfl) ?_
    clear s4_45 mo1_32 mo0_32 ml_32
    (have e : isNameB (l.ss.getD i.toNat default).nam = true := (by assumption); have e2 := any_take_miss (l := l.ss) (k := i.toNat) (p := fun o => o.nam.toList == (l.ss.getD i.toNat default).nam.toList) (fun j hj => p3 j (by omega)); have e4 := any_miss (p := fun n => !smaB n 20000) (l := (l.ss.getD i.toNat default).acr) (fun j hj => q3 j (by omega)); have e5 := any_take_miss (l := l.ss) (k := i.toNat) (p := fun o => claB (l.ss.getD i.toNat default) o) (fun j hj => r3 j (by omega)); unfold swiE; rw [e, e2, if_neg (show ¬ (l.ss.getD i.toNat default).acr.length = 0 by omega), ‹withinB _ _ _ = true›, e4, e5]; rfl)
end Go.Proofs.Ytjhcfpdgldpicaa
