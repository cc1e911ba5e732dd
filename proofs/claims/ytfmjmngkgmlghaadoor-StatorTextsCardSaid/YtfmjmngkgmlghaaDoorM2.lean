/- Texts of this claim, one behind the other: lemmas for the statement. -/
import Derived.Test.YtfmjmngkgmlghaaDoorM1
import Derived.Test.YtfmjmngkgmlghaaDoorA17
import Derived.Test.YtfmjmngkgmlghaaDoorT0
import Derived.Test.YtfmjmngkgmlghaaDoorProg
import Derived.Test.YtfmjmngkgmlghaaDoorLib
import Derived.Test.YtfmjmngkgmlghaaDoorBox
import Derived.Deep.QuietTactic
import Derived.BigQuiet
import Derived.KernelRfl
import Derived.Lib.Hide
/- Contracts of chapter 3: orders and samples, the exported functions and the document's. No conditions on a program. -/
namespace Go.Proofs.YtfmjmngkgmlghaaDoor
open Go Go.RowKit Go.Proofs
set_option linter.unusedSimpArgs false
set_option linter.unusedVariables false

theorem getD_mem {α : Type} [Inhabited α] {xs : List α} {j : Nat} (h : j < xs.length) : xs.getD j default ∈ xs := by
  rw [List.getD_eq_getElem?_getD, List.getElem?_eq_getElem h]; exact List.getElem_mem h
end Go.Proofs.YtfmjmngkgmlghaaDoor

/- Contracts of chapter 3: energy, samples of orders, the document's orders. No conditions on a program. -/
namespace Go.Proofs.YtfmjmngkgmlghaaDoor
open Go Go.RowKit Go.Proofs
set_option linter.unusedSimpArgs false
set_option linter.unusedVariables false
theorem h6_hcf42 : ∀ args w, (callFunc 42 args).run Tryd.prog w = .ok (.enter 42 args) w := fun _ _ => by kernel_rfl

set_option maxRecDepth 100000 in
set_option maxHeartbeats 1000000 in
theorem rSize_ok (n m : Int) (hm : -9000000000000000000 ≤ m ∧ m ≤ 9000000000000000000) : FnOk Tryd.prog 33 [nA n, nA m] (fun q => q = oA (smallB n m)) := by
  refine fnOk_of (fn := Tryd.f33) 10 (by kernel_rfl) rfl (by kernel_rfl) (Nat.le_of_ble_eq_true rfl) ?_
  intro e_0 m_0 hA hm_0
  have s0_0 : evA e_0 (.tmp 0) = _ := hA 0 _ rfl
  have s1_0 : evA e_0 (.tmp 1) = _ := hA 1 _ rfl
  have ml_0 : m_0.length = 0 := by rw [hm_0]; rfl
  clear hA hm_0
  refine aw_seq <| at_ <| ar (ro_assign ev_c) rfl <| ae2 (up_m rfl s0_0) (up_m rfl s1_0) ?_; clear s0_0 s1_0; intro e_1 s0_1 s1_1
  refine then_n <| aw_seq <| at_ <| ar (ro_move s0_1) rfl <| ar (ro_move (up_m rfl s1_1)) rfl ?_
  (refine ar (ro_neg' up_h ?_) rfl ?_; · (unfold In64; omega))
  refine ar (ro_move (up_m rfl (u2 rfl s1_1))) rfl <| ar (ro_call (evL_cons (up_m rfl (u2 rfl up_h)) (evL_cons (up_m rfl up_h) (evL_cons up_h evL_nil))) rfl (bWithin_ok _ _ _) h6_hcf42) rfl <| ar (ro_assign up_h) rfl <| ae1 up_h ?_; clear s0_1 s1_1; intro e_2 s4_2
  refine then_n <| aw_ret <| ret1 (.inr rfl) (by kernel_rfl) (resV_tmp s4_2) (.ro _ rfl) ?_
  clear s4_2  ml_0
  rfl
end Go.Proofs.YtfmjmngkgmlghaaDoor

/- Contracts of chapter 3: samples out of orders. No conditions on a program. -/
namespace Go.Proofs.YtfmjmngkgmlghaaDoor
open Go Go.RowKit Go.Proofs
set_option linter.unusedSimpArgs false
set_option linter.unusedVariables false

end Go.Proofs.YtfmjmngkgmlghaaDoor

/- Contracts of chapter 3: tracks, trains, forces, turned vectors. No conditions on a program. -/
namespace Go.Proofs.YtfmjmngkgmlghaaDoor
open Go Go.RowKit Go.Proofs
set_option linter.unusedSimpArgs false
set_option linter.unusedVariables false
theorem h8_az3 : (Tryd.prog.info? 3).bind (·.zero) = some (.int .i64 0) := by kernel_rfl
theorem h8_az96 : (Tryd.prog.info? 96).bind (·.zero) = some (.agg #[.slice none 0 0, .int .i64 0, .int .i64 0]) := by kernel_rfl
theorem h8_bz96 : (Tryd.prog.info? 96).bind (·.zero) = some (.agg #[.slice none 0 0, .int .i64 0, .int .i64 0]) := by kernel_rfl
theorem h8_bu96 : Tryd.prog.underlying 96 = some (.struct (fsOf Tryd.prog 96)) := by kernel_rfl
theorem h8_bp96 : ∀ w, ((fsOf Tryd.prog 96).mapM fun f => Prod.mk f.offset <$> sizeOf f.type : Sem (Array (Nat × Nat))).run Tryd.prog w = .ok (#[(0, 1), (1, 2)]) w := fun _ => by kernel_rfl
theorem h8_fl52_0 : FldIs Tryd.prog 52 0 0 false 1 := by unfold FldIs; kernel_rfl
theorem h8_fl54_0 : FldIs Tryd.prog 54 0 0 false 1 := by unfold FldIs; kernel_rfl
theorem h8_fl54_1 : FldIs Tryd.prog 54 1 1 false 1 := by unfold FldIs; kernel_rfl
theorem h8_fl57_0 : FldIs Tryd.prog 57 0 0 false 1 := by unfold FldIs; kernel_rfl
theorem h8_fl57_1 : FldIs Tryd.prog 57 1 1 true 2 := by unfold FldIs; kernel_rfl
theorem h8_fl96_0 : FldIs Tryd.prog 96 0 0 true 1 := by unfold FldIs; kernel_rfl
theorem h8_fl96_1 : FldIs Tryd.prog 96 1 1 true 2 := by unfold FldIs; kernel_rfl
theorem h8_hcf113 : ∀ args w, (callFunc 113 args).run Tryd.prog w = .ok (.enter 113 args) w := fun _ _ => by kernel_rfl
theorem h8_hcf114 : ∀ args w, (callFunc 114 args).run Tryd.prog w = .ok (.enter 114 args) w := fun _ _ => by kernel_rfl
theorem h8_hcf44 : ∀ args w, (callFunc 44 args).run Tryd.prog w = .ok (.enter 44 args) w := fun _ _ => by kernel_rfl
theorem h8_hcf45 : ∀ args w, (callFunc 45 args).run Tryd.prog w = .ok (.enter 45 args) w := fun _ _ => by kernel_rfl
theorem h8_hcf46 : ∀ args w, (callFunc 46 args).run Tryd.prog w = .ok (.enter 46 args) w := fun _ _ => by kernel_rfl
theorem h8_hcf74 : ∀ args w, (callFunc 74 args).run Tryd.prog w = .ok (.enter 74 args) w := fun _ _ => by kernel_rfl
theorem h8_hcf75 : ∀ args w, (callFunc 75 args).run Tryd.prog w = .ok (.enter 75 args) w := fun _ _ => by kernel_rfl
theorem h8_hcf76 : ∀ args w, (callFunc 76 args).run Tryd.prog w = .ok (.enter 76 args) w := fun _ _ => by kernel_rfl
theorem h8_hcf93 : ∀ args w, (callFunc 93 args).run Tryd.prog w = .ok (.enter 93 args) w := fun _ _ => by kernel_rfl
theorem h8_hcf94 : ∀ args w, (callFunc 94 args).run Tryd.prog w = .ok (.enter 94 args) w := fun _ _ => by kernel_rfl
theorem h8_hcf95 : ∀ args w, (callFunc 95 args).run Tryd.prog w = .ok (.enter 95 args) w := fun _ _ => by kernel_rfl
theorem h8_sl109 : SlIs Tryd.prog 109 26 1 8 (.int .i64 0) := ⟨by kernel_rfl, by kernel_rfl, by kernel_rfl⟩
theorem h8_sl50 : SlIs Tryd.prog 50 3 1 8 (.int .i64 0) := ⟨by kernel_rfl, by kernel_rfl, by kernel_rfl⟩
theorem h8_sl55 : SlIs Tryd.prog 55 23 2 16 (.agg #[.int .i64 0, .int .i64 0]) := ⟨by kernel_rfl, by kernel_rfl, by kernel_rfl⟩
theorem h8_sz3 : (Tryd.prog.info? 3).map (·.size) = some 1 := by kernel_rfl
theorem h8_sz96 : (Tryd.prog.info? 96).map (·.size) = some 3 := by kernel_rfl
theorem h8_ty23 : TyIs Tryd.prog 23 true 2 := ⟨by kernel_rfl, by kernel_rfl⟩
theorem h8_ty3 : TyIs Tryd.prog 3 false 1 := ⟨by kernel_rfl, by kernel_rfl⟩
theorem h8_ty50 : TyIs Tryd.prog 50 false 1 := ⟨by kernel_rfl, by kernel_rfl⟩
theorem h8_ty52 : TyIs Tryd.prog 52 true 1 := ⟨by kernel_rfl, by kernel_rfl⟩
theorem h8_ty54 : TyIs Tryd.prog 54 true 2 := ⟨by kernel_rfl, by kernel_rfl⟩
theorem h8_ty55 : TyIs Tryd.prog 55 false 1 := ⟨by kernel_rfl, by kernel_rfl⟩
theorem h8_ty57 : TyIs Tryd.prog 57 true 4 := ⟨by kernel_rfl, by kernel_rfl⟩
theorem h8_ty96 : TyIs Tryd.prog 96 true 3 := ⟨by kernel_rfl, by kernel_rfl⟩

def turE (v : V2) (z : Int) : Int := firstE [rightE [v], unlessE (smallB z 1000000) 2]
def turR (v : V2) (z : Int) : V2 := if turE v z = 0 then turnV v z else (0, 0)
theorem firstE_zero2 {a b : Int} (h : firstE [a, b] = 0) : a = 0 ∧ b = 0 := by
  by_cases ha : a = 0
  · by_cases hb : b = 0
    · exact ⟨ha, hb⟩
    · simp [firstE, ha, hb] at h
  · simp [firstE, ha] at h
theorem bd_of_right1 {v : V2} (h : rightE [v] = 0) : Bd 100000 v := right_bd h v (by simp)
set_option maxRecDepth 100000 in
set_option maxHeartbeats 4000000 in
theorem sTurned_ok (v : V2) (z : Int) : FnOk Tryd.prog 19 [tA v, nA z] (fun q => q = .tuple [tA (turR v z), nA (turE v z)]) := by
  refine fnOk_of (fn := Tryd.f19) 22 (by kernel_rfl) rfl (by kernel_rfl) (Nat.le_of_ble_eq_true rfl) ?_
  intro e_0 m_0 hA hm_0
  have s0_0 : evA e_0 (.tmp 0) = _ := hA 0 _ rfl
  have s1_0 : evA e_0 (.tmp 1) = _ := hA 1 _ rfl
  have ml_0 : m_0.length = 0 := by rw [hm_0]; rfl
  clear hA hm_0
  refine aw_seq <| at_ <| al_stm (st_box s0_0 rfl ml_0) trivial rfl (fun m_1 hm_1 => ?_)
  have mo0_1 := m_push hm_1 ml_0
  have ml_1 := m_push_l hm_1 ml_0
  have ml_1 : _ = 1 := ml_1
  clear hm_1
  refine al_stm (st_alloc qaz23 rfl ml_1) trivial rfl (fun m_2 hm_2 => ?_)
  have mo1_2 := m_push hm_2 ml_1
  simp only [pS, Value.cells, Nat.reduceAdd] at mo1_2
  have mo0_2 := m_push_o hm_2 mo0_1
  have ml_2 := m_push_l hm_2 ml_1
  have ml_2 : _ = 2 := ml_2
  clear hm_2 mo0_1
  refine ar (ro_assign ev_c) rfl <| ae3 (up_m rfl (u2 rfl s1_0)) (u2 rfl up_h) (up_m rfl up_h) ?_; clear s0_0 s1_0; intro e_3 s1_3 s2_3 s4_3
  refine then_n <| aw_seq <| aw_seq <| at_ <| ar (ro_eq (ro_ld_ptr h8_ty23 rfl mo0_2 s2_3 (nle rfl)) (by simp only [pS, Value.cells, Nat.reduceAdd] <;> rfl)) rfl ?_
  refine ar (ro_lit h8_sl55 (evP_cons up_h evP_nil) rfl rfl rfl rfl) rfl <| ar (ro_call (evL_cons up_h evL_nil) rfl (right_ok [v] (by simp)) qhcf29) rfl ?_
  refine ar (ro_move (up_m rfl (u2 rfl s1_3))) rfl <| ar (ro_call (evL_cons up_h (evL_cons ev_c evL_nil)) rfl (sSmall_ok _ _ (by decide)) qhcf43) rfl ?_
  refine ar (ro_call (evL_cons up_h (evL_cons ev_c evL_nil)) rfl (sUnless_ok _ _) qhcf28) rfl <| ar (ro_lit h8_sl109 (evP_cons (up_m rfl (u2 rfl up_h)) (evP_cons up_h evP_nil)) rfl rfl rfl rfl) rfl <| ar (ro_call (evL_cons up_h evL_nil) rfl (sFirst_ok [_, _] (by simp)) qhcf27) rfl ?_
  refine ar (ro_assign up_h) rfl <| ae4 (up_m rfl (u8 rfl s1_3)) (up_m rfl (u8 rfl s2_3)) (up_m rfl (u8 rfl s4_3)) up_h ?_; clear s1_3 s2_3 s4_3; intro e_4 s1_4 s2_4 s4_4 s6_4
  refine then_n <| aw_seq <| at_ <| ar (ro_move s6_4) rfl <| ar (ro_neq up_h ev_c) rfl <| ae5 (u2 rfl s1_4) (u2 rfl s2_4) (u2 rfl s4_4) (u2 rfl s6_4) up_h ?_; clear s1_4 s2_4 s4_4 s6_4; intro e_5 s1_5 s2_5 s4_5 s6_5 s16_5
  refine then_n <| aw_case s16_5 (fun hq_6 => ?_) (fun hq_6 => ?_)
  ·replace hq_6 := bnt hq_6
   (have hn : ¬ turE v z = 0 := (by assumption))
   refine aw_seq <| at_ <| ar (ro_build evP_nil qbz23 qbu23 qbp23 rfl) rfl ?_
   refine ar (ro_move (up_m rfl s6_5)) rfl <| al_stm (st_store (u2 rfl s4_5) (up_m rfl up_h) rfl rfl mo1_2 qsz23 rfl (nle rfl)) trivial rfl (fun m_7 hm_7 => ?_)
   have mo1_7 := m_set hm_7 mo1_2
   simp only [pS, Value.cells, Nat.reduceAdd] at mo1_7
   have mo0_7 := m_set_o hm_7 mo0_2 (by decide)
   have ml_7 := m_set_l hm_7 ml_2
   clear hm_7 mo1_2 mo0_2
   refine ar (ro_assign (up_n up_h)) rfl <| ae2 (up_m rfl (up_n (u2 rfl s4_5))) up_h ?_; clear s16_5 s1_5 s2_5 s4_5 s6_5; intro e_8 s4_8 s5_8
   refine then_n <| aw_ret <| then_r <| ret2 (.inr rfl) (by kernel_rfl) (resV_cell s4_8 mo1_7 h8_ty23 (nle rfl) (by simp)) (resV_tmp s5_8) (vw_r (.ro _ rfl)) (.ro _ rfl) ?_
   clear s4_8 s5_8 mo1_7 mo0_7 ml_7
   (rw [turR, if_neg hn]; rfl)
  replace hq_6 := bnf hq_6
  (have hz : turE v z = 0 := (by assumption))
  refine aw_skip <| then_n <| aw_seq <| at_ <| ar (ro_eq (ro_ld_ptr h8_ty23 rfl mo0_2 s2_5 (nle rfl)) (by simp only [pS, Value.cells, Nat.reduceAdd] <;> rfl)) rfl ?_
  refine ar (ro_move (up_m rfl s1_5)) rfl <| ar (ro_call (evL_cons (up_m rfl up_h) (evL_cons up_h evL_nil)) rfl (turned_ok v z ((bd_of_right1 (firstE_zero2 hz).1).mono (by decide))) h8_hcf44) rfl ?_
  refine al_stm (st_store (up_m rfl (u2 rfl s4_5)) up_h rfl rfl mo1_2 qsz23 rfl (nle rfl)) trivial rfl (fun m_9 hm_9 => ?_)
  have mo1_9 := m_set hm_9 mo1_2
  simp only [pS, Value.cells, Nat.reduceAdd] at mo1_9
  have mo0_9 := m_set_o hm_9 mo0_2 (by decide)
  have ml_9 := m_set_l hm_9 ml_2
  clear hm_9 mo1_2 mo0_2
  refine ar (ro_assign ev_c) rfl <| ae2 (up_m rfl (up_n (up_m rfl (u2 rfl s4_5)))) up_h ?_; clear s16_5 s1_5 s2_5 s4_5 s6_5; intro e_10 s4_10 s5_10
  refine then_n <| aw_ret <| ret2 (.inr rfl) (by kernel_rfl) (resV_cell s4_10 mo1_9 h8_ty23 (nle rfl) (by simp)) (resV_tmp s5_10) (vw_r (.ro _ rfl)) (.ro _ rfl) ?_
  clear s4_10 s5_10 mo1_9 mo0_9 ml_9
  (rw [turR, if_pos hz, hz]; rfl)
def lenB (n : Int) : Bool := withinB n 1 1000000
set_option maxRecDepth 100000 in
set_option maxHeartbeats 1000000 in
theorem isLength_ok (n : Int) : FnOk Tryd.prog 94 [nA n] (fun q => q = oA (lenB n)) := by
  refine fnOk_of (fn := Tryd.f94) 5 (by kernel_rfl) rfl (by kernel_rfl) (Nat.le_of_ble_eq_true rfl) ?_
  intro e_0 m_0 hA hm_0
  have s0_0 : evA e_0 (.tmp 0) = _ := hA 0 _ rfl
  have ml_0 : m_0.length = 0 := by rw [hm_0]; rfl
  clear hA hm_0
  refine aw_seq <| at_ <| ar (ro_assign ev_c) rfl <| ae1 (up_m rfl s0_0) ?_; clear s0_0; intro e_1 s0_1
  refine then_n <| aw_seq <| at_ <| ar (ro_move s0_1) rfl <| ar (ro_call (evL_cons up_h (evL_cons ev_c (evL_cons ev_c evL_nil))) rfl (sWithin_ok _ _ _) qhcf73) rfl <| ar (ro_assign up_h) rfl <| ae1 up_h ?_; clear s0_1; intro e_2 s2_2
  refine then_n <| aw_ret <| ret1 (.inr rfl) (by kernel_rfl) (resV_tmp s2_2) (.ro _ rfl) ?_
  clear s2_2  ml_0
  rfl
def badL (n : Int) : Bool := !lenB n
set_option maxRecDepth 100000 in
set_option maxHeartbeats 1000000 in
theorem checkTrack1_ok (n : Int) : FnOk Tryd.prog 114 [nA n] (fun q => q = oA (badL n)) := by
  refine fnOk_of (fn := Tryd.f114) 6 (by kernel_rfl) rfl (by kernel_rfl) (Nat.le_of_ble_eq_true rfl) ?_
  intro e_0 m_0 hA hm_0
  have s0_0 : evA e_0 (.tmp 0) = _ := hA 0 _ rfl
  have ml_0 : m_0.length = 0 := by rw [hm_0]; rfl
  clear hA hm_0
  refine aw_seq <| at_ <| ar (ro_assign ev_c) rfl <| ae1 (up_m rfl s0_0) ?_; clear s0_0; intro e_1 s0_1
  refine then_n <| aw_seq <| at_ <| ar (ro_move s0_1) rfl <| ar (ro_call (evL_cons up_h evL_nil) rfl (isLength_ok _) h8_hcf94) rfl <| ar (ro_not up_h) rfl <| ar (ro_assign up_h) rfl <| ae1 up_h ?_; clear s0_1; intro e_2 s2_2
  refine then_n <| aw_ret <| ret1 (.inr rfl) (by kernel_rfl) (resV_tmp s2_2) (.ro _ rfl) ?_
  clear s2_2  ml_0
  rfl
set_option maxRecDepth 100000 in
set_option maxHeartbeats 4000000 in
theorem indexLengths_ok (l : List Int) (hl : l.length ≤ 1000000000) : FnOk Tryd.prog 113 [.row 1 (l.map iE), .v (.func (.func 114) #[] #[])] (fun q => q = nA (idxB badL l)) := by
  refine fnOk_of (fn := Tryd.f113) 19 (by kernel_rfl) rfl (by kernel_rfl) (Nat.le_of_ble_eq_true rfl) ?_
  intro e_0 m_0 hA hm_0
  have s0_0 : evA e_0 (.tmp 0) = _ := hA 0 _ rfl
  have s1_0 : evA e_0 (.tmp 1) = _ := hA 1 _ rfl
  have ml_0 : m_0.length = 0 := by rw [hm_0]; rfl
  clear hA hm_0
  refine aw_seq <| at_ <| ar (ro_assign ev_c) rfl <| ae2 (up_m rfl s0_0) (up_m rfl s1_0) ?_; clear s0_0 s1_0; intro e_1 s0_1 s1_1
  refine then_n <| aw_seq <| aw_seq <| at_ <| ar (ro_move s0_1) rfl <| ar (ro_eq (ro_len_row up_h rfl h8_sl50.1) (by simp only [lnS] <;> rfl)) rfl ?_
  refine ar (ro_move ev_c) rfl <| ae4 (up_m rfl (u2 rfl s0_1)) (up_m rfl (u2 rfl s1_1)) (up_m rfl up_h) up_h ?_; clear s0_1 s1_1; intro e_2 s0_2 s1_2 s7_2 s8_2
  refine then_n <| aw_block <| aw_loop (S := Int) (fun i e mem => (evA e (.tmp 8) = .v (.int .i64 i)) ∧ (evA e (.tmp 0) = evA e_2 (.tmp 0)) ∧ (evA e (.tmp 1) = evA e_2 (.tmp 1)) ∧ (evA e (.tmp 7) = evA e_2 (.tmp 7)) ∧ (mem.length = 0) ∧ ((0 ≤ i ∧ i ≤ l.length ∧ ∀ j : Nat, j < i.toNat → badL (l.getD j default) = false))) (fun i => (l.length - i).toNat) _ ⟨s8_2, rfl, rfl, rfl, ml_0, ?_⟩ ?_
  · (exact ⟨by omega, by omega, fun j h => absurd h (by omega)⟩)
  · rintro i e_3 m_3 ⟨s8_3, k0_3, k1_3, k7_3, ml_3, hinv⟩
    have s0_3 := k0_3.trans s0_2
    have s1_3 := k1_3.trans s1_2
    have s7_3 := k7_3.trans s7_2
    (obtain ⟨p1, p2, p3⟩ := hinv)
    refine aw_seq <| at_ <| ar (ro_lss s8_3 s7_3) rfl <| ae5 (up_m rfl s0_3) (up_m rfl s1_3) (up_m rfl s7_3) (up_m rfl s8_3) up_h ?_; clear s0_3 s1_3 s7_3 s8_3; intro e_4 s0_4 s1_4 s7_4 s8_4 s9_4
    refine then_n <| aw_seq <| aw_case s9_4 (fun hq_5 => ?_) (fun hq_5 => ?_)
    ·replace hq_5 := bt hq_5
     refine aw_skip <| then_n <| aw_seq <| aw_block <| aw_seq <| at_ <| ar (ro_move s8_4) rfl <| ar (ro_assign up_h) rfl <| ae5 (u2 rfl s0_4) (u2 rfl s1_4) up_h (u2 rfl s7_4) (u2 rfl s8_4) ?_; clear s0_4 s1_4 s7_4 s8_4 s9_4; intro e_6 s0_6 s1_6 s5_6 s7_6 s8_6
     refine then_n <| aw_seq <| at_ <| ar (ro_move s1_6) rfl <| ar (ro_move (up_m rfl s0_6)) rfl <| ar (ro_move (u2 rfl s5_6)) rfl <| ar (ro_eq (ro_ix h8_sl50 (up_m rfl up_h) up_h (by omega) (by first | (refine idx_map ?_; first | omega | (simp only [lnS]; omega)) | (refine idx_mapI ?_; first | omega | (simp only [lnS]; omega)) | (refine idx_mapN ?_; first | omega | (simp only [lnS]; omega)) | rfl)) (by simp only [pS, Value.cells, Nat.reduceAdd] <;> rfl)) rfl ?_
     refine ar (ro_eq (ro_ld_ref h8_ty3 rfl up_h (nle rfl)) (by simp only [pS, Value.cells, Nat.reduceAdd] <;> rfl)) rfl ?_
     refine ar (ro_callf (u4 rfl up_h) (evL_cons up_h evL_nil) rfl (checkTrack1_ok _) h8_hcf114) rfl <| ae6 (u2 rfl (u4 rfl s0_6)) (u2 rfl (u4 rfl s1_6)) (u2 rfl (u4 rfl s5_6)) (u2 rfl (u4 rfl s7_6)) (u2 rfl (u4 rfl s8_6)) up_h ?_; clear s0_6 s1_6 s5_6 s7_6 s8_6; intro e_7 s0_7 s1_7 s5_7 s7_7 s8_7 s16_7
     refine then_n <| aw_case s16_7 (fun hq_8 => ?_) (fun hq_8 => ?_)
     ·replace hq_8 := bt' hq_8
      refine aw_seq <| at_ <| ar (ro_move s5_7) rfl <| ar (ro_assign up_h) rfl <| ae1 up_h ?_; clear s0_7 s16_7 s1_7 s5_7 s7_7 s8_7; intro e_9 s4_9
      refine then_n <| aw_ret <| block_r <| then_r <| then_r <| block_r <| then_r <| ret1 (.inr rfl) (by kernel_rfl) (resV_tmp s4_9) (.ro _ rfl) ?_
      clear s4_9  ml_3
      (rw [idxB_hit (i := i.toNat) (by omega) (by unfold badL; rw [‹lenB _ = false›]; rfl) p3, Int.toNat_of_nonneg p1])
     replace hq_8 := bf' hq_8
     refine aw_skip <| block_n <| then_n <| at_ ?_
     (refine ar (ro_add' s8_7 ev_c ?_) rfl ?_; · (unfold In64; omega))
     refine ar (ro_move up_h) rfl <| ae4 (u2 rfl s0_7) (u2 rfl s1_7) (u2 rfl s7_7) up_h ?_; clear s0_7 s16_7 s1_7 s5_7 s7_7 s8_7; intro e_10 s0_10 s1_10 s7_10 s8_10
     refine then_n <| ⟨_, ⟨s8_10, (s0_10.trans s0_2.symm), (s1_10.trans s1_2.symm), (s7_10.trans s7_2.symm), ml_3, ?_⟩, ?_⟩
     · (refine ⟨by omega, by omega, fun j hj => ?_⟩; by_cases hji : j < i.toNat; (exact p3 j hji); (rw [show j = i.toNat by omega]; unfold badL; rw [‹lenB _ = true›]; rfl))
     · ((try dsimp only); omega)
    replace hq_5 := bf hq_5
    refine aw_exit <| then_x <| then_x <| block_hit <| then_n <| aw_seq <| at_ <| ar (ro_assign ev_c) rfl <| ae1 up_h ?_; clear s0_4 s1_4 s7_4 s8_4 s9_4; intro e_11 s4_11
    refine then_n <| aw_ret <| ret1 (.inr rfl) (by kernel_rfl) (resV_tmp s4_11) (.ro _ rfl) ?_
    clear s4_11  ml_3
    (rw [idxB_miss (fun j hj => p3 j (by omega))])
def trk0 (ls : List Int) : Int := firstE [unlessE (decide ((0 : Int) < ls.length)) 10, unlessE (decide ((ls.length : Int) ≤ 12)) 8]
def trkN (ls : List Int) : Int := if trk0 ls = 0 then max 0 (idxB badL ls) else 0
def trkE (ls : List Int) : Int := if trk0 ls = 0 then unlessE (decide (idxB badL ls < 0)) 2 else trk0 ls
set_option maxRecDepth 100000 in
set_option maxHeartbeats 4000000 in
theorem sCheckTrack_ok (ls : List Int) (hl : ls.length ≤ 1000000000) : FnOk Tryd.prog 93 [.agg [.row 1 (ls.map iE)]] (fun q => q = .tuple [nA (trkN ls), nA (trkE ls)]) := by
  refine fnOk_of (fn := Tryd.f93) 29 (by kernel_rfl) rfl (by kernel_rfl) (Nat.le_of_ble_eq_true rfl) ?_
  intro e_0 m_0 hA hm_0
  have s0_0 : evA e_0 (.tmp 0) = _ := hA 0 _ rfl
  have ml_0 : m_0.length = 0 := by rw [hm_0]; rfl
  clear hA hm_0
  refine aw_seq <| at_ <| al_stm (st_box s0_0 rfl ml_0) trivial rfl (fun m_1 hm_1 => ?_)
  have mo0_1 := m_push hm_1 ml_0
  have ml_1 := m_push_l hm_1 ml_0
  have ml_1 : _ = 1 := ml_1
  clear hm_1
  refine ar (ro_assign ev_c) rfl <| ar (ro_assign ev_c) rfl <| ae1 (u2 rfl up_h) ?_; clear s0_0; intro e_2 s1_2
  refine then_n <| aw_seq <| aw_seq <| aw_draw 13 (by kernel_rfl) (by kernel_rfl) (by kernel_rfl) (by kernel_rfl) ?_
  refine dr (ro_fld_ptr h8_fl52_0 rfl s1_2) rfl <| dr (ro_eq (ro_ld_ptr h8_ty50 rfl mo0_1 up_h (nle rfl)) (by simp only [pS, Value.cells, Nat.reduceAdd] <;> rfl)) rfl ?_
  refine dr (ro_eq (ro_len_row up_h rfl h8_sl50.1) (by simp only [lnS] <;> rfl)) rfl ?_
  refine dr (ro_gtr up_h ev_c) rfl <| dr (ro_call (evL_cons up_h (evL_cons ev_c evL_nil)) rfl (sUnless_ok _ _) qhcf28) rfl <| dr (ro_fld_ptr h8_fl52_0 rfl (up_m rfl (u4 rfl s1_2))) rfl <| dr (ro_eq (ro_ld_ptr h8_ty50 rfl mo0_1 up_h (nle rfl)) (by simp only [pS, Value.cells, Nat.reduceAdd] <;> rfl)) rfl ?_
  refine dr (ro_eq (ro_len_row up_h rfl h8_sl50.1) (by simp only [lnS] <;> rfl)) rfl ?_
  refine dr (ro_leq up_h ev_c) rfl <| dr (ro_call (evL_cons up_h (evL_cons ev_c evL_nil)) rfl (sUnless_ok _ _) qhcf28) rfl <| dr (ro_lit h8_sl109 (evP_cons (up_m rfl (u4 rfl up_h)) (evP_cons up_h evP_nil)) rfl rfl rfl rfl) rfl <| dr (ro_call (evL_cons up_h evL_nil) rfl (sFirst_ok [_, _] (by simp)) qhcf27) rfl ?_
  refine dr (ro_assign up_h) rfl <| ds_nil <| ae2 (up_m rfl (u4 rfl (u8 rfl s1_2))) up_h ?_; clear s1_2; intro e_3 s1_3 s4_3
  refine then_n <| aw_seq <| at_ <| ar (ro_move s4_3) rfl <| ar (ro_neq up_h ev_c) rfl <| ae3 (u2 rfl s1_3) (u2 rfl s4_3) up_h ?_; clear s1_3 s4_3; intro e_4 s1_4 s4_4 s19_4
  refine then_n <| aw_case s19_4 (fun hq_5 => ?_) (fun hq_5 => ?_)
  ·replace hq_5 := bnt hq_5
   (have hn : ¬ trk0 ls = 0 := (by assumption))
   refine aw_seq <| at_ <| ar (ro_move s4_4) rfl <| ar (ro_assign ev_c) rfl <| ar (ro_assign (up_m rfl up_h)) rfl <| ae2 (up_m rfl up_h) up_h ?_; clear s19_4 s1_4 s4_4; intro e_6 s2_6 s3_6
   refine then_n <| aw_ret <| then_r <| ret2 (.inr rfl) (by kernel_rfl) (resV_tmp s2_6) (resV_tmp s3_6) (.ro _ rfl) (.ro _ rfl) ?_
   clear s2_6 s3_6 mo0_1 ml_1
   (rw [trkN, trkE, if_neg hn, if_neg hn]; rfl)
  replace hq_5 := bnf hq_5
  (have hz : trk0 ls = 0 := (by assumption))
  refine aw_skip <| then_n <| aw_seq <| at_ <| ar (ro_fld_ptr h8_fl52_0 rfl s1_4) rfl <| ar (ro_eq (ro_ld_ptr h8_ty50 rfl mo0_1 up_h (nle rfl)) (by simp only [pS, Value.cells, Nat.reduceAdd] <;> rfl)) rfl ?_
  refine ar (ro_call (evL_cons up_h (evL_cons ev_f evL_nil)) rfl (indexLengths_ok ls hl) h8_hcf113) rfl <| ar (ro_assign up_h) rfl <| ae1 up_h ?_; clear s19_4 s1_4 s4_4; intro e_7 s5_7
  refine then_n <| aw_seq <| at_ <| ar (ro_move s5_7) rfl <| ar (ro_max ev_c up_h) rfl <| ar (ro_move (u2 rfl s5_7)) rfl <| ar (ro_lss up_h ev_c) rfl <| ar (ro_call (evL_cons up_h (evL_cons ev_c evL_nil)) rfl (sUnless_ok _ _) qhcf28) rfl <| ar (ro_assign (up_m rfl (u2 rfl up_h))) rfl <| ar (ro_assign (up_m rfl up_h)) rfl <| ae2 (up_m rfl up_h) up_h ?_; clear s5_7; intro e_8 s2_8 s3_8
  refine then_n <| aw_ret <| ret2 (.inr rfl) (by kernel_rfl) (resV_tmp s2_8) (resV_tmp s3_8) (.ro _ rfl) (.ro _ rfl) ?_
  clear s2_8 s3_8 mo0_1 ml_1
  (rw [trkN, trkE, if_pos hz, if_pos hz])
theorem trkE_right {ls : List Int} (h : trkE ls = 0) : 1 ≤ ls.length ∧ ls.length ≤ 12 ∧ ∀ n ∈ ls, 1 ≤ n ∧ n ≤ 1000000 := by
  unfold trkE at h
  by_cases h0 : trk0 ls = 0
  · rw [if_pos h0] at h
    obtain ⟨h1, h2⟩ := firstE_zero2 h0
    rw [unlessE_z (by decide), decide_eq_true_eq] at h h1 h2
    refine ⟨by omega, by omega, fun n hn => ?_⟩
    have h3 : ¬ (0 ≤ idxB badL ls) := by omega
    rw [idxB_any, List.any_eq_true] at h3
    have h4 : badL n = false := by
      cases hq : badL n with
      | false => rfl
      | true => exact absurd ⟨n, hn, hq⟩ h3
    simpa [badL, lenB, withinB] using h4
  · rw [if_neg h0] at h; exact absurd h h0
def sumI (ls : List Int) : Nat → Int
  | 0 => 0
  | n + 1 => sumI ls n + ls.getD n default
theorem getD_len {ls : List Int} (h : ∀ n ∈ ls, 1 ≤ n ∧ n ≤ 1000000) (j : Nat) : 0 ≤ ls.getD j default ∧ ls.getD j default ≤ 1000000 := by
  by_cases hj : j < ls.length
  · have := h _ (getD_mem hj); omega
  · rw [List.getD_eq_getElem?_getD, List.getElem?_eq_none (by omega)]; decide
theorem sumI_bd {ls : List Int} (h : ∀ n ∈ ls, 1 ≤ n ∧ n ≤ 1000000) : ∀ n : Nat, 0 ≤ sumI ls n ∧ sumI ls n ≤ 1000000 * n
  | 0 => by simp [sumI]
  | n + 1 => by
    have h1 := sumI_bd h n
    have h2 := getD_len h n
    simp only [sumI]; omega
abbrev drA (ls : List Int) (p q : Int) : AV := .agg [.row 1 (ls.map iE), nA p, nA q]
set_option maxRecDepth 100000 in
set_option maxHeartbeats 4000000 in
theorem length_ok (ls : List Int) (p q : Int) (h : trkE ls = 0) : FnOk Tryd.prog 95 [drA ls p q] (fun r => r = nA (sumI ls ls.length)) := by
  obtain ⟨h1, h2, h3⟩ := trkE_right h
  refine fnOk_of (fn := Tryd.f95) 19 (by kernel_rfl) rfl (by kernel_rfl) (Nat.le_of_ble_eq_true rfl) ?_
  intro e_0 m_0 hA hm_0
  have s0_0 : evA e_0 (.tmp 0) = _ := hA 0 _ rfl
  have ml_0 : m_0.length = 0 := by rw [hm_0]; rfl
  clear hA hm_0
  refine aw_seq <| at_ <| al_stm (st_box s0_0 rfl ml_0) trivial rfl (fun m_1 hm_1 => ?_)
  have mo0_1 := m_push hm_1 ml_0
  have ml_1 := m_push_l hm_1 ml_0
  have ml_1 : _ = 1 := ml_1
  clear hm_1
  refine ar (ro_assign ev_c) rfl <| ae1 (up_m rfl up_h) ?_; clear s0_0; intro e_2 s1_2
  refine then_n <| aw_seq <| at_ <| ar (ro_assign ev_c) rfl <| ae2 (up_m rfl s1_2) up_h ?_; clear s1_2; intro e_3 s1_3 s3_3
  refine then_n <| aw_seq <| aw_seq <| at_ <| ar (ro_fld_ptr h8_fl96_0 rfl s1_3) rfl <| ar (ro_fld_ptr h8_fl52_0 rfl up_h) rfl <| ar (ro_eq (ro_ld_ptr h8_ty50 rfl mo0_1 up_h (nle rfl)) (by simp only [pS, Value.cells, Nat.reduceAdd] <;> rfl)) rfl ?_
  refine ar (ro_eq (ro_len_row up_h rfl h8_sl50.1) (by simp only [lnS] <;> rfl)) rfl ?_
  refine ar (ro_move ev_c) rfl <| ae4 (up_m rfl (u4 rfl s3_3)) (u2 rfl up_h) (up_m rfl up_h) up_h ?_; clear s1_3 s3_3; intro e_4 s3_4 s8_4 s9_4 s10_4
  refine then_n <| aw_block <| aw_loop (S := (Int × Int)) (fun s e mem => match s with | ⟨i, sm⟩ => (evA e (.tmp 10) = .v (.int .i64 i)) ∧ (evA e (.tmp 3) = .v (.int .i64 sm)) ∧ (evA e (.tmp 8) = evA e_4 (.tmp 8)) ∧ (evA e (.tmp 9) = evA e_4 (.tmp 9)) ∧ (mem[0]? = m_1[0]?) ∧ (mem.length = 1) ∧ ((0 ≤ i ∧ i ≤ ls.length ∧ sm = sumI ls i.toNat))) (fun s => match s with | ⟨i, sm⟩ => (ls.length - i).toNat) ⟨_, _⟩ ⟨s10_4, s3_4, rfl, rfl, rfl, ml_1, ?_⟩ ?_
  · (exact ⟨by omega, by omega, rfl⟩)
  · rintro ⟨i, sm⟩ e_5 m_5 ⟨s10_5, s3_5, k8_5, k9_5, mk0_5, ml_5, hinv⟩
    have s8_5 := k8_5.trans s8_4
    have s9_5 := k9_5.trans s9_4
    have mo0_5 := mk0_5.trans mo0_1
    (obtain ⟨p1, p2, p3⟩ := hinv; have e1 := sumI_bd h3 i.toNat; have e2 := getD_len h3 i.toNat)
    refine aw_seq <| at_ <| ar (ro_lss s10_5 s9_5) rfl <| ae5 (up_m rfl s3_5) (up_m rfl s8_5) (up_m rfl s9_5) (up_m rfl s10_5) up_h ?_; clear s10_5 s3_5 s8_5 s9_5; intro e_6 s3_6 s8_6 s9_6 s10_6 s11_6
    refine then_n <| aw_seq <| aw_case s11_6 (fun hq_7 => ?_) (fun hq_7 => ?_)
    ·replace hq_7 := bt hq_7
     refine aw_skip <| then_n <| aw_seq <| aw_block <| aw_seq <| at_ <| ar (ro_eq (ro_ix h8_sl50 s8_6 s10_6 (by omega) (by first | (refine idx_map ?_; first | omega | (simp only [lnS]; omega)) | (refine idx_mapI ?_; first | omega | (simp only [lnS]; omega)) | (refine idx_mapN ?_; first | omega | (simp only [lnS]; omega)) | rfl)) (by simp only [pS, Value.cells, Nat.reduceAdd] <;> rfl)) rfl ?_
     refine ar (ro_eq (ro_ld_ref h8_ty3 rfl up_h (nle rfl)) (by simp only [pS, Value.cells, Nat.reduceAdd] <;> rfl)) rfl ?_
     refine ar (ro_assign up_h) rfl <| ae5 (up_m rfl (u2 rfl s3_6)) up_h (up_m rfl (u2 rfl s8_6)) (up_m rfl (u2 rfl s9_6)) (up_m rfl (u2 rfl s10_6)) ?_; clear s10_6 s11_6 s3_6 s8_6 s9_6; intro e_8 s3_8 s5_8 s8_8 s9_8 s10_8
     refine then_n <| at_ <| ar (ro_move s3_8) rfl <| ar (ro_move (up_m rfl s5_8)) rfl ?_
     (refine ar (ro_add' (up_m rfl up_h) up_h ?_) rfl ?_; · (unfold In64; omega))
     refine ar (ro_assign up_h) rfl <| ae4 up_h (u4 rfl s8_8) (u4 rfl s9_8) (u4 rfl s10_8) ?_; clear s10_8 s3_8 s5_8 s8_8 s9_8; intro e_9 s3_9 s8_9 s9_9 s10_9
     refine block_n <| then_n <| at_ ?_
     (refine ar (ro_add' s10_9 ev_c ?_) rfl ?_; · (unfold In64; omega))
     refine ar (ro_move up_h) rfl <| ae4 (u2 rfl s3_9) (u2 rfl s8_9) (u2 rfl s9_9) up_h ?_; clear s10_9 s3_9 s8_9 s9_9; intro e_10 s3_10 s8_10 s9_10 s10_10
     refine then_n <| ⟨⟨_, _⟩, ⟨s10_10, s3_10, (s8_10.trans s8_4.symm), (s9_10.trans s9_4.symm), (mo0_5.trans mo0_1.symm), ml_5, ?_⟩, ?_⟩
     · (refine ⟨by omega, by omega, ?_⟩; rw [show (i + 1).toNat = i.toNat + 1 by omega, sumI, p3])
     · ((try dsimp only); omega)
    replace hq_7 := bf hq_7
    refine aw_exit <| then_x <| then_x <| block_hit <| then_n <| aw_seq <| at_ <| ar (ro_move s3_6) rfl <| ar (ro_assign up_h) rfl <| ae1 up_h ?_; clear s10_6 s11_6 s3_6 s8_6 s9_6; intro e_11 s2_11
    refine then_n <| aw_ret <| ret1 (.inr rfl) (by kernel_rfl) (resV_tmp s2_11) (.ro _ rfl) ?_
    clear s2_11 mo0_5 ml_5
    (rw [p3, show i.toNat = ls.length by omega])
def opnE (ls : List Int) (p q : Int) : Int := if trkE ls = 0 then firstE [unlessE (lenB q && decide (0 ≤ p)) 2, unlessE (decide (p ≤ sumI ls ls.length - q)) 23] else trkE ls
set_option maxRecDepth 100000 in
set_option maxHeartbeats 4000000 in
theorem sOpen_ok (ls : List Int) (hl : ls.length ≤ 1000000000) (p q : Int) (hp : -1000000000 ≤ q ∧ q ≤ 1000000000) : FnOk Tryd.prog 74 [.agg [.row 1 (ls.map iE)], .agg [nA p, nA q]] (fun r => r = .tuple [drA ls p q, nA (opnE ls p q)]) := by
  refine fnOk_of (fn := Tryd.f74) 42 (by kernel_rfl) rfl (by kernel_rfl) (Nat.le_of_ble_eq_true rfl) ?_
  intro e_0 m_0 hA hm_0
  have s0_0 : evA e_0 (.tmp 0) = _ := hA 0 _ rfl
  have s1_0 : evA e_0 (.tmp 1) = _ := hA 1 _ rfl
  have ml_0 : m_0.length = 0 := by rw [hm_0]; rfl
  clear hA hm_0
  refine aw_seq <| at_ <| al_stm (st_box s0_0 rfl ml_0) trivial rfl (fun m_1 hm_1 => ?_)
  have mo0_1 := m_push hm_1 ml_0
  have ml_1 := m_push_l hm_1 ml_0
  have ml_1 : _ = 1 := ml_1
  clear hm_1
  refine al_stm (st_box (up_m rfl s1_0) rfl ml_1) trivial rfl (fun m_2 hm_2 => ?_)
  have mo1_2 := m_push hm_2 ml_1
  have mo0_2 := m_push_o hm_2 mo0_1
  have ml_2 := m_push_l hm_2 ml_1
  have ml_2 : _ = 2 := ml_2
  clear hm_2 mo0_1
  refine al_stm (st_alloc h8_az96 rfl ml_2) trivial rfl (fun m_3 hm_3 => ?_)
  have mo2_3 := m_push hm_3 ml_2
  simp only [pS, Value.cells, Nat.reduceAdd] at mo2_3
  have mo1_3 := m_push_o hm_3 mo1_2
  have mo0_3 := m_push_o hm_3 mo0_2
  have ml_3 := m_push_l hm_3 ml_2
  have ml_3 : _ = 3 := ml_3
  clear hm_3 mo1_2 mo0_2
  refine ar (ro_assign ev_c) rfl <| ae3 (up_m rfl (u2 rfl up_h)) (u2 rfl up_h) (up_m rfl up_h) ?_; clear s0_0 s1_0; intro e_4 s2_4 s3_4 s4_4
  refine then_n <| aw_seq <| at_ <| ar (ro_eq (ro_ld_ptr h8_ty52 rfl mo0_3 s2_4 (nle rfl)) (by simp only [pS, Value.cells, Nat.reduceAdd] <;> rfl)) rfl ?_
  refine ar (ro_eq (ro_ld_ptr h8_ty54 rfl mo1_3 (up_m rfl s3_4) (nle rfl)) (by simp only [pS, Value.cells, Nat.reduceAdd] <;> rfl)) rfl ?_
  refine ar (ro_build (evP_cons (up_m rfl up_h) (evP_cons up_h evP_nil)) h8_bz96 h8_bu96 h8_bp96 rfl) rfl ?_
  refine al_stm (st_alloc h8_az96 rfl ml_3) trivial rfl (fun m_5 hm_5 => ?_)
  have mo3_5 := m_push hm_5 ml_3
  simp only [pS, Value.cells, Nat.reduceAdd] at mo3_5
  have mo2_5 := m_push_o hm_5 mo2_3
  have mo1_5 := m_push_o hm_5 mo1_3
  have mo0_5 := m_push_o hm_5 mo0_3
  have ml_5 := m_push_l hm_5 ml_3
  have ml_5 : _ = 4 := ml_5
  clear hm_5 mo2_3 mo1_3 mo0_3
  refine al_stm (st_store up_h (up_m rfl up_h) rfl rfl mo3_5 h8_sz96 rfl (nle rfl)) trivial rfl (fun m_6 hm_6 => ?_)
  have mo3_6 := m_set hm_6 mo3_5
  simp only [pS, Value.cells, Nat.reduceAdd] at mo3_6
  have mo2_6 := m_set_o hm_6 mo2_5 (by decide)
  have mo1_6 := m_set_o hm_6 mo1_5 (by decide)
  have mo0_6 := m_set_o hm_6 mo0_5 (by decide)
  have ml_6 := m_set_l hm_6 ml_5
  clear hm_6 mo3_5 mo2_5 mo1_5 mo0_5
  refine ae4 (up_n (u4 rfl s2_4)) (up_n (u4 rfl s3_4)) (up_n (u4 rfl s4_4)) (up_n up_h) ?_; clear s2_4 s3_4 s4_4; intro e_7 s2_7 s3_7 s4_7 s6_7
  refine then_n <| aw_seq <| aw_seq <| at_ <| ar (ro_eq (ro_ld_ptr h8_ty52 rfl mo0_6 s2_7 (nle rfl)) (by simp only [pS, Value.cells, Nat.reduceAdd] <;> rfl)) rfl ?_
  refine ar (ro_call (evL_cons up_h evL_nil) rfl (sCheckTrack_ok ls hl) h8_hcf93) rfl <| ar (ro_move up_h) rfl <| ar (ro_extract up_h rfl) rfl <| ar (ro_extract (up_m rfl up_h) rfl) rfl <| ar (ro_assign (up_m rfl up_h)) rfl <| ar (ro_assign (up_m rfl up_h)) rfl <| ae4 (up_m rfl (u2 rfl (u4 rfl s3_7))) (up_m rfl (u2 rfl (u4 rfl s4_7))) (up_m rfl (u2 rfl (u4 rfl s6_7))) up_h ?_; clear s2_7 s3_7 s4_7 s6_7; intro e_8 s3_8 s4_8 s6_8 s8_8
  refine then_n <| aw_seq <| at_ <| ar (ro_move s8_8) rfl <| ar (ro_neq up_h ev_c) rfl <| ae5 (u2 rfl s3_8) (u2 rfl s4_8) (u2 rfl s6_8) (u2 rfl s8_8) up_h ?_; clear s3_8 s4_8 s6_8 s8_8; intro e_9 s3_9 s4_9 s6_9 s8_9 s18_9
  refine then_n <| aw_case s18_9 (fun hq_10 => ?_) (fun hq_10 => ?_)
  ·replace hq_10 := bnt hq_10
   (have hn : ¬ trkE ls = 0 := (by assumption))
   refine aw_seq <| at_ <| ar (ro_eq (ro_ld_ptr h8_ty96 rfl mo3_6 s6_9 (nle rfl)) (by simp only [pS, Value.cells, Nat.reduceAdd] <;> rfl)) rfl ?_
   refine ar (ro_move (up_m rfl s8_9)) rfl <| al_stm (st_store (u2 rfl s4_9) (up_m rfl up_h) rfl rfl mo2_6 h8_sz96 rfl (nle rfl)) trivial rfl (fun m_11 hm_11 => ?_)
   have mo2_11 := m_set hm_11 mo2_6
   simp only [pS, Value.cells, Nat.reduceAdd] at mo2_11
   have mo3_11 := m_set_o hm_11 mo3_6 (by decide)
   have mo1_11 := m_set_o hm_11 mo1_6 (by decide)
   have mo0_11 := m_set_o hm_11 mo0_6 (by decide)
   have ml_11 := m_set_l hm_11 ml_6
   clear hm_11 mo3_6 mo2_6 mo1_6 mo0_6
   refine ar (ro_assign (up_n up_h)) rfl <| ae2 (up_m rfl (up_n (u2 rfl s4_9))) up_h ?_; clear s18_9 s3_9 s4_9 s6_9 s8_9; intro e_12 s4_12 s5_12
   refine then_n <| aw_ret <| then_r <| ret2 (.inr rfl) (by kernel_rfl) (resV_cell s4_12 mo2_11 h8_ty96 (nle rfl) (by simp)) (resV_tmp s5_12) (vw_r (.ro _ rfl)) (.ro _ rfl) ?_
   clear s4_12 s5_12 mo2_11 mo3_11 mo1_11 mo0_11 ml_11
   (rw [opnE, if_neg hn]; rfl)
  replace hq_10 := bnf hq_10
  (have hz : trkE ls = 0 := (by assumption); have hr := trkE_right hz; have hsb := sumI_bd hr.2.2 ls.length)
  refine aw_skip <| then_n <| aw_seq <| aw_draw 21 (by kernel_rfl) (by kernel_rfl) (by kernel_rfl) (by kernel_rfl) ?_
  refine dr (ro_eq (ro_ld_ptr h8_ty96 rfl mo3_6 s6_9 (nle rfl)) (by simp only [pS, Value.cells, Nat.reduceAdd] <;> rfl)) rfl ?_
  refine dr (ro_fld_ptr h8_fl54_1 rfl (up_m rfl s3_9)) rfl <| dr (ro_eq (ro_ld_ptr h8_ty3 rfl mo1_6 up_h (nle rfl)) (by simp only [pS, Value.cells, Nat.reduceAdd] <;> rfl)) rfl ?_
  refine dr (ro_call (evL_cons up_h evL_nil) rfl (isLength_ok _) h8_hcf94) rfl <| dr (ro_move up_h) rfl <| ds_case up_h (fun hb_13 hq_13 => ?_) (fun hb_13 hq_13 => ?_)
  ·skip
   refine ds_ro' (ro_fld_ptr h8_fl54_0 rfl (up_m rfl (u4 rfl s3_9))) ⟨_, rfl, hb_13⟩ rfl ?_
   refine ds_ro' (ro_eq (ro_ld_ptr h8_ty3 rfl mo1_6 up_h (nle rfl)) (by simp only [pS, Value.cells, Nat.reduceAdd] <;> rfl)) ⟨_, rfl, (up_m rfl hb_13)⟩ rfl ?_
   refine ds_ro' (ro_geq up_h ev_c) ⟨_, rfl, (u2 rfl hb_13)⟩ rfl ?_
   refine dr (ro_pickT (up_m rfl (u2 rfl hb_13)) up_h) rfl <| dr (ro_call (evL_cons up_h (evL_cons ev_c evL_nil)) rfl (sUnless_ok _ _) qhcf28) rfl <| dr (ro_fld_ptr h8_fl54_0 rfl (u2 rfl (u8 rfl s3_9))) rfl <| dr (ro_eq (ro_ld_ptr h8_ty3 rfl mo1_6 up_h (nle rfl)) (by simp only [pS, Value.cells, Nat.reduceAdd] <;> rfl)) rfl ?_
   refine dr (ro_eq (ro_ld_ptr h8_ty96 rfl mo3_6 (u4 rfl (u8 rfl s6_9)) (nle rfl)) (by simp only [pS, Value.cells, Nat.reduceAdd] <;> rfl)) rfl ?_
   refine dr (ro_call (evL_cons up_h evL_nil) rfl (length_ok ls p q hz) h8_hcf95) rfl <| dr (ro_fld_ptr h8_fl54_1 rfl (u2 rfl (u4 rfl (u8 rfl s3_9)))) rfl <| dr (ro_eq (ro_ld_ptr h8_ty3 rfl mo1_6 up_h (nle rfl)) (by simp only [pS, Value.cells, Nat.reduceAdd] <;> rfl)) rfl ?_
   (refine dr (ro_sub' (u2 rfl up_h) up_h ?_) rfl ?_; · (unfold In64; omega))
   refine dr (ro_leq (up_m rfl (u4 rfl up_h)) up_h) rfl <| dr (ro_call (evL_cons up_h (evL_cons ev_c evL_nil)) rfl (sUnless_ok _ _) qhcf28) rfl <| dr (ro_lit h8_sl109 (evP_cons (up_m rfl (u8 rfl up_h)) (evP_cons up_h evP_nil)) rfl rfl rfl rfl) rfl <| dr (ro_call (evL_cons up_h evL_nil) rfl (sFirst_ok [_, _] (by simp)) qhcf27) rfl ?_
   refine ds_nil <| al_stm (st_store (up_m rfl (u4 rfl (u16 rfl s4_9))) (u4 rfl (u16 rfl up_h)) rfl rfl mo2_6 h8_sz96 rfl (nle rfl)) trivial rfl (fun m_14 hm_14 => ?_)
   have mo2_14 := m_set hm_14 mo2_6
   simp only [pS, Value.cells, Nat.reduceAdd] at mo2_14
   have mo3_14 := m_set_o hm_14 mo3_6 (by decide)
   have mo1_14 := m_set_o hm_14 mo1_6 (by decide)
   have mo0_14 := m_set_o hm_14 mo0_6 (by decide)
   have ml_14 := m_set_l hm_14 ml_6
   clear hm_14 mo3_6 mo2_6 mo1_6 mo0_6
   refine ar (ro_assign (up_n up_h)) rfl <| ae2 (up_m rfl (up_n (up_m rfl (u4 rfl (u16 rfl s4_9))))) up_h ?_; clear hb_13 s18_9 s3_9 s4_9 s6_9 s8_9; intro e_15 s4_15 s5_15
   refine then_n <| aw_ret <| ret2 (.inr rfl) (by kernel_rfl) (resV_cell s4_15 mo2_14 h8_ty96 (nle rfl) (by simp)) (resV_tmp s5_15) (vw_r (.ro _ rfl)) (.ro _ rfl) ?_
   clear s4_15 s5_15 mo2_14 mo3_14 mo1_14 mo0_14 ml_14
   (rw [opnE, if_pos hz]; simp_all)
  refine ds_skip' ⟨_, rfl, .inl hb_13⟩ rfl ?_
  refine ds_skip' ⟨_, rfl, .inl (up_m rfl hb_13)⟩ rfl ?_
  refine ds_skip' ⟨_, rfl, .inl (u2 rfl hb_13)⟩ rfl ?_
  refine dr (ro_pickF (up_m rfl (u2 rfl hb_13)) ev_c) rfl <| dr (ro_call (evL_cons up_h (evL_cons ev_c evL_nil)) rfl (sUnless_ok _ _) qhcf28) rfl <| dr (ro_fld_ptr h8_fl54_0 rfl (u2 rfl (u8 rfl s3_9))) rfl <| dr (ro_eq (ro_ld_ptr h8_ty3 rfl mo1_6 up_h (nle rfl)) (by simp only [pS, Value.cells, Nat.reduceAdd] <;> rfl)) rfl ?_
  refine dr (ro_eq (ro_ld_ptr h8_ty96 rfl mo3_6 (u4 rfl (u8 rfl s6_9)) (nle rfl)) (by simp only [pS, Value.cells, Nat.reduceAdd] <;> rfl)) rfl ?_
  refine dr (ro_call (evL_cons up_h evL_nil) rfl (length_ok ls p q hz) h8_hcf95) rfl <| dr (ro_fld_ptr h8_fl54_1 rfl (u2 rfl (u4 rfl (u8 rfl s3_9)))) rfl <| dr (ro_eq (ro_ld_ptr h8_ty3 rfl mo1_6 up_h (nle rfl)) (by simp only [pS, Value.cells, Nat.reduceAdd] <;> rfl)) rfl ?_
  (refine dr (ro_sub' (u2 rfl up_h) up_h ?_) rfl ?_; · (unfold In64; omega))
  refine dr (ro_leq (up_m rfl (u4 rfl up_h)) up_h) rfl <| dr (ro_call (evL_cons up_h (evL_cons ev_c evL_nil)) rfl (sUnless_ok _ _) qhcf28) rfl <| dr (ro_lit h8_sl109 (evP_cons (up_m rfl (u8 rfl up_h)) (evP_cons up_h evP_nil)) rfl rfl rfl rfl) rfl <| dr (ro_call (evL_cons up_h evL_nil) rfl (sFirst_ok [_, _] (by simp)) qhcf27) rfl ?_
  refine ds_nil <| al_stm (st_store (up_m rfl (u4 rfl (u16 rfl s4_9))) (u4 rfl (u16 rfl up_h)) rfl rfl mo2_6 h8_sz96 rfl (nle rfl)) trivial rfl (fun m_16 hm_16 => ?_)
  have mo2_16 := m_set hm_16 mo2_6
  simp only [pS, Value.cells, Nat.reduceAdd] at mo2_16
  have mo3_16 := m_set_o hm_16 mo3_6 (by decide)
  have mo1_16 := m_set_o hm_16 mo1_6 (by decide)
  have mo0_16 := m_set_o hm_16 mo0_6 (by decide)
  have ml_16 := m_set_l hm_16 ml_6
  clear hm_16 mo3_6 mo2_6 mo1_6 mo0_6
  refine ar (ro_assign (up_n up_h)) rfl <| ae2 (up_m rfl (up_n (up_m rfl (u4 rfl (u16 rfl s4_9))))) up_h ?_; clear hb_13 s18_9 s3_9 s4_9 s6_9 s8_9; intro e_17 s4_17 s5_17
  refine then_n <| aw_ret <| ret2 (.inr rfl) (by kernel_rfl) (resV_cell s4_17 mo2_16 h8_ty96 (nle rfl) (by simp)) (resV_tmp s5_17) (vw_r (.ro _ rfl)) (.ro _ rfl) ?_
  clear s4_17 s5_17 mo2_16 mo3_16 mo1_16 mo0_16 ml_16
  (rw [opnE, if_pos hz]; simp_all)
abbrev feA (cs : List V2) (f : V2) (m : Int) : AV := .agg [.row 2 (cs.map tE), nA f.1, nA f.2, nA m]
def feeE (ls : List Int) (p q : Int) (cs : List V2) (f : V2) : Int := firstE [opnE ls p q, unlessE (decide ((cs.length : Int) = ls.length)) 10, rightE cs, rightE [f]]
set_option maxRecDepth 100000 in
set_option maxHeartbeats 4000000 in
theorem openFeed_ok (ls : List Int) (hl : ls.length ≤ 1000000000) (p q : Int) (hp : -1000000000 ≤ q ∧ q ≤ 1000000000) (cs : List V2) (hc : cs.length ≤ 1000000000) (f : V2) (m : Int) : FnOk Tryd.prog 45 [.agg [.row 1 (ls.map iE)], .agg [nA p, nA q], feA cs f m] (fun r => r = .tuple [drA ls p q, nA (feeE ls p q cs f)]) := by
  refine fnOk_of (fn := Tryd.f45) 35 (by kernel_rfl) rfl (by kernel_rfl) (Nat.le_of_ble_eq_true rfl) ?_
  intro e_0 m_0 hA hm_0
  have s0_0 : evA e_0 (.tmp 0) = _ := hA 0 _ rfl
  have s1_0 : evA e_0 (.tmp 1) = _ := hA 1 _ rfl
  have s2_0 : evA e_0 (.tmp 2) = _ := hA 2 _ rfl
  have ml_0 : m_0.length = 0 := by rw [hm_0]; rfl
  clear hA hm_0
  refine aw_seq <| at_ <| al_stm (st_box s0_0 rfl ml_0) trivial rfl (fun m_1 hm_1 => ?_)
  have mo0_1 := m_push hm_1 ml_0
  have ml_1 := m_push_l hm_1 ml_0
  have ml_1 : _ = 1 := ml_1
  clear hm_1
  refine al_stm (st_box (up_m rfl s1_0) rfl ml_1) trivial rfl (fun m_2 hm_2 => ?_)
  have mo1_2 := m_push hm_2 ml_1
  have mo0_2 := m_push_o hm_2 mo0_1
  have ml_2 := m_push_l hm_2 ml_1
  have ml_2 : _ = 2 := ml_2
  clear hm_2 mo0_1
  refine al_stm (st_box (u2 rfl s2_0) rfl ml_2) trivial rfl (fun m_3 hm_3 => ?_)
  have mo2_3 := m_push hm_3 ml_2
  have mo1_3 := m_push_o hm_3 mo1_2
  have mo0_3 := m_push_o hm_3 mo0_2
  have ml_3 := m_push_l hm_3 ml_2
  have ml_3 : _ = 3 := ml_3
  clear hm_3 mo1_2 mo0_2
  refine al_stm (st_alloc h8_az96 rfl ml_3) trivial rfl (fun m_4 hm_4 => ?_)
  have mo3_4 := m_push hm_4 ml_3
  simp only [pS, Value.cells, Nat.reduceAdd] at mo3_4
  have mo2_4 := m_push_o hm_4 mo2_3
  have mo1_4 := m_push_o hm_4 mo1_3
  have mo0_4 := m_push_o hm_4 mo0_3
  have ml_4 := m_push_l hm_4 ml_3
  have ml_4 : _ = 4 := ml_4
  clear hm_4 mo2_3 mo1_3 mo0_3
  refine ar (ro_assign ev_c) rfl <| ae4 (u4 rfl up_h) (up_m rfl (u2 rfl up_h)) (u2 rfl up_h) (up_m rfl up_h) ?_; clear s0_0 s1_0 s2_0; intro e_5 s3_5 s4_5 s5_5 s6_5
  refine then_n <| aw_seq <| at_ <| ar (ro_eq (ro_ld_ptr h8_ty52 rfl mo0_4 s3_5 (nle rfl)) (by simp only [pS, Value.cells, Nat.reduceAdd] <;> rfl)) rfl ?_
  refine ar (ro_eq (ro_ld_ptr h8_ty54 rfl mo1_4 (up_m rfl s4_5) (nle rfl)) (by simp only [pS, Value.cells, Nat.reduceAdd] <;> rfl)) rfl ?_
  refine ar (ro_call (evL_cons (up_m rfl up_h) (evL_cons up_h evL_nil)) rfl (sOpen_ok ls hl p q hp) h8_hcf74) rfl <| ar (ro_move up_h) rfl <| ar (ro_extract up_h rfl) rfl <| ar (ro_extract (up_m rfl up_h) rfl) rfl <| al_stm (st_alloc h8_az96 rfl ml_4) trivial rfl (fun m_6 hm_6 => ?_)
  have mo4_6 := m_push hm_6 ml_4
  simp only [pS, Value.cells, Nat.reduceAdd] at mo4_6
  have mo3_6 := m_push_o hm_6 mo3_4
  have mo2_6 := m_push_o hm_6 mo2_4
  have mo1_6 := m_push_o hm_6 mo1_4
  have mo0_6 := m_push_o hm_6 mo0_4
  have ml_6 := m_push_l hm_6 ml_4
  have ml_6 : _ = 5 := ml_6
  clear hm_6 mo3_4 mo2_4 mo1_4 mo0_4
  refine al_stm (st_store up_h (u2 rfl up_h) rfl rfl mo4_6 h8_sz96 rfl (nle rfl)) trivial rfl (fun m_7 hm_7 => ?_)
  have mo4_7 := m_set hm_7 mo4_6
  simp only [pS, Value.cells, Nat.reduceAdd] at mo4_7
  have mo3_7 := m_set_o hm_7 mo3_6 (by decide)
  have mo2_7 := m_set_o hm_7 mo2_6 (by decide)
  have mo1_7 := m_set_o hm_7 mo1_6 (by decide)
  have mo0_7 := m_set_o hm_7 mo0_6 (by decide)
  have ml_7 := m_set_l hm_7 ml_6
  clear hm_7 mo4_6 mo3_6 mo2_6 mo1_6 mo0_6
  refine ar (ro_assign (up_n (up_m rfl up_h))) rfl <| ae5 (up_m rfl (up_n (up_m rfl (u2 rfl (u4 rfl s3_5))))) (up_m rfl (up_n (up_m rfl (u2 rfl (u4 rfl s5_5))))) (up_m rfl (up_n (up_m rfl (u2 rfl (u4 rfl s6_5))))) (up_m rfl (up_n up_h)) up_h ?_; clear s3_5 s4_5 s5_5 s6_5; intro e_8 s3_8 s5_8 s6_8 s8_8 s9_8
  refine then_n <| aw_seq <| aw_draw 19 (by kernel_rfl) (by kernel_rfl) (by kernel_rfl) (by kernel_rfl) ?_
  refine dr (ro_eq (ro_ld_ptr h8_ty96 rfl mo4_7 s8_8 (nle rfl)) (by simp only [pS, Value.cells, Nat.reduceAdd] <;> rfl)) rfl ?_
  refine dr (ro_move (up_m rfl s9_8)) rfl <| dr (ro_fld_ptr h8_fl57_0 rfl (u2 rfl s5_8)) rfl <| dr (ro_eq (ro_ld_ptr h8_ty55 rfl mo2_7 up_h (nle rfl)) (by simp only [pS, Value.cells, Nat.reduceAdd] <;> rfl)) rfl ?_
  refine dr (ro_eq (ro_len_row up_h rfl h8_sl55.1) (by simp only [lnS] <;> rfl)) rfl ?_
  refine dr (ro_fld_ptr h8_fl52_0 rfl (up_m rfl (u4 rfl s3_8))) rfl <| dr (ro_eq (ro_ld_ptr h8_ty50 rfl mo0_7 up_h (nle rfl)) (by simp only [pS, Value.cells, Nat.reduceAdd] <;> rfl)) rfl ?_
  refine dr (ro_eq (ro_len_row up_h rfl h8_sl50.1) (by simp only [lnS] <;> rfl)) rfl ?_
  refine dr (ro_eql (up_m rfl (u2 rfl up_h)) up_h) rfl ?_
  refine dr (ro_call (evL_cons up_h (evL_cons ev_c evL_nil)) rfl (sUnless_ok _ _) qhcf28) rfl <| dr (ro_fld_ptr h8_fl57_0 rfl (u2 rfl (u8 rfl s5_8))) rfl <| dr (ro_eq (ro_ld_ptr h8_ty55 rfl mo2_7 up_h (nle rfl)) (by simp only [pS, Value.cells, Nat.reduceAdd] <;> rfl)) rfl ?_
  refine dr (ro_call (evL_cons up_h evL_nil) rfl (right_ok cs hc) qhcf29) rfl <| dr (ro_fld_ptr h8_fl57_1 rfl (up_m rfl (u4 rfl (u8 rfl s5_8)))) rfl <| dr (ro_eq (ro_ld_ptr h8_ty23 rfl mo2_7 up_h (nle rfl)) (by simp only [pS, Value.cells, Nat.reduceAdd] <;> rfl)) rfl ?_
  refine dr (ro_lit h8_sl55 (evP_cons up_h evP_nil) rfl rfl rfl rfl) rfl <| dr (ro_call (evL_cons up_h evL_nil) rfl (right_ok [f] (by simp)) qhcf29) rfl ?_
  refine dr (ro_lit h8_sl109 (evP_cons (up_m rfl (u2 rfl (u4 rfl (u8 rfl up_h)))) (evP_cons (up_m rfl (u2 rfl (u4 rfl up_h))) (evP_cons (u4 rfl up_h) (evP_cons up_h evP_nil)))) rfl rfl rfl rfl) rfl <| dr (ro_call (evL_cons up_h evL_nil) rfl (sFirst_ok [_, _, _, _] (by simp)) qhcf27) rfl ?_
  refine ds_nil <| al_stm (st_store (up_m rfl (u2 rfl (u16 rfl s6_8))) (u2 rfl (u16 rfl up_h)) rfl rfl mo3_7 h8_sz96 rfl (nle rfl)) trivial rfl (fun m_9 hm_9 => ?_)
  have mo3_9 := m_set hm_9 mo3_7
  simp only [pS, Value.cells, Nat.reduceAdd] at mo3_9
  have mo4_9 := m_set_o hm_9 mo4_7 (by decide)
  have mo2_9 := m_set_o hm_9 mo2_7 (by decide)
  have mo1_9 := m_set_o hm_9 mo1_7 (by decide)
  have mo0_9 := m_set_o hm_9 mo0_7 (by decide)
  have ml_9 := m_set_l hm_9 ml_7
  clear hm_9 mo4_7 mo3_7 mo2_7 mo1_7 mo0_7
  refine ar (ro_assign (up_n up_h)) rfl <| ae2 (up_m rfl (up_n (up_m rfl (u2 rfl (u16 rfl s6_8))))) up_h ?_; clear s3_8 s5_8 s6_8 s8_8 s9_8; intro e_10 s6_10 s7_10
  refine then_n <| aw_ret <| ret2 (.inr rfl) (by kernel_rfl) (resV_cell s6_10 mo3_9 h8_ty96 (nle rfl) (by simp)) (resV_tmp s7_10) (vw_r (.ro _ rfl)) (.ro _ rfl) ?_
  clear s6_10 s7_10 mo3_9 mo4_9 mo2_9 mo1_9 mo0_9 ml_9
  rfl
theorem fee_right {ls : List Int} {p q : Int} {cs : List V2} {f : V2} (h : feeE ls p q cs f = 0) : (1 ≤ ls.length ∧ ls.length ≤ 12 ∧ ∀ n ∈ ls, 1 ≤ n ∧ n ≤ 1000000) ∧ (1 ≤ q ∧ q ≤ 1000000) ∧ 0 ≤ p ∧ p + q ≤ sumI ls ls.length ∧ cs.length = ls.length ∧ (∀ v ∈ cs, Bd 100000 v) ∧ Bd 100000 f := by
  have a : opnE ls p q = 0 ∧ unlessE (decide ((cs.length : Int) = ls.length)) 10 = 0 ∧ rightE cs = 0 ∧ rightE [f] = 0 := by
    unfold feeE at h
    simp only [firstE] at h
    split at h
    · split at h
      · split at h
        · split at h
          · exact ⟨‹_›, ‹_›, ‹_›, ‹_›⟩
          · exact absurd h ‹_›
        · exact absurd h ‹_›
      · exact absurd h ‹_›
    · exact absurd h ‹_›
  obtain ⟨a1, a2, a3, a4⟩ := a
  unfold opnE at a1
  by_cases h0 : trkE ls = 0
  · rw [if_pos h0] at a1
    obtain ⟨b1, b2⟩ := firstE_zero2 a1
    rw [unlessE_z (by decide)] at b1 b2 a2
    simp only [lenB, withinB, Bool.and_eq_true, decide_eq_true_eq] at b1 b2 a2
    exact ⟨trkE_right h0, b1.1, b1.2, by omega, by omega, right_bd a3, bd_of_right1 a4⟩
  · rw [if_neg h0] at a1; exact absurd a1 h0
/-! ### Overlaps -/
def ovW (ls : List Int) (p q : Int) (i : Nat) : Int := max 0 (min (sumI ls i + ls.getD i default) (p + q) - max (sumI ls i) p)
def ovY (ls : List Int) (p q : Int) : List (List AV) := (List.range ls.length).map fun (i : Nat) => [nA (i : Int), nA (ovW ls p q i)]
theorem ovY_len (ls : List Int) (p q : Int) : (ovY ls p q).length = ls.length := by simp [ovY]
theorem ovY_two {ls : List Int} {p q : Int} : ∀ y ∈ ovY ls p q, y.length = 2 := by
  intro y hy
  unfold ovY at hy
  obtain ⟨s, _, rfl⟩ := List.mem_map.1 hy
  rfl
theorem ovY_at {ls : List Int} {p q : Int} {i : Int} {k : Nat} (h0 : 0 ≤ i) (hi : i < ls.length) (hk : k = i.toNat) : (ovY ls p q)[k]? = some [.v (.int .i64 i), nA (ovW ls p q i.toNat)] := by
  subst hk
  unfold ovY
  rw [List.getElem?_map, List.getElem?_range (by omega)]
  simp only [Option.map_some, Int.toNat_of_nonneg h0]
theorem ovY_of {ls : List Int} {p q : Int} {i : Nat} {a b : AV} (h : (ovY ls p q)[i]? = some [a, b]) : i < ls.length ∧ a = nA (i : Int) ∧ b = nA (ovW ls p q i) := by
  have hl : i < ls.length := by have := (List.getElem?_eq_some_iff.1 h).1; rwa [ovY_len] at this
  unfold ovY at h
  rw [List.getElem?_map, List.getElem?_range hl] at h
  simp at h
  exact ⟨hl, h.1.symm, h.2.symm⟩
set_option maxRecDepth 100000 in
set_option maxHeartbeats 4000000 in
theorem overlaps_gen (ls : List Int) (p q : Int) (hl : ls.length ≤ 1000) (h3 : ∀ n ∈ ls, 1 ≤ n ∧ n ≤ 1000000) (hp : 0 ≤ p ∧ p ≤ 1000000000) (hq : 0 ≤ q ∧ q ≤ 1000000000) : GenOk Tryd.prog 75 [drA ls p q] [] (ovY ls p q) := by
  refine gen_of (fn := Tryd.f75) 44 (by kernel_rfl) rfl (by kernel_rfl) (Nat.le_of_ble_eq_true rfl) (fun _ _ => ⟨.tuple #[], by kernel_rfl⟩) ?_
  intro lb_ e_0 hA
  have s0_0 : evA e_0 (.tmp 0) = _ := hA 0 _ rfl
  have s1_0 : evA e_0 (.tmp 1) = _ := hA 1 _ rfl
  clear hA
  refine iw_seq <| iw_text ?_
  refine il_ro (fun _ => (ro_boxR s0_0 rfl (by first | rfl | (simp only [roO.roL, roO, Bool.and_true, Bool.true_and]; first | rfl | assumption) | (apply roL_flat; intro _; rfl)))) trivial rfl ?_
  refine il_end (fun e_1 he_1 => ?_)
  have s1_1 := ef 1 he_1 (up_m rfl s1_0)
  have s2_1 := ef 2 he_1 up_h
  clear he_1 s0_0 s1_0
  refine theni_n <| iw_seq <| iw_text ?_
  refine il_ro (fun _ => (ro_assign ev_c)) trivial rfl ?_
  refine il_end (fun e_2 he_2 => ?_)
  have s1_2 := ef 1 he_2 (up_m rfl s1_1)
  have s2_2 := ef 2 he_2 (up_m rfl s2_1)
  have s4_2 := ef 4 he_2 up_h
  clear he_2 s1_1 s2_1
  refine theni_n <| iw_seq <| iw_text ?_
  refine il_ro (fun _ => (ro_eq (ro_fld_ref h8_fl96_0 rfl s2_2) (by simp only [pS, Value.cells, Nat.reduceAdd] <;> rfl))) trivial rfl ?_
  refine il_ro (fun _ => (ro_eq (ro_fld_ref h8_fl52_0 rfl up_h) (by simp only [pS, Value.cells, Nat.reduceAdd] <;> rfl))) trivial rfl ?_
  refine il_ro (fun _ => (ro_eq (ro_ld_ref h8_ty50 rfl up_h (nle rfl)) (by simp only [pS, Value.cells, Nat.reduceAdd] <;> rfl))) trivial rfl ?_
  refine il_ro (fun _ => (ro_eq (ro_len_row up_h rfl h8_sl50.1) (by simp only [lnS] <;> rfl))) trivial rfl ?_
  refine il_ro (fun _ => (ro_move ev_c)) trivial rfl ?_
  refine il_end (fun e_3 he_3 => ?_)
  have s1_3 := ef 1 he_3 (up_m rfl (u4 rfl s1_2))
  have s2_3 := ef 2 he_3 (up_m rfl (u4 rfl s2_2))
  have s4_3 := ef 4 he_3 (up_m rfl (u4 rfl s4_2))
  have s10_3 := ef 10 he_3 (u2 rfl up_h)
  have s11_3 := ef 11 he_3 (up_m rfl up_h)
  have s12_3 := ef 12 he_3 up_h
  clear he_3 s1_2 s2_2 s4_2
  refine theni_n <| iw_block <| iw_loop (S := (Int × Int)) (fun s e b i => match s with | ⟨j, fr⟩ => (evA e (.tmp 12) = .v (.int .i64 j)) ∧ (evA e (.tmp 4) = .v (.int .i64 fr)) ∧ (evA e (.tmp 1) = evA e_3 (.tmp 1)) ∧ (evA e (.tmp 2) = evA e_3 (.tmp 2)) ∧ (evA e (.tmp 10) = evA e_3 (.tmp 10)) ∧ (evA e (.tmp 11) = evA e_3 (.tmp 11)) ∧ (b = true) ∧ (i = j.toNat) ∧ ((0 ≤ j ∧ j ≤ ls.length ∧ fr = sumI ls j.toNat))) (fun s => match s with | ⟨j, fr⟩ => (ls.length - j).toNat) ⟨_, _⟩ ⟨s12_3, s4_3, rfl, rfl, rfl, rfl, rfl, (by first | rfl | omega | (simp; omega)), ?_⟩ ?_
  · (exact ⟨by omega, by omega, rfl⟩)
  · rintro ⟨j, fr⟩ e_4 _ i_4 ⟨s12_4, s4_4, k1_4, k2_4, k10_4, k11_4, rfl, hix, hinv⟩
    have s1_4 := k1_4.trans s1_3
    have s2_4 := k2_4.trans s2_3
    have s10_4 := k10_4.trans s10_3
    have s11_4 := k11_4.trans s11_3
    (obtain ⟨p1, p2, p3⟩ := hinv; have e1 := sumI_bd h3 j.toNat; have e2 := getD_len h3 j.toNat)
    refine iw_seq <| iw_text ?_
    refine il_ro (fun _ => (ro_lss s12_4 s11_4)) trivial rfl ?_
    refine il_end (fun e_5 he_5 => ?_)
    have s1_5 := ef 1 he_5 (up_m rfl s1_4)
    have s2_5 := ef 2 he_5 (up_m rfl s2_4)
    have s4_5 := ef 4 he_5 (up_m rfl s4_4)
    have s10_5 := ef 10 he_5 (up_m rfl s10_4)
    have s11_5 := ef 11 he_5 (up_m rfl s11_4)
    have s12_5 := ef 12 he_5 (up_m rfl s12_4)
    have s13_5 := ef 13 he_5 up_h
    clear he_5 s10_4 s11_4 s12_4 s1_4 s2_4 s4_4
    refine theni_n <| iw_seq <| iw_case s13_5 (fun hq_6 => ?_) (fun hq_6 => ?_)
    ·replace hq_6 := bt hq_6
     refine iw_skip <| theni_n <| iw_seq <| iw_block <| iw_seq <| iw_text ?_
     refine il_ro (fun _ => (ro_move s12_5)) trivial rfl ?_
     refine il_ro (fun _ => (ro_eq (ro_ix h8_sl50 (up_m rfl s10_5) (up_m rfl s12_5) (by omega) (by first | (refine idx_map ?_; first | omega | (simp only [lnS]; omega)) | (refine idx_mapI ?_; first | omega | (simp only [lnS]; omega)) | (refine idx_mapN ?_; first | omega | (simp only [lnS]; omega)) | rfl)) (by simp only [pS, Value.cells, Nat.reduceAdd] <;> rfl))) trivial rfl ?_
     refine il_ro (fun _ => (ro_eq (ro_ld_ref h8_ty3 rfl up_h (nle rfl)) (by simp only [pS, Value.cells, Nat.reduceAdd] <;> rfl))) trivial rfl ?_
     refine il_ro (fun _ => (ro_assign (u2 rfl up_h))) trivial rfl ?_
     refine il_ro (fun _ => (ro_assign (up_m rfl up_h))) trivial rfl ?_
     refine il_end (fun e_7 he_7 => ?_)
     have s1_7 := ef 1 he_7 (up_m rfl (u4 rfl s1_5))
     have s2_7 := ef 2 he_7 (up_m rfl (u4 rfl s2_5))
     have s4_7 := ef 4 he_7 (up_m rfl (u4 rfl s4_5))
     have s5_7 := ef 5 he_7 (up_m rfl up_h)
     have s6_7 := ef 6 he_7 up_h
     have s10_7 := ef 10 he_7 (up_m rfl (u4 rfl s10_5))
     have s11_7 := ef 11 he_7 (up_m rfl (u4 rfl s11_5))
     have s12_7 := ef 12 he_7 (up_m rfl (u4 rfl s12_5))
     clear he_7 s10_5 s11_5 s12_5 s13_5 s1_5 s2_5 s4_5
     refine theni_n <| iw_seq <| iw_text ?_
     refine il_ro (fun _ => (ro_move s4_7)) trivial rfl ?_
     refine il_ro (fun _ => (ro_move (up_m rfl s6_7))) trivial rfl ?_
     (refine il_ro (fun _ => (ro_add' (up_m rfl up_h) up_h ?_)) trivial rfl ?_; · (unfold In64; omega))
     refine il_ro (fun _ => (ro_eq (ro_fld_ref h8_fl96_1 rfl (up_m rfl (u2 rfl s2_7))) (by simp only [pS, Value.cells, Nat.reduceAdd] <;> rfl))) trivial rfl ?_
     refine il_ro (fun _ => (ro_eq (ro_fld_ref h8_fl54_0 rfl up_h) (by simp only [pS, Value.cells, Nat.reduceAdd] <;> rfl))) trivial rfl ?_
     refine il_ro (fun _ => (ro_eq (ro_ld_ref h8_ty3 rfl up_h (nle rfl)) (by simp only [pS, Value.cells, Nat.reduceAdd] <;> rfl))) trivial rfl ?_
     refine il_ro (fun _ => (ro_eq (ro_fld_ref h8_fl96_1 rfl (u2 rfl (u4 rfl s2_7))) (by simp only [pS, Value.cells, Nat.reduceAdd] <;> rfl))) trivial rfl ?_
     refine il_ro (fun _ => (ro_eq (ro_fld_ref h8_fl54_1 rfl up_h) (by simp only [pS, Value.cells, Nat.reduceAdd] <;> rfl))) trivial rfl ?_
     refine il_ro (fun _ => (ro_eq (ro_ld_ref h8_ty3 rfl up_h (nle rfl)) (by simp only [pS, Value.cells, Nat.reduceAdd] <;> rfl))) trivial rfl ?_
     (refine il_ro (fun _ => (ro_add' (up_m rfl (u2 rfl up_h)) up_h ?_)) trivial rfl ?_; · (unfold In64; omega))
     refine il_ro (fun _ => (ro_min (up_m rfl (u2 rfl (u4 rfl up_h))) up_h)) trivial rfl ?_
     refine il_ro (fun _ => (ro_move (up_m rfl (u2 rfl (u8 rfl s4_7))))) trivial rfl ?_
     refine il_ro (fun _ => (ro_eq (ro_fld_ref h8_fl96_1 rfl (u4 rfl (u8 rfl s2_7))) (by simp only [pS, Value.cells, Nat.reduceAdd] <;> rfl))) trivial rfl ?_
     refine il_ro (fun _ => (ro_eq (ro_fld_ref h8_fl54_0 rfl up_h) (by simp only [pS, Value.cells, Nat.reduceAdd] <;> rfl))) trivial rfl ?_
     refine il_ro (fun _ => (ro_eq (ro_ld_ref h8_ty3 rfl up_h (nle rfl)) (by simp only [pS, Value.cells, Nat.reduceAdd] <;> rfl))) trivial rfl ?_
     refine il_ro (fun _ => (ro_max (up_m rfl (u2 rfl up_h)) up_h)) trivial rfl ?_
     (refine il_ro (fun _ => (ro_sub' (up_m rfl (u4 rfl up_h)) up_h ?_)) trivial rfl ?_; · (unfold In64; omega))
     refine il_ro (fun _ => (ro_assign up_h)) trivial rfl ?_
     refine il_end (fun e_8 he_8 => ?_)
     have s1_8 := ef 1 he_8 (u2 rfl (u16 rfl s1_7))
     have s2_8 := ef 2 he_8 (u2 rfl (u16 rfl s2_7))
     have s4_8 := ef 4 he_8 (u2 rfl (u16 rfl s4_7))
     have s5_8 := ef 5 he_8 (u2 rfl (u16 rfl s5_7))
     have s6_8 := ef 6 he_8 (u2 rfl (u16 rfl s6_7))
     have s7_8 := ef 7 he_8 up_h
     have s10_8 := ef 10 he_8 (u2 rfl (u16 rfl s10_7))
     have s11_8 := ef 11 he_8 (u2 rfl (u16 rfl s11_7))
     have s12_8 := ef 12 he_8 (u2 rfl (u16 rfl s12_7))
     clear he_8 s10_7 s11_7 s12_7 s1_7 s2_7 s4_7 s5_7 s6_7
     refine theni_n <| iw_seq <| iw_seq <| iw_text ?_
     refine il_ro (fun _ => (ro_move s1_8)) trivial rfl ?_
     refine il_ro (fun _ => (ro_move (up_m rfl s5_8))) trivial rfl ?_
     refine il_ro (fun _ => (ro_move (u2 rfl s7_8))) trivial rfl ?_
     refine il_ro (fun _ => (ro_max ev_c up_h)) trivial rfl ?_
     refine il_yield2 (up_m rfl (u2 rfl up_h)) (evL_cons (u2 rfl up_h) (evL_cons up_h evL_nil)) rfl trivial rfl (by (subst p3; exact ovY_at p1 (by omega) hix)) ?_ ?_
     ·
       refine il_ro (fun _ => (ro_not up_h)) trivial rfl ?_
       refine il_end (fun e_9 he_9 => ?_)
       have s1_9 := ef 1 he_9 (u2 rfl (u4 rfl s1_8))
       have s2_9 := ef 2 he_9 (u2 rfl (u4 rfl s2_8))
       have s4_9 := ef 4 he_9 (u2 rfl (u4 rfl s4_8))
       have s6_9 := ef 6 he_9 (u2 rfl (u4 rfl s6_8))
       have s10_9 := ef 10 he_9 (u2 rfl (u4 rfl s10_8))
       have s11_9 := ef 11 he_9 (u2 rfl (u4 rfl s11_8))
       have s12_9 := ef 12 he_9 (u2 rfl (u4 rfl s12_8))
       have s39_9 := ef 39 he_9 up_h
       clear he_9 s10_8 s11_8 s12_8 s1_8 s2_8 s4_8 s5_8 s6_8 s7_8
       refine theni_n <| iw_false s39_9 ?_
       refine iw_skip <| theni_n <| iw_text ?_
       refine il_ro (fun _ => (ro_move s4_9)) trivial rfl ?_
       refine il_ro (fun _ => (ro_move (up_m rfl s6_9))) trivial rfl ?_
       (refine il_ro (fun _ => (ro_add' (up_m rfl up_h) up_h ?_)) trivial rfl ?_; · (unfold In64; omega))
       refine il_ro (fun _ => (ro_assign up_h)) trivial rfl ?_
       refine il_end (fun e_11 he_11 => ?_)
       have s1_11 := ef 1 he_11 (u4 rfl s1_9)
       have s2_11 := ef 2 he_11 (u4 rfl s2_9)
       have s4_11 := ef 4 he_11 up_h
       have s10_11 := ef 10 he_11 (u4 rfl s10_9)
       have s11_11 := ef 11 he_11 (u4 rfl s11_9)
       have s12_11 := ef 12 he_11 (u4 rfl s12_9)
       clear he_11 s10_9 s11_9 s12_9 s1_9 s2_9 s39_9 s4_9 s6_9
       refine blocki_n <| theni_n <| iw_text ?_
       (refine il_ro (fun _ => (ro_add' s12_11 ev_c ?_)) trivial rfl ?_; · (unfold In64; omega))
       refine il_ro (fun _ => (ro_move up_h)) trivial rfl ?_
       refine il_end (fun e_12 he_12 => ?_)
       have s1_12 := ef 1 he_12 (u2 rfl s1_11)
       have s2_12 := ef 2 he_12 (u2 rfl s2_11)
       have s4_12 := ef 4 he_12 (u2 rfl s4_11)
       have s10_12 := ef 10 he_12 (u2 rfl s10_11)
       have s11_12 := ef 11 he_12 (u2 rfl s11_11)
       have s12_12 := ef 12 he_12 up_h
       clear he_12 s10_11 s11_11 s12_11 s1_11 s2_11 s4_11
       refine theni_n <| ⟨⟨_, _⟩, ⟨s12_12, s4_12, (s1_12.trans s1_3.symm), (s2_12.trans s2_3.symm), (s10_12.trans s10_3.symm), (s11_12.trans s11_3.symm), rfl, (by first | omega | (simp; omega)), ?_⟩, ?_⟩
       · (refine ⟨by omega, by omega, ?_⟩; rw [show (j + 1).toNat = j.toNat + 1 by omega, sumI, p3])
       · ((try dsimp only); omega)
     ·
       refine il_ro (fun _ => (ro_not up_h)) trivial rfl ?_
       refine il_end (fun e_13 he_13 => ?_)
       have s1_13 := ef 1 he_13 (u2 rfl (u4 rfl s1_8))
       have s2_13 := ef 2 he_13 (u2 rfl (u4 rfl s2_8))
       have s4_13 := ef 4 he_13 (u2 rfl (u4 rfl s4_8))
       have s6_13 := ef 6 he_13 (u2 rfl (u4 rfl s6_8))
       have s10_13 := ef 10 he_13 (u2 rfl (u4 rfl s10_8))
       have s11_13 := ef 11 he_13 (u2 rfl (u4 rfl s11_8))
       have s12_13 := ef 12 he_13 (u2 rfl (u4 rfl s12_8))
       have s39_13 := ef 39 he_13 up_h
       clear he_13 s10_8 s11_8 s12_8 s1_8 s2_8 s4_8 s5_8 s6_8 s7_8
       refine theni_n <| iw_true s39_13 ?_
       refine iw_ret <| theni_r <| blocki_r <| theni_r <| theni_r <| blocki_r <| gen_r (fun hb_ => (by cases hb_))
    replace hq_6 := bf hq_6
    refine iw_exit <| theni_x <| theni_x <| blocki_hit ?_
    refine gen_n (fun hb_ => ?_)
    (rw [ovY_len]; omega)
/-- The force of the first n sections. -/
def frS (ls : List Int) (p q : Int) (cs : List V2) (f : V2) : Nat → Int
  | 0 => 0
  | n + 1 => frS ls p q cs f n + ovW ls p q n * (prodV (cs.getD n default) f).2
theorem ovW_bd {ls : List Int} {p q : Int} (h3 : ∀ n ∈ ls, 1 ≤ n ∧ n ≤ 1000000) (i : Nat) : 0 ≤ ovW ls p q i ∧ ovW ls p q i ≤ 1000000 := by
  have := getD_len h3 i
  unfold ovW; omega
theorem prodV_bd {u v : V2} (hu : Bd 100000 u) (hv : Bd 100000 v) : -60000000000 ≤ (prodV u v).2 ∧ (prodV u v).2 ≤ 60000000000 := by
  have h1 := (conj_bd hv)
  have m1 := mulBd hu.1 h1.2
  have m2 := mulBd hu.2 h1.1
  have m3 := mulBd hu.2 h1.2
  simp only [prodV, mulV]
  omega
theorem frS_bd {ls : List Int} {p q : Int} {cs : List V2} {f : V2} (h3 : ∀ n ∈ ls, 1 ≤ n ∧ n ≤ 1000000) (hc : ∀ v ∈ cs, Bd 100000 v) (hf : Bd 100000 f) : ∀ n : Nat, -(60000000000000000 * n) ≤ frS ls p q cs f n ∧ frS ls p q cs f n ≤ 60000000000000000 * n
  | 0 => by simp [frS]
  | n + 1 => by
    have h1 := frS_bd h3 hc hf (p := p) (q := q) n
    have h2 := ovW_bd h3 n (p := p) (q := q)
    have h4 := prodV_bd (Bd.getD hc (by decide) n) hf
    have h5 := mulBd (A := 1000000) (a := ovW ls p q n) (by omega) h4
    simp only [frS]; omega
set_option maxRecDepth 100000 in
set_option maxHeartbeats 4000000 in
theorem force_ok (ls : List Int) (p q : Int) (cs : List V2) (f : V2) (m : Int) (h3 : ∀ n ∈ ls, 1 ≤ n ∧ n ≤ 1000000) (hl : ls.length ≤ 12) (hcl : cs.length = ls.length) (hc : ∀ v ∈ cs, Bd 100000 v) (hf : Bd 100000 f) (hp : 0 ≤ p ∧ p ≤ 1000000000) (hq : 0 ≤ q ∧ q ≤ 1000000000) :
    FnOk Tryd.prog 46 [drA ls p q, feA cs f m] (fun r => r = nA (frS ls p q cs f ls.length)) := by
  refine fnOk_of (fn := Tryd.f46) 26 (by kernel_rfl) rfl (by kernel_rfl) (Nat.le_of_ble_eq_true rfl) ?_
  intro e_0 m_0 hA hm_0
  have s0_0 : evA e_0 (.tmp 0) = _ := hA 0 _ rfl
  have s1_0 : evA e_0 (.tmp 1) = _ := hA 1 _ rfl
  have ml_0 : m_0.length = 0 := by rw [hm_0]; rfl
  clear hA hm_0
  refine aw_seq <| at_ <| al_stm (st_box s0_0 rfl ml_0) trivial rfl (fun m_1 hm_1 => ?_)
  have mo0_1 := m_push hm_1 ml_0
  have ml_1 := m_push_l hm_1 ml_0
  have ml_1 : _ = 1 := ml_1
  clear hm_1
  refine al_stm (st_box (up_m rfl s1_0) rfl ml_1) trivial rfl (fun m_2 hm_2 => ?_)
  have mo1_2 := m_push hm_2 ml_1
  have mo0_2 := m_push_o hm_2 mo0_1
  have ml_2 := m_push_l hm_2 ml_1
  have ml_2 : _ = 2 := ml_2
  clear hm_2 mo0_1
  refine ar (ro_assign ev_c) rfl <| ae2 (u2 rfl up_h) (up_m rfl up_h) ?_; clear s0_0 s1_0; intro e_3 s2_3 s3_3
  refine then_n <| aw_seq <| at_ <| al_stm (st_alloc h8_az3 rfl ml_2) trivial rfl (fun m_4 hm_4 => ?_)
  have mo2_4 := m_push hm_4 ml_2
  simp only [pS, Value.cells, Nat.reduceAdd, tE] at mo2_4
  have mo1_4 := m_push_o hm_4 mo1_2
  have mo0_4 := m_push_o hm_4 mo0_2
  have ml_4 := m_push_l hm_4 ml_2
  have ml_4 : _ = 3 := ml_4
  clear hm_4 mo1_2 mo0_2
  refine al_stm (st_store up_h ev_c rfl rfl mo2_4 h8_sz3 rfl (nle rfl)) trivial rfl (fun m_5 hm_5 => ?_)
  have mo2_5 := m_set hm_5 mo2_4
  simp only [pS, Value.cells, Nat.reduceAdd, tE] at mo2_5
  have mo1_5 := m_set_o hm_5 mo1_4 (by decide)
  have mo0_5 := m_set_o hm_5 mo0_4 (by decide)
  have ml_5 := m_set_l hm_5 ml_4
  clear hm_5 mo2_4 mo1_4 mo0_4
  refine ae3 (up_n (up_m rfl s2_3)) (up_n (up_m rfl s3_3)) (up_n up_h) ?_; clear s2_3 s3_3; intro e_6 s2_6 s3_6 s5_6
  refine then_n <| aw_seq <| aw_seq <| at_ <| ar (ro_eq (ro_ld_ptr h8_ty96 rfl mo0_5 s2_6 (nle rfl)) (by simp only [pS, Value.cells, Nat.reduceAdd, tE] <;> rfl)) rfl ?_
  refine ar (ro_makeFunc (evL_cons up_h evL_nil) evL_nil) rfl <| ae3 (u2 rfl s3_6) (u2 rfl s5_6) up_h ?_; clear s2_6 s3_6 s5_6; intro e_7 s3_7 s5_7 s9_7
  refine then_n <| aw_block <| aw_range2 s9_7 (overlaps_gen ls p q (by omega) h3 hp hq) h8_hcf75 (by exact ovY_two) ⟨Nat.le_of_ble_eq_true rfl, Nat.le_of_ble_eq_true rfl⟩ (fun i mem => (mem[2]? = some (.box 3 [nA (frS ls p q cs f i)])) ∧ (mem[1]? = m_5[1]?) ∧ (mem[0]? = m_5[0]?) ∧ (mem.length = 3) ∧ ((True))) ⟨mo2_5, rfl, rfl, ml_5, ?_⟩ ?_ ?_
  · trivial
  · rintro i_8 y0_8 y1_8 m_8 hy_8 ⟨mo2_8, mk1_8, mk0_8, ml_8, hinv⟩
    (obtain ⟨s1, rfl, rfl⟩ := ovY_of hy_8; have e1 := frS_bd h3 hc hf (p := p) (q := q) i_8; have e2 := ovW_bd h3 i_8 (p := p) (q := q); have e3 := prodV_bd (Bd.getD hc (by decide) i_8) hf; have e4 := mulBd (A := 1000000) (a := ovW ls p q i_8) (by omega) e3)
    have mo1_8 := mk1_8.trans mo1_5
    have mo0_8 := mk0_8.trans mo0_5
    refine aw_env (fun e_8 he_8 => ?_)
    have s3_8 := ef 3 he_8 (u2 rfl s3_7)
    have s5_8 := ef 5 he_8 (u2 rfl s5_7)
    have s9_8 := ef 9 he_8 (u2 rfl s9_7)
    have s10_8 := ef 10 he_8 (up_m rfl up_h)
    have s11_8 := ef 11 he_8 up_h
    clear he_8
    refine aw_seq <| at_ <| ar (ro_assign s10_8) rfl <| ae4 (up_m rfl s3_8) (up_m rfl s5_8) up_h (up_m rfl s11_8) ?_; clear s10_8 s11_8 s3_8 s5_8 s9_8; intro e_9 s3_9 s5_9 s6_9 s11_9
    refine then_n <| at_ <| ar (ro_assign s11_9) rfl <| ae4 (up_m rfl s3_9) (up_m rfl s5_9) (up_m rfl s6_9) up_h ?_; clear s11_9 s3_9 s5_9 s6_9; intro e_10 s3_10 s5_10 s6_10 s7_10
    refine fallb_n ?_
    refine aw_block <| aw_draw 13 (by kernel_rfl) (by kernel_rfl) (by kernel_rfl) (by kernel_rfl) ?_
    refine dr (ro_eq (ro_ld_ptr h8_ty3 rfl mo2_8 s5_10 (nle rfl)) (by simp only [pS, Value.cells, Nat.reduceAdd, tE] <;> rfl)) rfl ?_
    refine dr (ro_move (up_m rfl s7_10)) rfl <| dr (ro_fld_ptr h8_fl57_0 rfl (u2 rfl s3_10)) rfl <| dr (ro_eq (ro_ld_ptr h8_ty55 rfl mo1_8 up_h (nle rfl)) (by simp only [pS, Value.cells, Nat.reduceAdd, tE] <;> rfl)) rfl ?_
    refine dr (ro_move (u4 rfl s6_10)) rfl <| dr (ro_eq (ro_ix h8_sl55 (up_m rfl up_h) up_h (by omega) (by first | (refine idx_map ?_; first | omega | (simp only [lnS]; omega)) | (refine idx_mapI ?_; first | omega | (simp only [lnS]; omega)) | (refine idx_mapN ?_; first | omega | (simp only [lnS]; omega)) | rfl)) (by simp only [pS, Value.cells, Nat.reduceAdd, tE] <;> rfl)) rfl ?_
    refine dr (ro_eq (ro_ld_ref h8_ty23 rfl up_h (nle rfl)) (by simp only [pS, Value.cells, Nat.reduceAdd, tE] <;> rfl)) rfl ?_
    refine dr (ro_fld_ptr h8_fl57_1 rfl (up_m rfl (u2 rfl (u4 rfl s3_10)))) rfl <| dr (ro_eq (ro_ld_ptr h8_ty23 rfl mo1_8 up_h (nle rfl)) (by simp only [pS, Value.cells, Nat.reduceAdd, tE] <;> rfl)) rfl ?_
    refine dr (ro_call (evL_cons (u2 rfl up_h) (evL_cons up_h evL_nil)) rfl (product_ok _ _ ((Bd.getD hc (by decide) _).mono (by decide)) (hf.mono (by decide))) h8_hcf76) rfl ?_
    refine dr (ro_eq (ro_fld qfl93_1 up_h (nle rfl) rfl) (by simp only [pS, Value.cells, Nat.reduceAdd, tE] <;> rfl)) rfl ?_
    (refine dr (ro_mul' (up_m rfl (u8 rfl up_h)) up_h ?_) rfl ?_; · (unfold In64; omega))
    (refine dr (ro_add' (up_m rfl (u2 rfl (u8 rfl up_h))) up_h ?_) rfl ?_; · (unfold In64; omega))
    refine ds_nil <| al_stm (st_store (up_m rfl (u4 rfl (u8 rfl s5_10))) up_h rfl rfl mo2_8 h8_sz3 rfl (nle rfl)) trivial rfl (fun m_11 hm_11 => ?_)
    have mo2_11 := m_set hm_11 mo2_8
    simp only [pS, Value.cells, Nat.reduceAdd, tE] at mo2_11
    have mo1_11 := m_set_o hm_11 mo1_8 (by decide)
    have mo0_11 := m_set_o hm_11 mo0_8 (by decide)
    have ml_11 := m_set_l hm_11 ml_8
    clear hm_11 mo2_8 mo1_8 mo0_8
    refine ae1 (up_n (up_m rfl (u4 rfl (u8 rfl s5_10)))) ?_; clear s3_10 s5_10 s6_10 s7_10; intro e_12 s5_12
    refine block_n <| rnd_n ⟨mo2_11, (mo1_11.trans mo1_5.symm), (mo0_11.trans mo0_5.symm), ml_11, ?_⟩
    trivial
  · rintro m_8 ⟨mo2_8, mk1_8, mk0_8, ml_8, hinv⟩
    have mo1_8 := mk1_8.trans mo1_5
    have mo0_8 := mk0_8.trans mo0_5
    refine block_n <| then_n <| aw_seq <| at_ <| ar (ro_eq (ro_ld_ptr h8_ty3 rfl mo2_8 s5_7 (nle rfl)) (by simp only [pS, Value.cells, Nat.reduceAdd, tE] <;> rfl)) rfl ?_
    refine ar (ro_assign up_h) rfl <| ae1 up_h ?_; clear s3_7 s5_7 s9_7; intro e_13 s4_13
    refine then_n <| aw_ret <| ret1 (.inr rfl) (by kernel_rfl) (resV_tmp s4_13) (.ro _ rfl) ?_
    clear s4_13 mo2_8 mo1_8 mo0_8 ml_8
    (rw [ovY_len])
def fatR (ls : List Int) (p q : Int) (cs : List V2) (f : V2) : Int := if feeE ls p q cs f = 0 then frS ls p q cs f ls.length else 0
set_option maxRecDepth 100000 in
set_option maxHeartbeats 4000000 in
theorem forceAt_ok (ls : List Int) (hl : ls.length ≤ 1000000000) (p q : Int) (hp : -1000000000 ≤ p ∧ p ≤ 1000000000) (hq : -1000000000 ≤ q ∧ q ≤ 1000000000) (cs : List V2) (hc : cs.length ≤ 1000000000) (f : V2) (m : Int) : FnOk Tryd.prog 20 [.agg [.row 1 (ls.map iE)], .agg [nA p, nA q], feA cs f m] (fun r => r = .tuple [nA (fatR ls p q cs f), nA (feeE ls p q cs f)]) := by
  refine fnOk_of (fn := Tryd.f20) 23 (by kernel_rfl) rfl (by kernel_rfl) (Nat.le_of_ble_eq_true rfl) ?_
  intro e_0 m_0 hA hm_0
  have s0_0 : evA e_0 (.tmp 0) = _ := hA 0 _ rfl
  have s1_0 : evA e_0 (.tmp 1) = _ := hA 1 _ rfl
  have s2_0 : evA e_0 (.tmp 2) = _ := hA 2 _ rfl
  have ml_0 : m_0.length = 0 := by rw [hm_0]; rfl
  clear hA hm_0
  refine aw_seq <| at_ <| al_stm (st_box s0_0 rfl ml_0) trivial rfl (fun m_1 hm_1 => ?_)
  have mo0_1 := m_push hm_1 ml_0
  have ml_1 := m_push_l hm_1 ml_0
  have ml_1 : _ = 1 := ml_1
  clear hm_1
  refine al_stm (st_box (up_m rfl s1_0) rfl ml_1) trivial rfl (fun m_2 hm_2 => ?_)
  have mo1_2 := m_push hm_2 ml_1
  have mo0_2 := m_push_o hm_2 mo0_1
  have ml_2 := m_push_l hm_2 ml_1
  have ml_2 : _ = 2 := ml_2
  clear hm_2 mo0_1
  refine al_stm (st_box (u2 rfl s2_0) rfl ml_2) trivial rfl (fun m_3 hm_3 => ?_)
  have mo2_3 := m_push hm_3 ml_2
  have mo1_3 := m_push_o hm_3 mo1_2
  have mo0_3 := m_push_o hm_3 mo0_2
  have ml_3 := m_push_l hm_3 ml_2
  have ml_3 : _ = 3 := ml_3
  clear hm_3 mo1_2 mo0_2
  refine ar (ro_assign ev_c) rfl <| ar (ro_assign ev_c) rfl <| ae3 (u4 rfl up_h) (up_m rfl (u2 rfl up_h)) (u2 rfl up_h) ?_; clear s0_0 s1_0 s2_0; intro e_4 s3_4 s4_4 s5_4
  refine then_n <| aw_seq <| at_ <| ar (ro_eq (ro_ld_ptr h8_ty52 rfl mo0_3 s3_4 (nle rfl)) (by simp only [pS, Value.cells, Nat.reduceAdd] <;> rfl)) rfl ?_
  refine ar (ro_eq (ro_ld_ptr h8_ty54 rfl mo1_3 (up_m rfl s4_4) (nle rfl)) (by simp only [pS, Value.cells, Nat.reduceAdd] <;> rfl)) rfl ?_
  refine ar (ro_eq (ro_ld_ptr h8_ty57 rfl mo2_3 (u2 rfl s5_4) (nle rfl)) (by simp only [pS, Value.cells, Nat.reduceAdd] <;> rfl)) rfl ?_
  refine ar (ro_call (evL_cons (u2 rfl up_h) (evL_cons (up_m rfl up_h) (evL_cons up_h evL_nil))) rfl (openFeed_ok ls hl p q hq cs hc f m) h8_hcf45) rfl <| ar (ro_move up_h) rfl <| ar (ro_extract up_h rfl) rfl <| ar (ro_extract (up_m rfl up_h) rfl) rfl <| al_stm (st_alloc h8_az96 rfl ml_3) trivial rfl (fun m_5 hm_5 => ?_)
  have mo3_5 := m_push hm_5 ml_3
  simp only [pS, Value.cells, Nat.reduceAdd] at mo3_5
  have mo2_5 := m_push_o hm_5 mo2_3
  have mo1_5 := m_push_o hm_5 mo1_3
  have mo0_5 := m_push_o hm_5 mo0_3
  have ml_5 := m_push_l hm_5 ml_3
  have ml_5 : _ = 4 := ml_5
  clear hm_5 mo2_3 mo1_3 mo0_3
  refine al_stm (st_store up_h (u2 rfl up_h) rfl rfl mo3_5 h8_sz96 rfl (nle rfl)) trivial rfl (fun m_6 hm_6 => ?_)
  have mo3_6 := m_set hm_6 mo3_5
  simp only [pS, Value.cells, Nat.reduceAdd] at mo3_6
  have mo2_6 := m_set_o hm_6 mo2_5 (by decide)
  have mo1_6 := m_set_o hm_6 mo1_5 (by decide)
  have mo0_6 := m_set_o hm_6 mo0_5 (by decide)
  have ml_6 := m_set_l hm_6 ml_5
  clear hm_6 mo3_5 mo2_5 mo1_5 mo0_5
  refine ar (ro_assign (up_n (up_m rfl up_h))) rfl <| ae3 (up_m rfl (up_n (u8 rfl s5_4))) (up_m rfl (up_n up_h)) up_h ?_; clear s3_4 s4_4 s5_4; intro e_7 s5_7 s8_7 s9_7
  refine then_n <| aw_seq <| aw_seq <| at_ <| ar (ro_move s9_7) rfl <| ar (ro_neq up_h ev_c) rfl <| ae4 (u2 rfl s5_7) (u2 rfl s8_7) (u2 rfl s9_7) up_h ?_; clear s5_7 s8_7 s9_7; intro e_8 s5_8 s8_8 s9_8 s18_8
  refine then_n <| aw_case s18_8 (fun hq_9 => ?_) (fun hq_9 => ?_)
  ·replace hq_9 := bnt hq_9
   (have hn : ¬ feeE ls p q cs f = 0 := (by assumption))
   refine aw_seq <| at_ <| ar (ro_move s9_8) rfl <| ar (ro_assign ev_c) rfl <| ar (ro_assign (up_m rfl up_h)) rfl <| ae2 (up_m rfl up_h) up_h ?_; clear s18_8 s5_8 s8_8 s9_8; intro e_10 s6_10 s7_10
   refine then_n <| aw_ret <| then_r <| ret2 (.inr rfl) (by kernel_rfl) (resV_tmp s6_10) (resV_tmp s7_10) (.ro _ rfl) (.ro _ rfl) ?_
   clear s6_10 s7_10 mo3_6 mo2_6 mo1_6 mo0_6 ml_6
   (rw [fatR, if_neg hn])
  replace hq_9 := bnf hq_9
  (have hz : feeE ls p q cs f = 0 := (by assumption); have hR := fee_right hz)
  refine aw_skip <| then_n <| aw_seq <| at_ <| ar (ro_eq (ro_ld_ptr h8_ty96 rfl mo3_6 s8_8 (nle rfl)) (by simp only [pS, Value.cells, Nat.reduceAdd] <;> rfl)) rfl ?_
  refine ar (ro_eq (ro_ld_ptr h8_ty57 rfl mo2_6 (up_m rfl s5_8) (nle rfl)) (by simp only [pS, Value.cells, Nat.reduceAdd] <;> rfl)) rfl ?_
  refine ar (ro_call (evL_cons (up_m rfl up_h) (evL_cons up_h evL_nil)) rfl (force_ok ls p q cs f m hR.1.2.2 hR.1.2.1 hR.2.2.2.2.1 hR.2.2.2.2.2.1 hR.2.2.2.2.2.2 ⟨hR.2.2.1, hp.2⟩ (by have := hR.2.1; omega)) h8_hcf46) rfl ?_
  refine ar (ro_assign up_h) rfl <| ar (ro_assign ev_c) rfl <| ae2 (up_m rfl up_h) up_h ?_; clear s18_8 s5_8 s8_8 s9_8; intro e_11 s6_11 s7_11
  refine then_n <| aw_ret <| ret2 (.inr rfl) (by kernel_rfl) (resV_tmp s6_11) (resV_tmp s7_11) (.ro _ rfl) (.ro _ rfl) ?_
  clear s6_11 s7_11 mo3_6 mo2_6 mo1_6 mo0_6 ml_6
  (rw [fatR, if_pos hz, hz])
end Go.Proofs.YtfmjmngkgmlghaaDoor

/- Walks: errors, ranges, searches by a function; each for all arguments. -/
namespace Go.Proofs.YtfmjmngkgmlghaaDoor
open Go Go.RowKit Go.Proofs

def unlessE_ (b : Bool) (e : Int) : Int := if b then 0 else e
def firstE_ : List Int → Int
  | [] => 0
  | e :: l => if e = 0 then firstE_ l else e
theorem ret_int {x y : Int} (h : x = y) : Ending.returned (.int .i64 x) = Ending.returned (.int .i64 y) := by rw [h]
theorem ret_bool {x y : Bool} (h : x = y) : Ending.returned (.bool x) = Ending.returned (.bool y) := by rw [h]
def withinB_ (n lo hi : Int) : Bool := decide (lo ≤ n) && decide (n ≤ hi)
def ints (l : List Int) : List Value := l.map (Value.int .i64)

theorem ints_get {l : List Int} {k : Nat} (h : k < l.length) : (ints l)[k]? = some (.int .i64 l[k]) := by simp [ints, h]
theorem unless_any (b : Bool) (e : Int) (w : World) :
    Calls Tryd.prog 28 #[.bool b, .int .i64 e] w fun r w' => r = .returned (.int .i64 (unlessE_ b e)) ∧ w = w' := by
  cases b <;>
  · go_enter Tryd.func28, Tryd.ntmps28
    go_wp2
    go_ret
    exact ⟨rfl, rfl⟩

theorem within_any (n lo hi : Int) (w : World) :
    Calls Tryd.prog 73 #[.int .i64 n, .int .i64 lo, .int .i64 hi] w fun e w' => e = .returned (.bool (withinB_ n lo hi)) ∧ w = w' := by
  by_cases h1 : lo ≤ n <;> by_cases h2 : n ≤ hi <;>
  · go_enter Tryd.func73, Tryd.ntmps73
    go_wp2
    go_ret
    simp [withinB_, h1, h2]

set_option maxHeartbeats 400000 in
theorem first_any (l : List Int) (a : Option Addr) (n c : Nat) (w : World) (hl : l.length = n) (hn : n ≤ 1000) (hr : Rd w 1 a n (ints l)) :
    Calls Tryd.prog 27 #[.slice a n c] w fun e w' => e = .returned (.int .i64 (firstE_ l)) ∧ w = w' := by
  have HL := Lib.hid hl
  clear hl
  go_enter Tryd.func27, Tryd.ntmps27
  go_wp2
  go_loop [7] (fun i => ∃ k : Nat, k ≤ n ∧ i = .int .i64 k ∧ Hid (firstE_ l = firstE_ (l.drop k))) (fun i => n - (intOf i).toNat)
  case atStart => exact ⟨0, Nat.zero_le _, rfl, rfl⟩
  case round =>
    obtain ⟨k, hk, rfl, hd⟩ := hrel
    by_cases hlt : k < n
    · obtain ⟨b, o, rfl, hrow⟩ := hr.2 (by omega)
      have hkl : k < l.length := by rw [HL.out]; exact hlt
      have hc := hrow.at (ints_get hkl)
      have hs : Hid (firstE_ (l.drop k) = if l[k] = 0 then firstE_ (l.drop (k + 1)) else l[k]) := by
        show _ = _
        rw [List.drop_eq_getElem_cons hkl]; rfl
      by_cases hz : l[k] = 0
      · have hz' : (l[k] != 0) = false := by simp [hz]
        have HZ := Lib.hid hz
        clear hz
        go_wp2
        go_round
        case rel => exact ⟨k + 1, by omega, by go_num, by show _ = _; rw [hd.out, hs.out, if_pos HZ.out]⟩
        case measure => simp [intOf]; omega
      · have hz' : (l[k] != 0) = true := by simp [hz]
        go_wp2
        go_ret
        exact ⟨ret_int (by rw [hd.out, hs.out, if_neg hz]), rfl⟩
    · go_wp2
      go_ret
      exact ⟨ret_int (by rw [hd.out, List.drop_eq_nil_of_le (by rw [HL.out]; omega)]; rfl), rfl⟩

/-! ### searches -/
abbrev T2 := Int × Int
def cells2 : List T2 → List Value
  | [] => []
  | x :: l => .int .i64 x.1 :: .int .i64 x.2 :: cells2 l
theorem cells2_length : ∀ l, (cells2 l).length = l.length * 2
  | [] => rfl
  | x :: l => by simp [cells2, cells2_length l, Nat.add_mul]
theorem cells2_get0 : ∀ {l : List T2} {k : Nat} (h : k < l.length), (cells2 l)[k * 2]? = some (.int .i64 l[k].1)
  | [], _, h => by simp at h
  | x :: l, 0, _ => rfl
  | x :: l, k + 1, h => by
    have := cells2_get0 (l := l) (k := k) (by simpa using h)
    simpa [cells2, Nat.add_mul] using this
theorem cells2_get1 : ∀ {l : List T2} {k : Nat} (h : k < l.length), (cells2 l)[k * 2 + 1]? = some (.int .i64 l[k].2)
  | [], _, h => by simp at h
  | x :: l, 0, _ => rfl
  | x :: l, k + 1, h => by
    have := cells2_get1 (l := l) (k := k) (by simpa using h)
    simpa [cells2, Nat.add_mul] using this
/-- A vector as a value. -/
abbrev tV_ (x : T2) : Value := .agg #[.int .i64 x.1, .int .i64 x.2]

/-- The place of the first one that is so, from k on. -/
def idx {α : Type} (p : α → Bool) : List α → Nat → Int
  | [], _ => -1
  | x :: l, k => if p x then (k : Int) else idx p l (k + 1)

set_option maxHeartbeats 400000 in
theorem index2_any (g : Nat) (caps : Array Value) (hcf : ∀ (args : Array Value) (w : World), (callFunc g args).run Tryd.prog w = .ok (.enter g args) w) (p : T2 → Bool) (l : List T2) (a : Option Addr) (n c : Nat) (w : World)
    (hl : l.length = n) (hn : n ≤ 1000) (hr : Rd w 2 a n (cells2 l))
    (hg : ∀ w', Ext w w' → ∀ x ∈ l, Calls Tryd.prog g (#[tV_ x] ++ caps) w' fun e w'' => e = .returned (.bool (p x)) ∧ Ext w' w'') :
    Calls Tryd.prog 85 #[.slice a n c, .func (.func g) #[] caps] w fun e w' => e = .returned (.int .i64 (idx p l 0)) ∧ Ext w w' := by
  have HL := Lib.hid hl
  have HG := Lib.hid hg
  clear hl hg
  go_enter Tryd.func85, Tryd.ntmps85
  go_wp2
  go_loopw [8] (fun i wr => ∃ k : Nat, k ≤ n ∧ i = .int .i64 k ∧ Hid (idx p l 0 = idx p (l.drop k) k) ∧ Ext w wr) (fun i _ => n - (intOf i).toNat)
  case atStart => exact ⟨0, Nat.zero_le _, rfl, rfl, Ext.refl w⟩
  case round =>
    obtain ⟨k, hk, rfl, hd, hx⟩ := hrel
    by_cases hlt : k < n
    · obtain ⟨b, o, rfl, hrow⟩ := (hr.ext hx).2 (by omega)
      have hkl : k < l.length := by rw [HL.out]; exact hlt
      have hc0 := hrow.at (cells2_get0 hkl)
      have hc1 := hrow.at' (cells2_get1 hkl)
      have hs : Hid (idx p (l.drop k) k = if p l[k] then (k : Int) else idx p (l.drop (k + 1)) (k + 1)) := by
        show _ = _
        rw [List.drop_eq_getElem_cons hkl]; rfl
      have hga := Lib.hid (HG.out wr hx l[k] (List.getElem_mem hkl))
      by_cases hpk : p l[k] = true
      · have HP := Lib.hid hpk
        clear hpk
        go_wp2_with fail
        refine hga.out.mono ?_
        rintro e w1 ⟨rfl, hx1⟩
        rw [HP.out]
        go_wp2
        go_ret
        exact ⟨ret_int (by rw [hd.out, hs.out, if_pos HP.out]), hx.trans hx1⟩
      · have HP := Lib.hid (Bool.eq_false_iff.2 hpk)
        clear hpk
        go_wp2_with fail
        refine hga.out.mono ?_
        rintro e w1 ⟨rfl, hx1⟩
        rw [HP.out]
        go_wp2
        go_roundw
        case rel => exact ⟨k + 1, by omega, by go_num, by show _ = _; rw [hd.out, hs.out, HP.out]; rfl, hx.trans hx1⟩
        case measure => simp [intOf]; omega
    · go_wp2
      go_ret
      exact ⟨ret_int (by rw [hd.out, List.drop_eq_nil_of_le (by rw [HL.out]; omega)]; rfl), hx⟩
end Go.Proofs.YtfmjmngkgmlghaaDoor

/- Walks: the arithmetic of vectors and the small functions of errors; each for all arguments, with Go's wrapped sums. -/
namespace Go.Proofs.YtfmjmngkgmlghaaDoor
open Go Go.RowKit Go.Proofs
set_option linter.unusedSimpArgs false
set_option linter.unusedVariables false

/-! ### what they compute, with Go's wrapped sums -/
def addW (v o : T2) : T2 := (wrap64 (v.1 + o.1), wrap64 (v.2 + o.2))
def subW (v o : T2) : T2 := (wrap64 (v.1 - o.1), wrap64 (v.2 - o.2))
def byW (v : T2) (n : Int) : T2 := (wrap64 (n * v.1), wrap64 (n * v.2))
def normW (v : T2) : Int := wrap64 (wrap64 (wrap64 (v.1 * v.1) - wrap64 (v.1 * v.2)) + wrap64 (v.2 * v.2))
def smallB_ (n most : Int) : Bool := withinB_ n (wrap64 (-most)) most
def rightB (v : T2) : Bool := smallB_ v.1 100000 && smallB_ v.2 100000

set_option maxRecDepth 100000 in
set_option maxHeartbeats 1000000 in
theorem plus_any (v o : T2) (w : World) : Calls Tryd.prog 48 #[tV_ v, tV_ o] w fun e w' => e = .returned (tV_ (addW v o)) ∧ Ext w w' := by
  go_enter Tryd.func48, Tryd.ntmps48
  go_wp2
  exact bodyPost_ret (v := tV_ (addW v o)) (by simp [results, Tryd.results48, go_sem, addW]) rfl ⟨rfl, by ((repeat' (first | with_reducible exact Ext.refl _ | with_reducible assumption | with_reducible exact Ext.one _ | with_reducible refine Ext.alloc ?_ _ | with_reducible refine Ext.setCell ?_ ?_ _ | with_reducible refine Ext.drew ?_ | ((with_reducible apply Ext.after'); (with_reducible assumption)))) <;> (try simp) <;> omega)⟩

set_option maxRecDepth 100000 in
set_option maxHeartbeats 1000000 in
theorem less_any (v o : T2) (w : World) : Calls Tryd.prog 77 #[tV_ v, tV_ o] w fun e w' => e = .returned (tV_ (subW v o)) ∧ Ext w w' := by
  go_enter Tryd.func77, Tryd.ntmps77
  go_wp2
  exact bodyPost_ret (v := tV_ (subW v o)) (by simp [results, Tryd.results77, go_sem, subW]) rfl ⟨rfl, by ((repeat' (first | with_reducible exact Ext.refl _ | with_reducible assumption | with_reducible exact Ext.one _ | with_reducible refine Ext.alloc ?_ _ | with_reducible refine Ext.setCell ?_ ?_ _ | with_reducible refine Ext.drew ?_ | ((with_reducible apply Ext.after'); (with_reducible assumption)))) <;> (try simp) <;> omega)⟩

set_option maxRecDepth 100000 in
set_option maxHeartbeats 1000000 in
theorem by_any (v : T2) (n : Int) (w : World) : Calls Tryd.prog 78 #[tV_ v, .int .i64 n] w fun e w' => e = .returned (tV_ (byW v n)) ∧ Ext w w' := by
  go_enter Tryd.func78, Tryd.ntmps78
  go_wp2
  exact bodyPost_ret (v := tV_ (byW v n)) (by simp [results, Tryd.results78, go_sem, byW]) rfl ⟨rfl, by ((repeat' (first | with_reducible exact Ext.refl _ | with_reducible assumption | with_reducible exact Ext.one _ | with_reducible refine Ext.alloc ?_ _ | with_reducible refine Ext.setCell ?_ ?_ _ | with_reducible refine Ext.drew ?_ | ((with_reducible apply Ext.after'); (with_reducible assumption)))) <;> (try simp) <;> omega)⟩

set_option maxRecDepth 100000 in
set_option maxHeartbeats 1000000 in
theorem square_any (v : T2) (w : World) : Calls Tryd.prog 79 #[tV_ v] w fun e w' => e = .returned (.int .i64 (normW v)) ∧ Ext w w' := by
  go_enter Tryd.func79, Tryd.ntmps79
  go_wp2
  go_ret
  exact ⟨rfl, by ((repeat' (first | with_reducible exact Ext.refl _ | with_reducible assumption | with_reducible exact Ext.one _ | with_reducible refine Ext.alloc ?_ _ | with_reducible refine Ext.setCell ?_ ?_ _ | with_reducible refine Ext.drew ?_ | ((with_reducible apply Ext.after'); (with_reducible assumption)))) <;> (try simp) <;> omega)⟩

end Go.Proofs.YtfmjmngkgmlghaaDoor

/- Walks: the errors of numbers, vectors, lists of them; the forces of the reference. -/
namespace Go.Proofs.YtfmjmngkgmlghaaDoor
open Go Go.RowKit Go.Proofs
set_option linter.unusedSimpArgs false
set_option linter.unusedVariables false

set_option maxRecDepth 100000 in
set_option maxHeartbeats 1000000 in
theorem small_any (n m : Int) (w : World) : Calls Tryd.prog 43 #[.int .i64 n, .int .i64 m] w fun e w' => e = .returned (.bool (smallB_ n m)) ∧ w = w' := by
  go_enter Tryd.func43, Tryd.ntmps43
  go_wp2_with (first | (go_at_call 73; refine (within_any _ _ _ _).mono ?_; rintro e wz ⟨rfl, rfl⟩))
  go_ret
  exact ⟨rfl, rfl⟩
set_option maxRecDepth 100000 in
set_option maxHeartbeats 1000000 in
theorem right1_any (v : T2) (w : World) : Calls Tryd.prog 55 #[tV_ v] w fun e w' => e = .returned (.bool (!rightB v)) ∧ Ext w w' := by
  unfold rightB
  by_cases h1 : smallB_ v.1 100000 = true
  · go_enter Tryd.func55, Tryd.ntmps55
    go_wp2_with (first | (go_at_call 43; refine (small_any _ _ _).mono ?_; rintro e wz ⟨rfl, rfl⟩))
    go_ret
    exact ⟨ret_bool (by simp [h1]), by ((repeat' (first | with_reducible exact Ext.refl _ | with_reducible assumption | with_reducible exact Ext.one _ | with_reducible refine Ext.alloc ?_ _ | with_reducible refine Ext.setCell ?_ ?_ _ | with_reducible refine Ext.drew ?_ | ((with_reducible apply Ext.after'); (with_reducible assumption)))) <;> (try simp) <;> omega)⟩
  · replace h1 := Bool.eq_false_iff.2 h1
    go_enter Tryd.func55, Tryd.ntmps55
    go_wp2_with (first | (go_at_call 43; refine (small_any _ _ _).mono ?_; rintro e wz ⟨rfl, rfl⟩))
    go_ret
    exact ⟨ret_bool (by simp [h1]), by ((repeat' (first | with_reducible exact Ext.refl _ | with_reducible assumption | with_reducible exact Ext.one _ | with_reducible refine Ext.alloc ?_ _ | with_reducible refine Ext.setCell ?_ ?_ _ | with_reducible refine Ext.drew ?_ | ((with_reducible apply Ext.after'); (with_reducible assumption)))) <;> (try simp) <;> omega)⟩
end Go.Proofs.YtfmjmngkgmlghaaDoor

/- Walks: searches and errors of lists, tracks. -/
namespace Go.Proofs.YtfmjmngkgmlghaaDoor
open Go Go.RowKit Go.Proofs
set_option linter.unusedSimpArgs false
set_option linter.unusedVariables false

theorem hcf (g : Nat) (h : ∀ (args : Array Value) (w : World), (callFunc g args).run Tryd.prog w = .ok (.enter g args) w) : ∀ (args : Array Value) (w : World), (callFunc g args).run Tryd.prog w = .ok (.enter g args) w := h

theorem idx_any {α : Type} (p : α → Bool) : ∀ (l : List α) (k : Nat), decide (0 ≤ idx p l k) = l.any p
  | [], _ => rfl
  | x :: l, k => by
    simp only [idx, List.any_cons]
    split
    · rename_i h; rw [h]; simp
    · rename_i h; rw [idx_any p l (k + 1)]; simp [h]

set_option maxRecDepth 100000 in
set_option maxHeartbeats 1000000 in
theorem contains2_any (g : Nat) (caps : Array Value) (hcf : ∀ (args : Array Value) (w : World), (callFunc g args).run Tryd.prog w = .ok (.enter g args) w) (p : T2 → Bool) (l : List T2) (a : Option Addr) (n c : Nat) (w : World)
    (hl : l.length = n) (hn : n ≤ 1000) (hr : Rd w 2 a n (cells2 l))
    (hg : ∀ w', Ext w w' → ∀ x ∈ l, Calls Tryd.prog g (#[tV_ x] ++ caps) w' fun e w'' => e = .returned (.bool (p x)) ∧ Ext w' w'') :
    Calls Tryd.prog 54 #[.slice a n c, .func (.func g) #[] caps] w fun e w' => e = .returned (.bool (l.any p)) ∧ Ext w w' := by
  have h := Lib.hid (index2_any g caps hcf p l a n c w hl hn hr hg)
  clear hcf hg hr hl hn
  go_enter Tryd.func54, Tryd.ntmps54
  go_wp2_with fail
  refine h.out.mono ?_
  rintro e w1 ⟨rfl, hx1⟩
  go_wp2
  go_ret
  exact ⟨ret_bool (idx_any p l 0), hx1⟩

theorem not_any {α : Type} (p : α → Bool) (l : List α) : (!(l.any fun x => !p x)) = l.all p := by
  induction l with
  | nil => rfl
  | cons x l ih => simp [List.any_cons, List.all_cons, ← ih]

set_option maxRecDepth 100000 in
set_option maxHeartbeats 1000000 in
theorem right_any (l : List T2) (a : Option Addr) (n c : Nat) (w : World) (hl : l.length = n) (hn : n ≤ 1000) (hr : Rd w 2 a n (cells2 l)) :
    Calls Tryd.prog 29 #[.slice a n c] w fun e w' => e = .returned (.int .i64 (unlessE_ (l.all rightB) 2)) ∧ Ext w w' := by
  have h := Lib.hid (contains2_any 55 #[] (fun _ _ => by kernel_rfl) (fun v => !rightB v) l a n c w hl hn hr (fun w' _ x _ => right1_any x w'))
  clear hr hl hn
  go_enter Tryd.func29, Tryd.ntmps29
  go_wp2_with (first | (go_at_call 54; refine h.out.mono ?_; rintro e w1 ⟨rfl, hx1⟩) | (first | (go_at_call 28; refine (unless_any _ _ _).mono ?_; rintro e wz ⟨rfl, rfl⟩)))
  go_ret
  exact ⟨ret_int (by rw [not_any]), hx1⟩

end Go.Proofs.YtfmjmngkgmlghaaDoor

