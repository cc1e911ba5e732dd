/- Texts of this claim, one behind the other: lemmas for the statement. -/
import Derived.Test.YtjhcfpdgldpicaaGreatDoorT0
import Derived.Test.YtjhcfpdgldpicaaGreatDoorM8
import Derived.Test.YtjhcfpdgldpicaaGreatDoorA44
import Derived.Test.YtjhcfpdgldpicaaGreatDoorM6
set_option linter.unusedSimpArgs false
set_option linter.unusedVariables false
namespace Go.Proofs.YtjhcfpdgldpicaaGreatDoor
open Go Go.RowKit Go.Proofs Go.Shelf Go.Lib
theorem z23_hcf100 : ∀ args w, (callFunc 100 args).run Tryz.prog w = .ok (.enter 100 args) w := fun _ _ => by kernel_rfl
theorem z23_hcf151 : ∀ args w, (callFunc 151 args).run Tryz.prog w = .ok (.enter 151 args) w := fun _ _ => by kernel_rfl
theorem z23_hcf152 : ∀ args w, (callFunc 152 args).run Tryz.prog w = .ok (.enter 152 args) w := fun _ _ => by kernel_rfl
theorem z23_ty3 : TyIs Tryz.prog 3 false 1 := ⟨by kernel_rfl, by kernel_rfl⟩
theorem z23_ty4 : TyIs Tryz.prog 4 false 1 := ⟨by kernel_rfl, by kernel_rfl⟩
def okW (w : List UInt8) (below : Bool) : Bool := numK w 11 && (below || decide (0 ≤ numN w))
def okN (l : List UInt8) (s : Scn) (below : Bool) : Bool := okW (nxtW l s.a) below
def numV (l : List UInt8) (s : Scn) (n0 : Int) : Int := if nxtW l s.a = [] then n0 else numN (nxtW l s.a)
def wrdS (l : List UInt8) (s : Scn) (w : List UInt8) : Scn := takS l s (nxtW l s.a == w) 7
def stpS (l : List UInt8) (s : Scn) : Scn := if nxtW l s.a = [] then pekS l s else failS (pekS l s) (posW l s.a + 1) 7
def wTrack : List UInt8 := [116, 114, 97, 99, 107]
def wPiece : List UInt8 := [112, 105, 101, 99, 101]
def wLeave : List UInt8 := [108, 101, 97, 118, 101]
section
variable (es er : Value) (hes : isE es) (her : isE er)
include hes her
set_option maxRecDepth 100000 in
set_option maxHeartbeats 4000000 in
theorem isNum_ok (tx : ByteArray) (hl : tx.size ≤ 1000000) (below : Bool) (n0 : Int) : FnMu Tryz.prog (gX es er) 151 [.v (.string tx), .ptr 1 0, .ptr 2 0] [.box 4 [bA below], .box 3 [iA n0]] (bA (okW tx.data.toList below)) [.box 4 [bA below], .box 3 [iA (numN tx.data.toList)]] := by
 refine fnMu_of (fn := Tryz.f151) (gX es er) 13 (by kernel_rfl) rfl (by kernel_rfl) (Nat.le_of_ble_eq_true rfl) ?_
 intro e_0 m_0 hA hm_0
 have s0_0 : evA e_0 (.tmp 0) = _ := hA 0 _ rfl
 have s1_0 : evA e_0 (.tmp 1) = _ := hA 1 _ rfl
 have s2_0 : evA e_0 (.tmp 2) = _ := hA 2 _ rfl
 have ml_0 : m_0.length = 3 := by rw [hm_0]; rfl
 have mo0_0 := m_in0 hm_0
 have mo1_0 := m_in1 hm_0
 have mo2_0 := m_in2 hm_0
 clear hA hm_0
 refine aw_seq <| at_ <| ar (ro_assign ev_c) rfl <| ae3 (up_m rfl s0_0) (up_m rfl s1_0) (up_m rfl s2_0) ?_; clear s0_0 s1_0 s2_0; intro e_1 s0_1 s1_1 s2_1
 refine then_n <| aw_seq <| at_ <| ar (ro_assign ev_c) rfl <| ae3 (up_m rfl s0_1) (up_m rfl s1_1) (up_m rfl s2_1) ?_; clear s0_1 s1_1 s2_1; intro e_2 s0_2 s1_2 s2_2
 refine then_n <| aw_seq <| at_ <| ar (ro_move s0_2) rfl <| ar (ro_eq (ro_ld_ptr z23_ty4 rfl mo1_0 (up_m rfl s1_2) (nle rfl)) (by simp only [pS, Value.cells, Nat.reduceAdd] <;> rfl)) rfl ?_
 refine ar (ro_callG (evL_cons (up_m rfl up_h) (evL_cons up_h evL_nil)) rfl mo0_0 (kNumber_ok es er hes her tx hl below) z23_hcf152) rfl <| ar (ro_move up_h) rfl <| ar (ro_extract up_h rfl) rfl <| ar (ro_extract (up_m rfl up_h) rfl) rfl <| al_stm (st_store (u2 rfl (u4 rfl s2_2)) (up_m rfl up_h) rfl rfl mo2_0 qsz3 rfl (nle rfl)) trivial rfl (fun m_3 hm_3 => ?_)
 have mo2_3 := m_set hm_3 mo2_0
 simp only [pS, Value.cells, Nat.reduceAdd] at mo2_3
 have mo0_3 := m_set_o hm_3 mo0_0 (by decide)
 have mo1_3 := m_set_o hm_3 mo1_0 (by decide)
 have ml_3 := m_set_l hm_3 ml_0
 clear hm_3 mo0_0 mo1_0 mo2_0
 refine ar (ro_assign (up_n up_h)) rfl <| ae1 up_h ?_; clear s0_2 s1_2 s2_2; intro e_4 s5_4
 refine then_n <| aw_seq <| at_ <| ar (ro_move s5_4) rfl <| ar (ro_assign up_h) rfl <| ae1 up_h ?_; clear s5_4; intro e_5 s4_5
 refine then_n <| aw_ret <| muQ_eq (.inr rfl) [1, 2] ml_3 mo0_3 (by decide) rfl (resM1 (by kernel_rfl) (resV_tmp s4_5)) (emb_ob mo1_3 ?_ (emb_ob mo2_3 ?_ .nil)) ?_
 all_goals (first | rfl | (simp; done) | (simp_all; done) | omega)
variable (l : List UInt8) (s : Scn) (hl : l.length ≤ 1000000) (ha : s.a ≤ l.length)
include hl ha
set_option maxRecDepth 100000 in
set_option maxHeartbeats 4000000 in
theorem take_num (below : Bool) (n0 : Int) : FnMu Tryz.prog (gX es er) 100 [.ptr 1 0, .clo (.func 151) [] [.ptr 2 0, .ptr 3 0], iA 7] [.box 99 (scnA l s), .box 4 [bA below], .box 3 [iA n0]] (.v (.string (bs (nxtW l s.a)))) [.box 99 (scnA l (takS l s (okN l s below) 7)), .box 4 [bA below], .box 3 [iA (numV l s n0)]] := by
 have h1 := rstW_len l s.a
 have h2 := nxtW_len l s.a
 have h3 := posW_le l s.a
 have hz : (bs (nxtW l s.a)).size = (nxtW l s.a).length := rfl
 have hp : (pekS l s).a = posW l s.a := rfl
 have f1 : (failS (pekS l s) (pekS l s).en 6).a = posW l s.a := fail_a _ _ _
 have f2 : (failS (pekS l s) ((pekS l s).a + 1) 7).a = posW l s.a := fail_a _ _ _
 refine fnMu_of (fn := Tryz.f100) (gX es er) 50 (by kernel_rfl) rfl (by kernel_rfl) (Nat.le_of_ble_eq_true rfl) ?_
 intro e_0 m_0 hA hm_0
 have s0_0 : evA e_0 (.tmp 0) = _ := hA 0 _ rfl
 have s1_0 : evA e_0 (.tmp 1) = _ := hA 1 _ rfl
 have s2_0 : evA e_0 (.tmp 2) = _ := hA 2 _ rfl
 have ml_0 : m_0.length = 4 := by rw [hm_0]; rfl
 have mo0_0 := m_in0 hm_0
 have mo1_0 := m_in1 hm_0
 have mo2_0 := m_in2 hm_0
 have mo3_0 := m_in3 hm_0
 clear hA hm_0
 refine aw_seq <| at_ <| ar (ro_assign ev_c) rfl <| ae3 (up_m rfl s0_0) (up_m rfl s1_0) (up_m rfl s2_0) ?_; clear s0_0 s1_0 s2_0; intro e_1 s0_1 s1_1 s2_1
 refine then_n <| aw_seq <| at_ <| ar (ro_move s0_1) rfl <| al_stm (st_muE (st_mu' (peek_ok l s hl ha) [1] ml_0 (evL_cons up_h evL_nil) (by first | exact .nil | exact .refl mo0_0 | exact .at_ mo0_0 (by simp [*])) (by decide) (.ob mo1_0 .nil) rfl qhcf42) (rn_ro rfl)) trivial rfl (fun m_2 hm_2 => ?_)
 have mo1_2 : m_2[1]? = some _ := m_ups_t hm_2 (Nat.le_of_ble_eq_true rfl) (by decide) (lt_cons mo1_0 lt_nil) 0 rfl rfl
 (try simp only [Ob.rn, rn, rn.rnL, rho, List.length_cons, List.length_nil, List.getElem?_cons_zero, List.getElem?_cons_succ, List.getElem?_nil, Nat.reduceAdd, Nat.reduceSub, Nat.add_zero, Nat.sub_self, scnA] at mo1_2)
 have mo0_2 := m_ups_o hm_2 (Nat.le_of_ble_eq_true rfl) mo0_0 (by decide)
 have mo2_2 := m_ups_o hm_2 (Nat.le_of_ble_eq_true rfl) mo2_0 (by decide)
 have mo3_2 := m_ups_o hm_2 (Nat.le_of_ble_eq_true rfl) mo3_0 (by decide)
 have ml_2 : _ = 4 := m_ups_l hm_2 ml_0 0 rfl
 clear hm_2 mo0_0 mo1_0 mo2_0 mo3_0 ml_0
 refine ar (ro_assign up_h) rfl <| ae4 (up_m rfl (u2 rfl s0_1)) (up_m rfl (u2 rfl s1_1)) (up_m rfl (u2 rfl s2_1)) up_h ?_; clear s0_1 s1_1 s2_1; intro e_3 s0_3 s1_3 s2_3 s7_3
 refine then_n <| aw_seq <| aw_block <| aw_seq <| at_ <| ar (ro_move s7_3) rfl <| ar (ro_seql up_h ev_c) rfl <| ar (ro_assign up_h) rfl <| ae5 (up_m rfl (u2 rfl s0_3)) (up_m rfl (u2 rfl s1_3)) (up_m rfl (u2 rfl s2_3)) (up_m rfl (u2 rfl s7_3)) up_h ?_; clear s0_3 s1_3 s2_3 s7_3; intro e_4 s0_4 s1_4 s2_4 s7_4 s10_4
 refine then_n <| aw_case s10_4 (fun hq_5 => ?_) (fun hq_5 => ?_)
 ·skip
  refine at_ <| ar (ro_move s0_4) rfl <| ar (ro_move (up_m rfl s0_4)) rfl <| ar (ro_nilP up_h) rfl <| ar (ro_fld_ptr qfl99_3 rfl up_h) rfl <| ar (ro_eq (ro_ld_ptr z23_ty3 rfl mo1_2 up_h (nle rfl)) (by simp only [pS, Value.cells, Nat.reduceAdd, scnA] <;> rfl)) rfl ?_
  refine al_stm (st_muE (st_mu' (fail_ok l (pekS l s) hl (pekS l s).en 6) [1] ml_2 (evL_cons (u4 rfl up_h) (evL_cons up_h (evL_cons ev_c evL_nil))) (by first | exact .nil | exact .refl mo0_2 | exact .at_ mo0_2 (by simp [*])) (by decide) (.ob mo1_2 .nil) rfl qhcf147) (rn_ro rfl)) trivial rfl (fun m_6 hm_6 => ?_)
  have mo1_6 : m_6[1]? = some _ := m_ups_t hm_6 (Nat.le_of_ble_eq_true rfl) (by decide) (lt_cons mo1_2 lt_nil) 0 rfl rfl
  (try simp only [Ob.rn, rn, rn.rnL, rho, List.length_cons, List.length_nil, List.getElem?_cons_zero, List.getElem?_cons_succ, List.getElem?_nil, Nat.reduceAdd, Nat.reduceSub, Nat.add_zero, Nat.sub_self, scnA] at mo1_6)
  have mo0_6 := m_ups_o hm_6 (Nat.le_of_ble_eq_true rfl) mo0_2 (by decide)
  have mo2_6 := m_ups_o hm_6 (Nat.le_of_ble_eq_true rfl) mo2_2 (by decide)
  have mo3_6 := m_ups_o hm_6 (Nat.le_of_ble_eq_true rfl) mo3_2 (by decide)
  have ml_6 : _ = 4 := m_ups_l hm_6 ml_2 0 rfl
  clear hm_6 mo1_2 mo0_2 mo2_2 mo3_2 ml_2
  refine ae2 (u2 rfl (u4 rfl s0_4)) (u2 rfl (u4 rfl s7_4)) ?_; clear s0_4 s10_4 s1_4 s2_4 s7_4; intro e_7 s0_7 s7_7
  refine block_n <| then_n <| aw_seq <| at_ <| ar (ro_move s0_7) rfl <| ar (ro_nilP up_h) rfl <| ar (ro_fld_ptr qfl99_1 rfl up_h) rfl <| ar (ro_eq (ro_ld_ptr z23_ty3 rfl mo1_6 up_h (nle rfl)) (by simp only [pS, Value.cells, Nat.reduceAdd, scnA] <;> rfl)) rfl ?_
  refine ar (ro_move (u4 rfl s7_7)) rfl <| ar (ro_len_str up_h rfl qun9) rfl ?_
  (refine ar (ro_add' (u2 rfl up_h) up_h ?_) rfl ?_; · (unfold In64; omega))
  refine ar (ro_nilP (u2 rfl (u4 rfl up_h))) rfl <| ar (ro_fld_ptr qfl99_1 rfl up_h) rfl <| al_stm (st_store up_h (u2 rfl up_h) rfl rfl mo1_6 qsz3 rfl (nle rfl)) trivial rfl (fun m_8 hm_8 => ?_)
  have mo1_8 := m_set hm_8 mo1_6
  simp only [pS, Value.cells, Nat.reduceAdd, scnA] at mo1_8
  have mo0_8 := m_set_o hm_8 mo0_6 (by decide)
  have mo2_8 := m_set_o hm_8 mo2_6 (by decide)
  have mo3_8 := m_set_o hm_8 mo3_6 (by decide)
  have ml_8 := m_set_l hm_8 ml_6
  clear hm_8 mo1_6 mo0_6 mo2_6 mo3_6
  refine ae2 (up_n (up_m rfl (u8 rfl s0_7))) (up_n (up_m rfl (u8 rfl s7_7))) ?_; clear s0_7 s7_7; intro e_9 s0_9 s7_9
  refine then_n <| aw_seq <| at_ <| ar (ro_move s0_9) rfl <| ar (ro_move (up_m rfl s0_9)) rfl <| ar (ro_nilP up_h) rfl <| ar (ro_fld_ptr qfl99_1 rfl up_h) rfl <| ar (ro_eq (ro_ld_ptr z23_ty3 rfl mo1_8 up_h (nle rfl)) (by simp only [pS, Value.cells, Nat.reduceAdd, scnA] <;> rfl)) rfl ?_
  (refine ar (ro_add' up_h ev_c ?_) rfl ?_; · (unfold In64; omega))
  refine ar (ro_nilP (up_m rfl (u4 rfl up_h))) rfl <| ar (ro_fld_ptr qfl99_3 rfl up_h) rfl <| al_stm (st_store up_h (u2 rfl up_h) rfl rfl mo1_8 qsz3 rfl (nle rfl)) trivial rfl (fun m_10 hm_10 => ?_)
  have mo1_10 := m_set hm_10 mo1_8
  simp only [pS, Value.cells, Nat.reduceAdd, scnA] at mo1_10
  have mo0_10 := m_set_o hm_10 mo0_8 (by decide)
  have mo2_10 := m_set_o hm_10 mo2_8 (by decide)
  have mo3_10 := m_set_o hm_10 mo3_8 (by decide)
  have ml_10 := m_set_l hm_10 ml_8
  clear hm_10 mo1_8 mo0_8 mo2_8 mo3_8
  refine ae1 (up_n (u8 rfl s7_9)) ?_; clear s0_9 s7_9; intro e_11 s7_11
  refine then_n <| aw_seq <| at_ <| ar (ro_move s7_11) rfl <| ar (ro_assign up_h) rfl <| ae1 up_h ?_; clear s7_11; intro e_12 s6_12
  refine then_n <| aw_ret <| muQ_eq (.inr rfl) [1, 2, 3] ml_10 mo0_10 (by decide) rfl (resM1 (by kernel_rfl) (resV_tmp s6_12)) (emb_ob mo1_10 ?_ (emb_ob mo2_10 ?_ (emb_ob mo3_10 ?_ .nil))) ?_
  all_goals (first | rfl | (simp_all [takS, scnA, bs_toList, okN, numV, bs_list]; done) | (simp_all [takS, scnA, bs_toList, okN, numV, bs_list]; rfl))
 refine aw_seq <| at_ <| ar (ro_move s1_4) rfl <| ar (ro_move (up_m rfl s7_4)) rfl <| al_stm (st_muE (st_muv (l := []) (k := [.ptr 1 0, .ptr 2 0]) (args := [.v (.string (bs (nxtW l s.a)))]) (up_m rfl up_h) (isNum_ok es er hes her (bs (nxtW l s.a)) (by rw [hz]; omega) below n0) [2, 3] ml_2 (evL_cons up_h evL_nil) (by first | exact .nil | exact .refl mo0_2 | exact .at_ mo0_2 (by simp [*])) (by decide) (.ob mo2_2 (.ob mo3_2 .nil)) rfl rfl rfl z23_hcf151) (rn_ro rfl)) trivial rfl (fun m_13 hm_13 => ?_)
 have mo2_13 : m_13[2]? = some _ := m_ups_t hm_13 (Nat.le_of_ble_eq_true rfl) (by decide) (lt_cons mo2_2 (lt_cons mo3_2 lt_nil)) 0 rfl rfl
 (try simp only [Ob.rn, rn, rn.rnL, rho, List.length_cons, List.length_nil, List.getElem?_cons_zero, List.getElem?_cons_succ, List.getElem?_nil, Nat.reduceAdd, Nat.reduceSub, Nat.add_zero, Nat.sub_self, scnA] at mo2_13)
 have mo3_13 : m_13[3]? = some _ := m_ups_t hm_13 (Nat.le_of_ble_eq_true rfl) (by decide) (lt_cons mo2_2 (lt_cons mo3_2 lt_nil)) 1 rfl rfl
 (try simp only [Ob.rn, rn, rn.rnL, rho, List.length_cons, List.length_nil, List.getElem?_cons_zero, List.getElem?_cons_succ, List.getElem?_nil, Nat.reduceAdd, Nat.reduceSub, Nat.add_zero, Nat.sub_self, scnA] at mo3_13)
 have mo1_13 := m_ups_o hm_13 (Nat.le_of_ble_eq_true rfl) mo1_2 (by decide)
 have mo0_13 := m_ups_o hm_13 (Nat.le_of_ble_eq_true rfl) mo0_2 (by decide)
 have ml_13 : _ = 4 := m_ups_l hm_13 ml_2 0 rfl
 clear hm_13 mo1_2 mo0_2 mo2_2 mo3_2 ml_2
 refine ar (ro_not up_h) rfl <| ar (ro_assign up_h) rfl <| ae4 (up_m rfl (u4 rfl s0_4)) (up_m rfl (u4 rfl s2_4)) (up_m rfl (u4 rfl s7_4)) up_h ?_; clear s0_4 s10_4 s1_4 s2_4 s7_4; intro e_14 s0_14 s2_14 s7_14 s19_14
 refine then_n <| aw_case s19_14 (fun hq_15 => ?_) (fun hq_15 => ?_)
 ·replace hq_15 := bt' hq_15
  refine at_ <| ar (ro_move s0_14) rfl <| ar (ro_move (up_m rfl s0_14)) rfl <| ar (ro_nilP up_h) rfl <| ar (ro_fld_ptr qfl99_1 rfl up_h) rfl <| ar (ro_eq (ro_ld_ptr z23_ty3 rfl mo1_13 up_h (nle rfl)) (by simp only [pS, Value.cells, Nat.reduceAdd, scnA] <;> rfl)) rfl ?_
  (refine ar (ro_add' up_h ev_c ?_) rfl ?_; · (unfold In64; omega))
  refine ar (ro_move (u2 rfl (u4 rfl s2_14))) rfl <| al_stm (st_muE (st_mu' (fail_ok l (pekS l s) hl ((pekS l s).a + 1) 7) [1] ml_13 (evL_cons (u2 rfl (u4 rfl up_h)) (evL_cons (up_m rfl up_h) (evL_cons up_h evL_nil))) (by first | exact .nil | exact .refl mo0_13 | exact .at_ mo0_13 (by simp [*])) (by decide) (.ob mo1_13 .nil) rfl qhcf147) (rn_ro rfl)) trivial rfl (fun m_16 hm_16 => ?_)
  have mo1_16 : m_16[1]? = some _ := m_ups_t hm_16 (Nat.le_of_ble_eq_true rfl) (by decide) (lt_cons mo1_13 lt_nil) 0 rfl rfl
  (try simp only [Ob.rn, rn, rn.rnL, rho, List.length_cons, List.length_nil, List.getElem?_cons_zero, List.getElem?_cons_succ, List.getElem?_nil, Nat.reduceAdd, Nat.reduceSub, Nat.add_zero, Nat.sub_self, scnA] at mo1_16)
  have mo2_16 := m_ups_o hm_16 (Nat.le_of_ble_eq_true rfl) mo2_13 (by decide)
  have mo3_16 := m_ups_o hm_16 (Nat.le_of_ble_eq_true rfl) mo3_13 (by decide)
  have mo0_16 := m_ups_o hm_16 (Nat.le_of_ble_eq_true rfl) mo0_13 (by decide)
  have ml_16 : _ = 4 := m_ups_l hm_16 ml_13 0 rfl
  clear hm_16 mo2_13 mo3_13 mo1_13 mo0_13 ml_13
  refine ae2 (u8 rfl s0_14) (u8 rfl s7_14) ?_; clear s0_14 s19_14 s2_14 s7_14; intro e_17 s0_17 s7_17
  refine block_n <| then_n <| aw_seq <| at_ <| ar (ro_move s0_17) rfl <| ar (ro_nilP up_h) rfl <| ar (ro_fld_ptr qfl99_1 rfl up_h) rfl <| ar (ro_eq (ro_ld_ptr z23_ty3 rfl mo1_16 up_h (nle rfl)) (by simp only [pS, Value.cells, Nat.reduceAdd, scnA] <;> rfl)) rfl ?_
  refine ar (ro_move (u4 rfl s7_17)) rfl <| ar (ro_len_str up_h rfl qun9) rfl ?_
  (refine ar (ro_add' (u2 rfl up_h) up_h ?_) rfl ?_; · (unfold In64; omega))
  refine ar (ro_nilP (u2 rfl (u4 rfl up_h))) rfl <| ar (ro_fld_ptr qfl99_1 rfl up_h) rfl <| al_stm (st_store up_h (u2 rfl up_h) rfl rfl mo1_16 qsz3 rfl (nle rfl)) trivial rfl (fun m_18 hm_18 => ?_)
  have mo1_18 := m_set hm_18 mo1_16
  simp only [pS, Value.cells, Nat.reduceAdd, scnA] at mo1_18
  have mo2_18 := m_set_o hm_18 mo2_16 (by decide)
  have mo3_18 := m_set_o hm_18 mo3_16 (by decide)
  have mo0_18 := m_set_o hm_18 mo0_16 (by decide)
  have ml_18 := m_set_l hm_18 ml_16
  clear hm_18 mo1_16 mo2_16 mo3_16 mo0_16
  refine ae2 (up_n (up_m rfl (u8 rfl s0_17))) (up_n (up_m rfl (u8 rfl s7_17))) ?_; clear s0_17 s7_17; intro e_19 s0_19 s7_19
  refine then_n <| aw_seq <| at_ <| ar (ro_move s0_19) rfl <| ar (ro_move (up_m rfl s0_19)) rfl <| ar (ro_nilP up_h) rfl <| ar (ro_fld_ptr qfl99_1 rfl up_h) rfl <| ar (ro_eq (ro_ld_ptr z23_ty3 rfl mo1_18 up_h (nle rfl)) (by simp only [pS, Value.cells, Nat.reduceAdd, scnA] <;> rfl)) rfl ?_
  (refine ar (ro_add' up_h ev_c ?_) rfl ?_; · (unfold In64; omega))
  refine ar (ro_nilP (up_m rfl (u4 rfl up_h))) rfl <| ar (ro_fld_ptr qfl99_3 rfl up_h) rfl <| al_stm (st_store up_h (u2 rfl up_h) rfl rfl mo1_18 qsz3 rfl (nle rfl)) trivial rfl (fun m_20 hm_20 => ?_)
  have mo1_20 := m_set hm_20 mo1_18
  simp only [pS, Value.cells, Nat.reduceAdd, scnA] at mo1_20
  have mo2_20 := m_set_o hm_20 mo2_18 (by decide)
  have mo3_20 := m_set_o hm_20 mo3_18 (by decide)
  have mo0_20 := m_set_o hm_20 mo0_18 (by decide)
  have ml_20 := m_set_l hm_20 ml_18
  clear hm_20 mo1_18 mo2_18 mo3_18 mo0_18
  refine ae1 (up_n (u8 rfl s7_19)) ?_; clear s0_19 s7_19; intro e_21 s7_21
  refine then_n <| aw_seq <| at_ <| ar (ro_move s7_21) rfl <| ar (ro_assign up_h) rfl <| ae1 up_h ?_; clear s7_21; intro e_22 s6_22
  refine then_n <| aw_ret <| muQ_eq (.inr rfl) [1, 2, 3] ml_20 mo0_20 (by decide) rfl (resM1 (by kernel_rfl) (resV_tmp s6_22)) (emb_ob mo1_20 ?_ (emb_ob mo2_20 ?_ (emb_ob mo3_20 ?_ .nil))) ?_
  all_goals (first | rfl | (simp_all [takS, scnA, bs_toList, okN, numV, bs_list]; done) | (simp_all [takS, scnA, bs_toList, okN, numV, bs_list]; rfl))
 replace hq_15 := bf' hq_15
 refine aw_skip <| block_n <| then_n <| aw_seq <| at_ <| ar (ro_move s0_14) rfl <| ar (ro_nilP up_h) rfl <| ar (ro_fld_ptr qfl99_1 rfl up_h) rfl <| ar (ro_eq (ro_ld_ptr z23_ty3 rfl mo1_13 up_h (nle rfl)) (by simp only [pS, Value.cells, Nat.reduceAdd, scnA] <;> rfl)) rfl ?_
 refine ar (ro_move (u4 rfl s7_14)) rfl <| ar (ro_len_str up_h rfl qun9) rfl ?_
 (refine ar (ro_add' (u2 rfl up_h) up_h ?_) rfl ?_; · (unfold In64; omega))
 refine ar (ro_nilP (u2 rfl (u4 rfl up_h))) rfl <| ar (ro_fld_ptr qfl99_1 rfl up_h) rfl <| al_stm (st_store up_h (u2 rfl up_h) rfl rfl mo1_13 qsz3 rfl (nle rfl)) trivial rfl (fun m_23 hm_23 => ?_)
 have mo1_23 := m_set hm_23 mo1_13
 simp only [pS, Value.cells, Nat.reduceAdd, scnA] at mo1_23
 have mo2_23 := m_set_o hm_23 mo2_13 (by decide)
 have mo3_23 := m_set_o hm_23 mo3_13 (by decide)
 have mo0_23 := m_set_o hm_23 mo0_13 (by decide)
 have ml_23 := m_set_l hm_23 ml_13
 clear hm_23 mo2_13 mo3_13 mo1_13 mo0_13
 refine ae2 (up_n (up_m rfl (u8 rfl s0_14))) (up_n (up_m rfl (u8 rfl s7_14))) ?_; clear s0_14 s19_14 s2_14 s7_14; intro e_24 s0_24 s7_24
 refine then_n <| aw_seq <| at_ <| ar (ro_move s0_24) rfl <| ar (ro_move (up_m rfl s0_24)) rfl <| ar (ro_nilP up_h) rfl <| ar (ro_fld_ptr qfl99_1 rfl up_h) rfl <| ar (ro_eq (ro_ld_ptr z23_ty3 rfl mo1_23 up_h (nle rfl)) (by simp only [pS, Value.cells, Nat.reduceAdd, scnA] <;> rfl)) rfl ?_
 (refine ar (ro_add' up_h ev_c ?_) rfl ?_; · (unfold In64; omega))
 refine ar (ro_nilP (up_m rfl (u4 rfl up_h))) rfl <| ar (ro_fld_ptr qfl99_3 rfl up_h) rfl <| al_stm (st_store up_h (u2 rfl up_h) rfl rfl mo1_23 qsz3 rfl (nle rfl)) trivial rfl (fun m_25 hm_25 => ?_)
 have mo1_25 := m_set hm_25 mo1_23
 simp only [pS, Value.cells, Nat.reduceAdd, scnA] at mo1_25
 have mo2_25 := m_set_o hm_25 mo2_23 (by decide)
 have mo3_25 := m_set_o hm_25 mo3_23 (by decide)
 have mo0_25 := m_set_o hm_25 mo0_23 (by decide)
 have ml_25 := m_set_l hm_25 ml_23
 clear hm_25 mo1_23 mo2_23 mo3_23 mo0_23
 refine ae1 (up_n (u8 rfl s7_24)) ?_; clear s0_24 s7_24; intro e_26 s7_26
 refine then_n <| aw_seq <| at_ <| ar (ro_move s7_26) rfl <| ar (ro_assign up_h) rfl <| ae1 up_h ?_; clear s7_26; intro e_27 s6_27
 refine then_n <| aw_ret <| muQ_eq (.inr rfl) [1, 2, 3] ml_25 mo0_25 (by decide) rfl (resM1 (by kernel_rfl) (resV_tmp s6_27)) (emb_ob mo1_25 ?_ (emb_ob mo2_25 ?_ (emb_ob mo3_25 ?_ .nil))) ?_
 all_goals (first | rfl | (simp_all [takS, scnA, bs_toList, okN, numV, bs_list]; done) | (simp_all [takS, scnA, bs_toList, okN, numV, bs_list]; rfl))
set_option maxRecDepth 100000 in
set_option maxHeartbeats 4000000 in
theorem sNumber_ok (below : Bool) : FnMu Tryz.prog (gX es er) 109 [.ptr 1 0, bA below] [.box 99 (scnA l s)] (iA (numV l s 0)) [.box 99 (scnA l (takS l s (okN l s below) 7))] := by
 refine fnMu_of (fn := Tryz.f109) (gX es er) 10 (by kernel_rfl) rfl (by kernel_rfl) (Nat.le_of_ble_eq_true rfl) ?_
 intro e_0 m_0 hA hm_0
 have s0_0 : evA e_0 (.tmp 0) = _ := hA 0 _ rfl
 have s1_0 : evA e_0 (.tmp 1) = _ := hA 1 _ rfl
 have ml_0 : m_0.length = 2 := by rw [hm_0]; rfl
 have mo0_0 := m_in0 hm_0
 have mo1_0 := m_in1 hm_0
 clear hA hm_0
 refine aw_seq <| at_ <| al_stm (st_box s1_0 rfl ml_0) trivial rfl (fun m_1 hm_1 => ?_)
 have mo2_1 := m_push hm_1 ml_0
 have mo0_1 := m_push_o hm_1 mo0_0
 have mo1_1 := m_push_o hm_1 mo1_0
 have ml_1 := m_push_l hm_1 ml_0
 have ml_1 : _ = 3 := ml_1
 clear hm_1 mo0_0 mo1_0
 refine ar (ro_assign ev_c) rfl <| ae2 (u2 rfl s0_0) (up_m rfl up_h) ?_; clear s0_0 s1_0; intro e_2 s0_2 s3_2
 refine then_n <| aw_seq <| at_ <| al_stm (st_alloc qaz3 rfl ml_1) trivial rfl (fun m_3 hm_3 => ?_)
 have mo3_3 := m_push hm_3 ml_1
 simp only [pS, Value.cells, Nat.reduceAdd, scnA] at mo3_3
 have mo2_3 := m_push_o hm_3 mo2_1
 have mo0_3 := m_push_o hm_3 mo0_1
 have mo1_3 := m_push_o hm_3 mo1_1
 have ml_3 := m_push_l hm_3 ml_1
 have ml_3 : _ = 4 := ml_3
 clear hm_3 mo2_1 mo0_1 mo1_1
 refine al_stm (st_store up_h ev_c rfl rfl mo3_3 qsz3 rfl (nle rfl)) trivial rfl (fun m_4 hm_4 => ?_)
 have mo3_4 := m_set hm_4 mo3_3
 simp only [pS, Value.cells, Nat.reduceAdd, scnA] at mo3_4
 have mo2_4 := m_set_o hm_4 mo2_3 (by decide)
 have mo0_4 := m_set_o hm_4 mo0_3 (by decide)
 have mo1_4 := m_set_o hm_4 mo1_3 (by decide)
 have ml_4 := m_set_l hm_4 ml_3
 clear hm_4 mo3_3 mo2_3 mo0_3 mo1_3
 refine ae3 (up_n (up_m rfl s0_2)) (up_n (up_m rfl s3_2)) (up_n up_h) ?_; clear s0_2 s3_2; intro e_5 s0_5 s3_5 s5_5
 refine then_n <| aw_seq <| at_ <| ar (ro_move s0_5) rfl <| ar (ro_makeFunc evL_nil (evL_cons (up_m rfl s3_5) (evL_cons (up_m rfl s5_5) evL_nil))) rfl <| al_stm (st_muE (st_mu' (take_num es er hes her l s hl ha below 0) [1, 2, 3] ml_4 (evL_cons (up_m rfl up_h) (evL_cons up_h (evL_cons ev_c evL_nil))) (by first | exact .nil | exact .refl mo0_4 | exact .at_ mo0_4 (by simp [*])) (by decide) (.ob mo1_4 (.ob mo2_4 (.ob mo3_4 .nil))) rfl z23_hcf100) (rn_ro rfl)) trivial rfl (fun m_6 hm_6 => ?_)
 have mo1_6 : m_6[1]? = some _ := m_ups_t hm_6 (Nat.le_of_ble_eq_true rfl) (by decide) (lt_cons mo1_4 (lt_cons mo2_4 (lt_cons mo3_4 lt_nil))) 0 rfl rfl
 (try simp only [Ob.rn, rn, rn.rnL, rho, List.length_cons, List.length_nil, List.getElem?_cons_zero, List.getElem?_cons_succ, List.getElem?_nil, Nat.reduceAdd, Nat.reduceSub, Nat.add_zero, Nat.sub_self, scnA] at mo1_6)
 have mo2_6 : m_6[2]? = some _ := m_ups_t hm_6 (Nat.le_of_ble_eq_true rfl) (by decide) (lt_cons mo1_4 (lt_cons mo2_4 (lt_cons mo3_4 lt_nil))) 1 rfl rfl
 (try simp only [Ob.rn, rn, rn.rnL, rho, List.length_cons, List.length_nil, List.getElem?_cons_zero, List.getElem?_cons_succ, List.getElem?_nil, Nat.reduceAdd, Nat.reduceSub, Nat.add_zero, Nat.sub_self, scnA] at mo2_6)
 have mo3_6 : m_6[3]? = some _ := m_ups_t hm_6 (Nat.le_of_ble_eq_true rfl) (by decide) (lt_cons mo1_4 (lt_cons mo2_4 (lt_cons mo3_4 lt_nil))) 2 rfl rfl
 (try simp only [Ob.rn, rn, rn.rnL, rho, List.length_cons, List.length_nil, List.getElem?_cons_zero, List.getElem?_cons_succ, List.getElem?_nil, Nat.reduceAdd, Nat.reduceSub, Nat.add_zero, Nat.sub_self, scnA] at mo3_6)
 have mo0_6 := m_ups_o hm_6 (Nat.le_of_ble_eq_true rfl) mo0_4 (by decide)
 have ml_6 : _ = 4 := m_ups_l hm_6 ml_4 0 rfl
 clear hm_6 mo3_4 mo2_4 mo0_4 mo1_4 ml_4
 refine ae1 (up_m rfl (u2 rfl s5_5)) ?_; clear s0_5 s3_5 s5_5; intro e_7 s5_7
 refine then_n <| aw_seq <| at_ <| ar (ro_eq (ro_ld_ptr z23_ty3 rfl mo3_6 s5_7 (nle rfl)) (by simp only [pS, Value.cells, Nat.reduceAdd, scnA] <;> rfl)) rfl ?_
 refine ar (ro_assign up_h) rfl <| ae1 up_h ?_; clear s5_7; intro e_8 s4_8
 refine then_n <| aw_ret <| muQ_eq (.inr rfl) [1] ml_6 mo0_6 (by decide) rfl (resM1 (by kernel_rfl) (resV_tmp s4_8)) (emb_ob mo1_6 ?_ .nil) ?_
 all_goals (first | rfl | (simp; done) | (simp_all; done) | omega)
omit hes her
set_option maxRecDepth 100000 in
set_option maxHeartbeats 4000000 in
theorem sWord_ok (w : List UInt8) : FnMu Tryz.prog (gX es er) 99 [.ptr 1 0, .v (.string (bs w))] [.box 99 (scnA l s)] (.tuple []) [.box 99 (scnA l (wrdS l s w))] := by
 have ht := take_word l s hl ha (bs w)
 rw [bs_toList] at ht
 refine fnMu_of (fn := Tryz.f99) (gX es er) 7 (by kernel_rfl) rfl (by kernel_rfl) (Nat.le_of_ble_eq_true rfl) ?_
 intro e_0 m_0 hA hm_0
 have s0_0 : evA e_0 (.tmp 0) = _ := hA 0 _ rfl
 have s1_0 : evA e_0 (.tmp 1) = _ := hA 1 _ rfl
 have ml_0 : m_0.length = 2 := by rw [hm_0]; rfl
 have mo0_0 := m_in0 hm_0
 have mo1_0 := m_in1 hm_0
 clear hA hm_0
 refine aw_seq <| at_ <| al_stm (st_box s1_0 rfl ml_0) trivial rfl (fun m_1 hm_1 => ?_)
 have mo2_1 := m_push hm_1 ml_0
 (first | (simp only [pS, Value.cells, Nat.reduceAdd, scnA] at mo2_1; trace "W4.N.1.1") | skip)
 have mo0_1 := m_push_o hm_1 mo0_0
 have mo1_1 := m_push_o hm_1 mo1_0
 have ml_1 := m_push_l hm_1 ml_0
 have ml_1 : _ = 3 := ml_1
 clear hm_1 mo0_0 mo1_0
 refine ae2 (up_m rfl s0_0) up_h ?_; clear s0_0 s1_0; intro e_2 s0_2 s3_2
 refine then_n <| at_ <| ar (ro_move s0_2) rfl <| ar (ro_makeFunc evL_nil (evL_cons (up_m rfl s3_2) evL_nil)) rfl <| al_stm (st_muE (st_mu' (ht) [1, 2] ml_1 (evL_cons (up_m rfl up_h) (evL_cons up_h (evL_cons ev_c evL_nil))) (by first | exact .nil | exact .refl mo0_1 | exact .at_ mo0_1 (by simp [*])) (by decide) (.ob mo1_1 (.ob mo2_1 .nil)) rfl z23_hcf100) (rn_ro rfl)) trivial rfl (fun m_3 hm_3 => ?_)
 have mo1_3 : m_3[1]? = some _ := m_ups_t hm_3 (Nat.le_of_ble_eq_true rfl) (by decide) (lt_cons mo1_1 (lt_cons mo2_1 lt_nil)) 0 rfl rfl
 (try simp only [Ob.rn, rn, rn.rnL, rho, List.length_cons, List.length_nil, List.getElem?_cons_zero, List.getElem?_cons_succ, List.getElem?_nil, Nat.reduceAdd, Nat.reduceSub, Nat.add_zero, Nat.sub_self, scnA] at mo1_3)
 (first | (simp only [pS, Value.cells, Nat.reduceAdd, scnA] at mo1_3; trace "W4.N.2.1") | skip)
 have mo2_3 : m_3[2]? = some _ := m_ups_t hm_3 (Nat.le_of_ble_eq_true rfl) (by decide) (lt_cons mo1_1 (lt_cons mo2_1 lt_nil)) 1 rfl rfl
 (try simp only [Ob.rn, rn, rn.rnL, rho, List.length_cons, List.length_nil, List.getElem?_cons_zero, List.getElem?_cons_succ, List.getElem?_nil, Nat.reduceAdd, Nat.reduceSub, Nat.add_zero, Nat.sub_self, scnA] at mo2_3)
 (first | (simp only [pS, Value.cells, Nat.reduceAdd, scnA] at mo2_3; trace "W4.N.3.1") | skip)
 have mo0_3 := m_ups_o hm_3 (Nat.le_of_ble_eq_true rfl) mo0_1 (by decide)
 have ml_3 : _ = 3 := m_ups_l hm_3 ml_1 0 rfl
 clear hm_3 mo2_1 mo0_1 mo1_1 ml_1
 refine ae0 ?_; clear s0_2 s3_2; intro e_4
 refine muQ_eq (.inl rfl) [1] ml_3 mo0_3 (by decide) rfl (resM0 (by kernel_rfl)) (emb_ob mo1_3 ?_ .nil) ?_
 all_goals (first | rfl | (simp; done) | (simp_all; done) | omega)
set_option maxRecDepth 100000 in
set_option maxHeartbeats 4000000 in
theorem sStop_ok : FnMu Tryz.prog (gX es er) 102 [.ptr 1 0] [.box 99 (scnA l s)] (.tuple []) [.box 99 (scnA l (stpS l s))] := by
 have h3 := posW_le l s.a
 have hp : (pekS l s).a = posW l s.a := rfl
 refine fnMu_of (fn := Tryz.f102) (gX es er) 12 (by kernel_rfl) rfl (by kernel_rfl) (Nat.le_of_ble_eq_true rfl) ?_
 intro e_0 m_0 hA hm_0
 have s0_0 : evA e_0 (.tmp 0) = _ := hA 0 _ rfl
 have ml_0 : m_0.length = 2 := by rw [hm_0]; rfl
 have mo0_0 := m_in0 hm_0
 have mo1_0 := m_in1 hm_0
 clear hA hm_0
 refine aw_seq <| at_ <| ar (ro_move s0_0) rfl <| al_stm (st_muE (st_mu' (peek_ok l s hl ha) [1] ml_0 (evL_cons up_h evL_nil) (by first | exact .nil | exact .refl mo0_0 | exact .at_ mo0_0 (by simp [*])) (by decide) (.ob mo1_0 .nil) rfl qhcf42) (rn_ro rfl)) trivial rfl (fun m_1 hm_1 => ?_)
 have mo1_1 : m_1[1]? = some _ := m_ups_t hm_1 (Nat.le_of_ble_eq_true rfl) (by decide) (lt_cons mo1_0 lt_nil) 0 rfl rfl
 (try simp only [Ob.rn, rn, rn.rnL, rho, List.length_cons, List.length_nil, List.getElem?_cons_zero, List.getElem?_cons_succ, List.getElem?_nil, Nat.reduceAdd, Nat.reduceSub, Nat.add_zero, Nat.sub_self, scnA] at mo1_1)
 have mo0_1 := m_ups_o hm_1 (Nat.le_of_ble_eq_true rfl) mo0_0 (by decide)
 have ml_1 : _ = 2 := m_ups_l hm_1 ml_0 0 rfl
 clear hm_1 mo0_0 mo1_0 ml_0
 refine ar (ro_sneq up_h ev_c) rfl <| ae2 (up_m rfl (u2 rfl s0_0)) up_h ?_; clear s0_0; intro e_2 s0_2 s4_2
 refine then_n <| aw_case s4_2 (fun hq_3 => ?_) (fun hq_3 => ?_)
 ·replace hq_3 := bt' hq_3
  refine at_ <| ar (ro_move s0_2) rfl <| ar (ro_move (up_m rfl s0_2)) rfl <| ar (ro_nilP up_h) rfl <| ar (ro_fld_ptr qfl99_1 rfl up_h) rfl <| ar (ro_eq (ro_ld_ptr z23_ty3 rfl mo1_1 up_h (nle rfl)) (by simp only [pS, Value.cells, Nat.reduceAdd, scnA] <;> rfl)) rfl ?_
  (refine ar (ro_add' up_h ev_c ?_) rfl ?_; · (unfold In64; omega))
  refine al_stm (st_muE (st_mu' (fail_ok l (pekS l s) hl ((pekS l s).a + 1) 7) [1] ml_1 (evL_cons (up_m rfl (u4 rfl up_h)) (evL_cons up_h (evL_cons ev_c evL_nil))) (by first | exact .nil | exact .refl mo0_1 | exact .at_ mo0_1 (by simp [*])) (by decide) (.ob mo1_1 .nil) rfl qhcf147) (rn_ro rfl)) trivial rfl (fun m_4 hm_4 => ?_)
  have mo1_4 : m_4[1]? = some _ := m_ups_t hm_4 (Nat.le_of_ble_eq_true rfl) (by decide) (lt_cons mo1_1 lt_nil) 0 rfl rfl
  (try simp only [Ob.rn, rn, rn.rnL, rho, List.length_cons, List.length_nil, List.getElem?_cons_zero, List.getElem?_cons_succ, List.getElem?_nil, Nat.reduceAdd, Nat.reduceSub, Nat.add_zero, Nat.sub_self, scnA] at mo1_4)
  have mo0_4 := m_ups_o hm_4 (Nat.le_of_ble_eq_true rfl) mo0_1 (by decide)
  have ml_4 : _ = 2 := m_ups_l hm_4 ml_1 0 rfl
  clear hm_4 mo1_1 mo0_1 ml_1
  refine ae0 ?_; clear s0_2 s4_2; intro e_5
  refine muQ_eq (.inl rfl) [1] ml_4 mo0_4 (by decide) rfl (resM0 (by kernel_rfl)) (emb_ob mo1_4 ?_ .nil) ?_
  all_goals (first | rfl | (simp_all [stpS, scnA, bs_toList]; done) | (simp_all [stpS, scnA, bs_toList]; rfl))
 replace hq_3 := bf' hq_3
 refine aw_skip <| muQ_eq (.inl rfl) [1] ml_1 mo0_1 (by decide) rfl (resM0 (by kernel_rfl)) (emb_ob mo1_1 ?_ .nil) ?_
 all_goals (first | rfl | (simp_all [stpS, scnA, bs_toList]; done) | (simp_all [stpS, scnA, bs_toList]; rfl))
def hdS (l : List UInt8) (s : Scn) : Scn :=
 let s1 := wrdS l s wTrack
 stpS l (takS l s1 (isNameB (bs (nxtW l s1.a))) 4)
def hdN (l : List UInt8) (s : Scn) : List UInt8 := nxtW l (wrdS l s wTrack).a
set_option maxRecDepth 100000 in
set_option maxHeartbeats 4000000 in
theorem head_ok (nm : ByteArray) (els : List (List AV)) : FnMu Tryz.prog (gX es er) 39 [.ptr 1 0, .ptr 2 0] [.box 99 (scnA l s), .box 24 [.v (.string nm), .own 3], .row 111 4 els] (.tuple []) [.box 99 (scnA l (hdS l s)), .box 24 [.v (.string (bs (hdN l s))), .own 3], .row 111 4 els] := by
 have h1 := tak_le l s (nxtW l s.a == wTrack) 7
 have h2 := tak_le l (wrdS l s wTrack) (isNameB (bs (nxtW l (wrdS l s wTrack).a))) 4
 refine fnMu_of (fn := Tryz.f39) (gX es er) 13 (by kernel_rfl) rfl (by kernel_rfl) (Nat.le_of_ble_eq_true rfl) ?_
 intro e_0 m_0 hA hm_0
 have s0_0 : evA e_0 (.tmp 0) = _ := hA 0 _ rfl
 have s1_0 : evA e_0 (.tmp 1) = _ := hA 1 _ rfl
 have ml_0 : m_0.length = 4 := by rw [hm_0]; rfl
 have mo0_0 := m_in0 hm_0
 have mo1_0 := m_in1 hm_0
 have mo2_0 := m_in2 hm_0
 have mo3_0 := m_in3 hm_0
 clear hA hm_0
 refine aw_seq <| at_ <| ar (ro_move s0_0) rfl <| al_stm (st_muE (st_mu' (sWord_ok es er l s hl ha wTrack) [1] ml_0 (evL_cons up_h (evL_cons ev_c evL_nil)) (by first | exact .nil | exact .refl mo0_0 | exact .at_ mo0_0 (by simp [*])) (by decide) (.ob mo1_0 .nil) rfl qhcf99) (rn_ro rfl)) trivial rfl (fun m_1 hm_1 => ?_)
 have mo1_1 : m_1[1]? = some _ := m_ups_t hm_1 (Nat.le_of_ble_eq_true rfl) (by decide) (lt_cons mo1_0 lt_nil) 0 rfl rfl
 (try simp only [Ob.rn, rn, rn.rnL, rho, List.length_cons, List.length_nil, List.getElem?_cons_zero, List.getElem?_cons_succ, List.getElem?_nil, Nat.reduceAdd, Nat.reduceSub, Nat.add_zero, Nat.sub_self, scnA] at mo1_1)
 have mo0_1 := m_ups_o hm_1 (Nat.le_of_ble_eq_true rfl) mo0_0 (by decide)
 have mo2_1 := m_ups_o hm_1 (Nat.le_of_ble_eq_true rfl) mo2_0 (by decide)
 have mo3_1 := m_ups_o hm_1 (Nat.le_of_ble_eq_true rfl) mo3_0 (by decide)
 have ml_1 : _ = 4 := m_ups_l hm_1 ml_0 0 rfl
 clear hm_1 mo0_0 mo1_0 mo2_0 mo3_0 ml_0
 refine ae2 (u2 rfl s0_0) (u2 rfl s1_0) ?_; clear s0_0 s1_0; intro e_2 s0_2 s1_2
 refine then_n <| aw_seq <| at_ <| ar (ro_move s1_2) rfl <| ar (ro_move (up_m rfl s0_2)) rfl <| al_stm (st_muE (st_mu' (take_name l (wrdS l s wTrack) hl h1) [1] ml_1 (evL_cons up_h (evL_cons ev_f (evL_cons ev_c evL_nil))) (by first | exact .nil | exact .refl mo0_1 | exact .at_ mo0_1 (by simp [*])) (by decide) (.ob mo1_1 .nil) rfl z23_hcf100) (rn_ro rfl)) trivial rfl (fun m_3 hm_3 => ?_)
 have mo1_3 : m_3[1]? = some _ := m_ups_t hm_3 (Nat.le_of_ble_eq_true rfl) (by decide) (lt_cons mo1_1 lt_nil) 0 rfl rfl
 (try simp only [Ob.rn, rn, rn.rnL, rho, List.length_cons, List.length_nil, List.getElem?_cons_zero, List.getElem?_cons_succ, List.getElem?_nil, Nat.reduceAdd, Nat.reduceSub, Nat.add_zero, Nat.sub_self, scnA] at mo1_3)
 have mo0_3 := m_ups_o hm_3 (Nat.le_of_ble_eq_true rfl) mo0_1 (by decide)
 have mo2_3 := m_ups_o hm_3 (Nat.le_of_ble_eq_true rfl) mo2_1 (by decide)
 have mo3_3 := m_ups_o hm_3 (Nat.le_of_ble_eq_true rfl) mo3_1 (by decide)
 have ml_3 : _ = 4 := m_ups_l hm_3 ml_1 0 rfl
 clear hm_3 mo1_1 mo0_1 mo2_1 mo3_1 ml_1
 refine ar (ro_nilP (u2 rfl up_h)) rfl <| ar (ro_fld_ptr qfl24_0 rfl up_h) rfl <| al_stm (st_store up_h (u2 rfl up_h) rfl rfl mo2_3 qsz9 rfl (nle rfl)) trivial rfl (fun m_4 hm_4 => ?_)
 have mo2_4 := m_set hm_4 mo2_3
 simp only [pS, Value.cells, Nat.reduceAdd, scnA] at mo2_4
 have mo1_4 := m_set_o hm_4 mo1_3 (by decide)
 have mo0_4 := m_set_o hm_4 mo0_3 (by decide)
 have mo3_4 := m_set_o hm_4 mo3_3 (by decide)
 have ml_4 := m_set_l hm_4 ml_3
 clear hm_4 mo1_3 mo0_3 mo2_3 mo3_3
 refine ae1 (up_n (up_m rfl (u4 rfl s0_2))) ?_; clear s0_2 s1_2; intro e_5 s0_5
 refine then_n <| at_ <| ar (ro_move s0_5) rfl <| al_stm (st_muE (st_mu' (sStop_ok es er l (takS l (wrdS l s wTrack) (isNameB (bs (nxtW l (wrdS l s wTrack).a))) 4) hl h2) [1] ml_4 (evL_cons up_h evL_nil) (by first | exact .nil | exact .refl mo0_4 | exact .at_ mo0_4 (by simp [*])) (by decide) (.ob mo1_4 .nil) rfl qhcf102) (rn_ro rfl)) trivial rfl (fun m_6 hm_6 => ?_)
 have mo1_6 : m_6[1]? = some _ := m_ups_t hm_6 (Nat.le_of_ble_eq_true rfl) (by decide) (lt_cons mo1_4 lt_nil) 0 rfl rfl
 (try simp only [Ob.rn, rn, rn.rnL, rho, List.length_cons, List.length_nil, List.getElem?_cons_zero, List.getElem?_cons_succ, List.getElem?_nil, Nat.reduceAdd, Nat.reduceSub, Nat.add_zero, Nat.sub_self, scnA] at mo1_6)
 have mo2_6 := m_ups_o hm_6 (Nat.le_of_ble_eq_true rfl) mo2_4 (by decide)
 have mo0_6 := m_ups_o hm_6 (Nat.le_of_ble_eq_true rfl) mo0_4 (by decide)
 have mo3_6 := m_ups_o hm_6 (Nat.le_of_ble_eq_true rfl) mo3_4 (by decide)
 have ml_6 : _ = 4 := m_ups_l hm_6 ml_4 0 rfl
 clear hm_6 mo2_4 mo1_4 mo0_4 mo3_4 ml_4
 refine ae0 ?_; clear s0_5; intro e_7
 refine muQ_eq (.inl rfl) [1, 2, 3] ml_6 mo0_6 (by decide) rfl (resM0 (by kernel_rfl)) (emb_ob mo1_6 ?_ (emb_ob mo2_6 ?_ (emb_ob mo3_6 ?_ .nil))) ?_
 all_goals (first | rfl | (simp; done) | (simp_all; done) | omega)
end
end Go.Proofs.YtjhcfpdgldpicaaGreatDoor
namespace Go.Proofs.YtjhcfpdgldpicaaGreatDoor
open Go Go.RowKit Go.Proofs Go.Shelf Go.Lib
theorem z24_hcf109 : ∀ args w, (callFunc 109 args).run Tryz.prog w = .ok (.enter 109 args) w := fun _ _ => by kernel_rfl
theorem z24_sl22 : SlIs Tryz.prog 22 111 4 32 (.agg #[.int .i64 0, .int .i64 0, .int .i64 0, .bool false]) := ⟨by kernel_rfl, by kernel_rfl, by kernel_rfl⟩
theorem z24_sz4 : (Tryz.prog.info? 4).map (·.size) = some 1 := by kernel_rfl
theorem z24_ty111 : TyIs Tryz.prog 111 true 4 := ⟨by kernel_rfl, by kernel_rfl⟩
theorem z24_ty22 : TyIs Tryz.prog 22 false 1 := ⟨by kernel_rfl, by kernel_rfl⟩
theorem z24_ty4 : TyIs Tryz.prog 4 false 1 := ⟨by kernel_rfl, by kernel_rfl⟩
def p1S (l : List UInt8) (s : Scn) : Scn := wrdS l s wPiece
def p2S (l : List UInt8) (s : Scn) : Scn := takS l (p1S l s) (okN l (p1S l s) false) 7
def p3S (l : List UInt8) (s : Scn) : Scn := takS l (p2S l s) (okN l (p2S l s) true) 7
def p4S (l : List UInt8) (s : Scn) : Scn := takS l (p3S l s) (okN l (p3S l s) false) 7
def p5S (l : List UInt8) (s : Scn) : Scn := if nxtW l (p4S l s).a = [] then pekS l (p4S l s) else wrdS l (pekS l (p4S l s)) wLeave
def pcS (l : List UInt8) (s : Scn) : Scn := stpS l (p5S l s)
def pcV (l : List UInt8) (s : Scn) : Piece := ⟨numV l (p1S l s) 0, numV l (p2S l s) 0, numV l (p3S l s) 0, !(decide (nxtW l (p4S l s).a = []))⟩
section
variable (es er : Value) (hes : isE es) (her : isE er) (l : List UInt8) (s : Scn) (hl : l.length ≤ 1000000) (ha : s.a ≤ l.length)
include hes her hl ha
set_option maxRecDepth 100000 in
set_option maxHeartbeats 4000000 in
theorem piece_ok (nm : ByteArray) (ps : List Piece) (hps : ps.length ≤ 1000000) : FnMu Tryz.prog (gX es er) 43 [.ptr 1 0, .ptr 2 0] [.box 99 (scnA l s), .box 24 [.v (.string nm), .own 3], .row 111 4 (ps.map pE)] (.tuple []) [.box 99 (scnA l (pcS l s)), .box 24 [.v (.string nm), .own 4], .gone, .row 111 4 ((ps ++ [pcV l s]).map pE)] := by
 have h1 : (p1S l s).a ≤ l.length := tak_le _ _ _ _
 have h2 : (p2S l s).a ≤ l.length := tak_le _ _ _ _
 have h3 : (p3S l s).a ≤ l.length := tak_le _ _ _ _
 have h4 : (p4S l s).a ≤ l.length := tak_le _ _ _ _
 have h5 : (pekS l (p4S l s)).a ≤ l.length := by have := posW_le l (p4S l s).a; show posW l _ ≤ _; omega
 have h6 : (wrdS l (pekS l (p4S l s)) wLeave).a ≤ l.length := tak_le _ _ _ _
 have c1 := sWord_ok es er l s hl ha wPiece
 have c2 := sNumber_ok es er hes her l (p1S l s) hl h1 false
 have c3 := sNumber_ok es er hes her l (p2S l s) hl h2 true
 have c4 := sNumber_ok es er hes her l (p3S l s) hl h3 false
 have c5 := peek_ok l (p4S l s) hl h4
 have c6 := sWord_ok es er l (pekS l (p4S l s)) hl h5 wLeave
 have c7 := sStop_ok es er l (wrdS l (pekS l (p4S l s)) wLeave) hl h6
 have c8 := sStop_ok es er l (pekS l (p4S l s)) hl h5
 have e5 : p5S l s = if nxtW l (p4S l s).a = [] then pekS l (p4S l s) else wrdS l (pekS l (p4S l s)) wLeave := rfl
 have e6 : pcS l s = stpS l (p5S l s) := rfl
 have e7 : pcV l s = ⟨numV l (p1S l s) 0, numV l (p2S l s) 0, numV l (p3S l s) 0, !(decide (nxtW l (p4S l s).a = []))⟩ := rfl
 rw [show wrdS l s wPiece = p1S l s from rfl] at c1
 rw [show takS l (p1S l s) (okN l (p1S l s) false) 7 = p2S l s from rfl] at c2
 rw [show takS l (p2S l s) (okN l (p2S l s) true) 7 = p3S l s from rfl] at c3
 rw [show takS l (p3S l s) (okN l (p3S l s) false) 7 = p4S l s from rfl] at c4
 generalize pcS l s = s9 at *
 generalize pcV l s = v9 at *
 generalize hs5 : p5S l s = s5 at *
 generalize hn1 : numV l (p1S l s) 0 = n1 at *
 generalize hn2 : numV l (p2S l s) 0 = n2 at *
 generalize hn3 : numV l (p3S l s) 0 = n3 at *
 generalize hw4 : nxtW l (p4S l s).a = w4 at *
 generalize p1S l s = s1 at *
 generalize p2S l s = s2 at *
 generalize p3S l s = s3 at *
 generalize p4S l s = s4 at *
 generalize hs8 : wrdS l (pekS l s4) wLeave = s8 at *
 generalize hs7 : pekS l s4 = s7 at *
 generalize hx7 : stpS l s7 = x7 at *
 generalize hx8 : stpS l s8 = x8 at *
 refine fnMu_of (fn := Tryz.f43) (gX es er) 36 (by kernel_rfl) rfl (by kernel_rfl) (Nat.le_of_ble_eq_true rfl) ?_
 intro e_0 m_0 hA hm_0
 have s0_0 : evA e_0 (.tmp 0) = _ := hA 0 _ rfl
 have s1_0 : evA e_0 (.tmp 1) = _ := hA 1 _ rfl
 have ml_0 : m_0.length = 4 := by rw [hm_0]; rfl
 have mo0_0 := m_in0 hm_0
 have mo1_0 := m_in1 hm_0
 have mo2_0 := m_in2 hm_0
 have mo3_0 := m_in3 hm_0
 clear hA hm_0
 refine aw_seq <| at_ <| al_stm (st_alloc qaz111 rfl ml_0) trivial rfl (fun m_1 hm_1 => ?_)
 have mo4_1 := m_push hm_1 ml_0
 simp only [pS, Value.cells, Nat.reduceAdd, scnA] at mo4_1
 have mo0_1 := m_push_o hm_1 mo0_0
 have mo1_1 := m_push_o hm_1 mo1_0
 have mo2_1 := m_push_o hm_1 mo2_0
 have mo3_1 := m_push_o hm_1 mo3_0
 have ml_1 := m_push_l hm_1 ml_0
 have ml_1 : _ = 5 := ml_1
 clear hm_1 mo0_0 mo1_0 mo2_0 mo3_0
 refine ae3 (up_m rfl s0_0) (up_m rfl s1_0) up_h ?_; clear s0_0 s1_0; intro e_2 s0_2 s1_2 s4_2
 refine then_n <| aw_seq <| at_ <| ar (ro_move s0_2) rfl <| al_stm (st_muE (st_mu' (c1) [1] ml_1 (evL_cons up_h (evL_cons ev_c evL_nil)) (by first | exact .nil | exact .refl mo0_1 | exact .at_ mo0_1 (by simp [*])) (by decide) (.ob mo1_1 .nil) rfl qhcf99) (rn_ro rfl)) trivial rfl (fun m_3 hm_3 => ?_)
 have mo1_3 : m_3[1]? = some _ := m_ups_t hm_3 (Nat.le_of_ble_eq_true rfl) (by decide) (lt_cons mo1_1 lt_nil) 0 rfl rfl
 (try simp only [Ob.rn, rn, rn.rnL, rho, List.length_cons, List.length_nil, List.getElem?_cons_zero, List.getElem?_cons_succ, List.getElem?_nil, Nat.reduceAdd, Nat.reduceSub, Nat.add_zero, Nat.sub_self, scnA] at mo1_3)
 have mo4_3 := m_ups_o hm_3 (Nat.le_of_ble_eq_true rfl) mo4_1 (by decide)
 have mo0_3 := m_ups_o hm_3 (Nat.le_of_ble_eq_true rfl) mo0_1 (by decide)
 have mo2_3 := m_ups_o hm_3 (Nat.le_of_ble_eq_true rfl) mo2_1 (by decide)
 have mo3_3 := m_ups_o hm_3 (Nat.le_of_ble_eq_true rfl) mo3_1 (by decide)
 have ml_3 : _ = 5 := m_ups_l hm_3 ml_1 0 rfl
 clear hm_3 mo4_1 mo0_1 mo1_1 mo2_1 mo3_1 ml_1
 refine ae3 (u2 rfl s0_2) (u2 rfl s1_2) (u2 rfl s4_2) ?_; clear s0_2 s1_2 s4_2; intro e_4 s0_4 s1_4 s4_4
 refine then_n <| aw_seq <| at_ <| ar (ro_move s0_4) rfl <| al_stm (st_muE (st_mu' (c2) [1] ml_3 (evL_cons up_h (evL_cons ev_c evL_nil)) (by first | exact .nil | exact .refl mo0_3 | exact .at_ mo0_3 (by simp [*])) (by decide) (.ob mo1_3 .nil) rfl z24_hcf109) (rn_ro rfl)) trivial rfl (fun m_5 hm_5 => ?_)
 have mo1_5 : m_5[1]? = some _ := m_ups_t hm_5 (Nat.le_of_ble_eq_true rfl) (by decide) (lt_cons mo1_3 lt_nil) 0 rfl rfl
 (try simp only [Ob.rn, rn, rn.rnL, rho, List.length_cons, List.length_nil, List.getElem?_cons_zero, List.getElem?_cons_succ, List.getElem?_nil, Nat.reduceAdd, Nat.reduceSub, Nat.add_zero, Nat.sub_self, scnA] at mo1_5)
 have mo4_5 := m_ups_o hm_5 (Nat.le_of_ble_eq_true rfl) mo4_3 (by decide)
 have mo0_5 := m_ups_o hm_5 (Nat.le_of_ble_eq_true rfl) mo0_3 (by decide)
 have mo2_5 := m_ups_o hm_5 (Nat.le_of_ble_eq_true rfl) mo2_3 (by decide)
 have mo3_5 := m_ups_o hm_5 (Nat.le_of_ble_eq_true rfl) mo3_3 (by decide)
 have ml_5 : _ = 5 := m_ups_l hm_5 ml_3 0 rfl
 clear hm_5 mo1_3 mo4_3 mo0_3 mo2_3 mo3_3 ml_3
 refine ar (ro_fld_ptr qfl111_0 rfl (u2 rfl s4_4)) rfl <| al_stm (st_store up_h (up_m rfl up_h) rfl rfl mo4_5 qsz3 rfl (nle rfl)) trivial rfl (fun m_6 hm_6 => ?_)
 have mo4_6 := m_set hm_6 mo4_5
 simp only [pS, Value.cells, Nat.reduceAdd, scnA] at mo4_6
 have mo1_6 := m_set_o hm_6 mo1_5 (by decide)
 have mo0_6 := m_set_o hm_6 mo0_5 (by decide)
 have mo2_6 := m_set_o hm_6 mo2_5 (by decide)
 have mo3_6 := m_set_o hm_6 mo3_5 (by decide)
 have ml_6 := m_set_l hm_6 ml_5
 clear hm_6 mo1_5 mo4_5 mo0_5 mo2_5 mo3_5
 refine ae3 (up_n (up_m rfl (u2 rfl s0_4))) (up_n (up_m rfl (u2 rfl s1_4))) (up_n (up_m rfl (u2 rfl s4_4))) ?_; clear s0_4 s1_4 s4_4; intro e_7 s0_7 s1_7 s4_7
 refine then_n <| aw_seq <| at_ <| ar (ro_move s0_7) rfl <| al_stm (st_muE (st_mu' (c3) [1] ml_6 (evL_cons up_h (evL_cons ev_c evL_nil)) (by first | exact .nil | exact .refl mo0_6 | exact .at_ mo0_6 (by simp [*])) (by decide) (.ob mo1_6 .nil) rfl z24_hcf109) (rn_ro rfl)) trivial rfl (fun m_8 hm_8 => ?_)
 have mo1_8 : m_8[1]? = some _ := m_ups_t hm_8 (Nat.le_of_ble_eq_true rfl) (by decide) (lt_cons mo1_6 lt_nil) 0 rfl rfl
 (try simp only [Ob.rn, rn, rn.rnL, rho, List.length_cons, List.length_nil, List.getElem?_cons_zero, List.getElem?_cons_succ, List.getElem?_nil, Nat.reduceAdd, Nat.reduceSub, Nat.add_zero, Nat.sub_self, scnA] at mo1_8)
 have mo4_8 := m_ups_o hm_8 (Nat.le_of_ble_eq_true rfl) mo4_6 (by decide)
 have mo0_8 := m_ups_o hm_8 (Nat.le_of_ble_eq_true rfl) mo0_6 (by decide)
 have mo2_8 := m_ups_o hm_8 (Nat.le_of_ble_eq_true rfl) mo2_6 (by decide)
 have mo3_8 := m_ups_o hm_8 (Nat.le_of_ble_eq_true rfl) mo3_6 (by decide)
 have ml_8 : _ = 5 := m_ups_l hm_8 ml_6 0 rfl
 clear hm_8 mo4_6 mo1_6 mo0_6 mo2_6 mo3_6 ml_6
 refine ar (ro_fld_ptr qfl111_1 rfl (u2 rfl s4_7)) rfl <| al_stm (st_store up_h (up_m rfl up_h) rfl rfl mo4_8 qsz3 rfl (nle rfl)) trivial rfl (fun m_9 hm_9 => ?_)
 have mo4_9 := m_set hm_9 mo4_8
 simp only [pS, Value.cells, Nat.reduceAdd, scnA] at mo4_9
 have mo1_9 := m_set_o hm_9 mo1_8 (by decide)
 have mo0_9 := m_set_o hm_9 mo0_8 (by decide)
 have mo2_9 := m_set_o hm_9 mo2_8 (by decide)
 have mo3_9 := m_set_o hm_9 mo3_8 (by decide)
 have ml_9 := m_set_l hm_9 ml_8
 clear hm_9 mo1_8 mo4_8 mo0_8 mo2_8 mo3_8
 refine ae3 (up_n (up_m rfl (u2 rfl s0_7))) (up_n (up_m rfl (u2 rfl s1_7))) (up_n (up_m rfl (u2 rfl s4_7))) ?_; clear s0_7 s1_7 s4_7; intro e_10 s0_10 s1_10 s4_10
 refine then_n <| aw_seq <| at_ <| ar (ro_move s0_10) rfl <| al_stm (st_muE (st_mu' (c4) [1] ml_9 (evL_cons up_h (evL_cons ev_c evL_nil)) (by first | exact .nil | exact .refl mo0_9 | exact .at_ mo0_9 (by simp [*])) (by decide) (.ob mo1_9 .nil) rfl z24_hcf109) (rn_ro rfl)) trivial rfl (fun m_11 hm_11 => ?_)
 have mo1_11 : m_11[1]? = some _ := m_ups_t hm_11 (Nat.le_of_ble_eq_true rfl) (by decide) (lt_cons mo1_9 lt_nil) 0 rfl rfl
 (try simp only [Ob.rn, rn, rn.rnL, rho, List.length_cons, List.length_nil, List.getElem?_cons_zero, List.getElem?_cons_succ, List.getElem?_nil, Nat.reduceAdd, Nat.reduceSub, Nat.add_zero, Nat.sub_self, scnA] at mo1_11)
 have mo4_11 := m_ups_o hm_11 (Nat.le_of_ble_eq_true rfl) mo4_9 (by decide)
 have mo0_11 := m_ups_o hm_11 (Nat.le_of_ble_eq_true rfl) mo0_9 (by decide)
 have mo2_11 := m_ups_o hm_11 (Nat.le_of_ble_eq_true rfl) mo2_9 (by decide)
 have mo3_11 := m_ups_o hm_11 (Nat.le_of_ble_eq_true rfl) mo3_9 (by decide)
 have ml_11 : _ = 5 := m_ups_l hm_11 ml_9 0 rfl
 clear hm_11 mo4_9 mo1_9 mo0_9 mo2_9 mo3_9 ml_9
 refine ar (ro_fld_ptr qfl111_2 rfl (u2 rfl s4_10)) rfl <| al_stm (st_store up_h (up_m rfl up_h) rfl rfl mo4_11 qsz3 rfl (nle rfl)) trivial rfl (fun m_12 hm_12 => ?_)
 have mo4_12 := m_set hm_12 mo4_11
 simp only [pS, Value.cells, Nat.reduceAdd, scnA] at mo4_12
 have mo1_12 := m_set_o hm_12 mo1_11 (by decide)
 have mo0_12 := m_set_o hm_12 mo0_11 (by decide)
 have mo2_12 := m_set_o hm_12 mo2_11 (by decide)
 have mo3_12 := m_set_o hm_12 mo3_11 (by decide)
 have ml_12 := m_set_l hm_12 ml_11
 clear hm_12 mo1_11 mo4_11 mo0_11 mo2_11 mo3_11
 refine ae3 (up_n (up_m rfl (u2 rfl s0_10))) (up_n (up_m rfl (u2 rfl s1_10))) (up_n (up_m rfl (u2 rfl s4_10))) ?_; clear s0_10 s1_10 s4_10; intro e_13 s0_13 s1_13 s4_13
 refine then_n <| aw_seq <| aw_seq <| at_ <| ar (ro_move s0_13) rfl <| al_stm (st_muE (st_mu' (c5) [1] ml_12 (evL_cons up_h evL_nil) (by first | exact .nil | exact .refl mo0_12 | exact .at_ mo0_12 (by simp [*])) (by decide) (.ob mo1_12 .nil) rfl qhcf42) (rn_ro rfl)) trivial rfl (fun m_14 hm_14 => ?_)
 have mo1_14 : m_14[1]? = some _ := m_ups_t hm_14 (Nat.le_of_ble_eq_true rfl) (by decide) (lt_cons mo1_12 lt_nil) 0 rfl rfl
 (try simp only [Ob.rn, rn, rn.rnL, rho, List.length_cons, List.length_nil, List.getElem?_cons_zero, List.getElem?_cons_succ, List.getElem?_nil, Nat.reduceAdd, Nat.reduceSub, Nat.add_zero, Nat.sub_self, scnA] at mo1_14)
 have mo4_14 := m_ups_o hm_14 (Nat.le_of_ble_eq_true rfl) mo4_12 (by decide)
 have mo0_14 := m_ups_o hm_14 (Nat.le_of_ble_eq_true rfl) mo0_12 (by decide)
 have mo2_14 := m_ups_o hm_14 (Nat.le_of_ble_eq_true rfl) mo2_12 (by decide)
 have mo3_14 := m_ups_o hm_14 (Nat.le_of_ble_eq_true rfl) mo3_12 (by decide)
 have ml_14 : _ = 5 := m_ups_l hm_14 ml_12 0 rfl
 clear hm_14 mo4_12 mo1_12 mo0_12 mo2_12 mo3_12 ml_12
 refine ar (ro_sneq up_h ev_c) rfl <| ar (ro_fld_ptr qfl111_3 rfl (up_m rfl (u2 rfl s4_13))) rfl <| al_stm (st_store up_h (up_m rfl up_h) rfl rfl mo4_14 z24_sz4 rfl (nle rfl)) trivial rfl (fun m_15 hm_15 => ?_)
 have mo4_15 := m_set hm_15 mo4_14
 simp only [pS, Value.cells, Nat.reduceAdd, scnA] at mo4_15
 have mo1_15 := m_set_o hm_15 mo1_14 (by decide)
 have mo0_15 := m_set_o hm_15 mo0_14 (by decide)
 have mo2_15 := m_set_o hm_15 mo2_14 (by decide)
 have mo3_15 := m_set_o hm_15 mo3_14 (by decide)
 have ml_15 := m_set_l hm_15 ml_14
 clear hm_15 mo1_14 mo4_14 mo0_14 mo2_14 mo3_14
 refine ae3 (up_n (u4 rfl s0_13)) (up_n (u4 rfl s1_13)) (up_n (u4 rfl s4_13)) ?_; clear s0_13 s1_13 s4_13; intro e_16 s0_16 s1_16 s4_16
 refine then_n <| aw_seq <| at_ <| ar (ro_fld_ptr qfl111_3 rfl s4_16) rfl <| ar (ro_eq (ro_ld_ptr z24_ty4 rfl mo4_15 up_h (nle rfl)) (by simp only [pS, Value.cells, Nat.reduceAdd, scnA] <;> rfl)) rfl ?_
 refine ae4 (u2 rfl s0_16) (u2 rfl s1_16) (u2 rfl s4_16) up_h ?_; clear s0_16 s1_16 s4_16; intro e_17 s0_17 s1_17 s4_17 s21_17
 refine then_n <| aw_case s21_17 (fun hq_18 => ?_) (fun hq_18 => ?_)
 ·replace hq_18 := bt' hq_18
  have c9 := c7
  refine at_ <| ar (ro_move s0_17) rfl <| al_stm (st_muE (st_mu' (c6) [1] ml_15 (evL_cons up_h (evL_cons ev_c evL_nil)) (by first | exact .nil | exact .refl mo0_15 | exact .at_ mo0_15 (by simp [*])) (by decide) (.ob mo1_15 .nil) rfl qhcf99) (rn_ro rfl)) trivial rfl (fun m_19 hm_19 => ?_)
  have mo1_19 : m_19[1]? = some _ := m_ups_t hm_19 (Nat.le_of_ble_eq_true rfl) (by decide) (lt_cons mo1_15 lt_nil) 0 rfl rfl
  (try simp only [Ob.rn, rn, rn.rnL, rho, List.length_cons, List.length_nil, List.getElem?_cons_zero, List.getElem?_cons_succ, List.getElem?_nil, Nat.reduceAdd, Nat.reduceSub, Nat.add_zero, Nat.sub_self, scnA] at mo1_19)
  have mo4_19 := m_ups_o hm_19 (Nat.le_of_ble_eq_true rfl) mo4_15 (by decide)
  have mo0_19 := m_ups_o hm_19 (Nat.le_of_ble_eq_true rfl) mo0_15 (by decide)
  have mo2_19 := m_ups_o hm_19 (Nat.le_of_ble_eq_true rfl) mo2_15 (by decide)
  have mo3_19 := m_ups_o hm_19 (Nat.le_of_ble_eq_true rfl) mo3_15 (by decide)
  have ml_19 : _ = 5 := m_ups_l hm_19 ml_15 0 rfl
  clear hm_19 mo4_15 mo1_15 mo0_15 mo2_15 mo3_15 ml_15
  refine ae3 (u2 rfl s0_17) (u2 rfl s1_17) (u2 rfl s4_17) ?_; clear s0_17 s1_17 s21_17 s4_17; intro e_20 s0_20 s1_20 s4_20
  refine then_n <| aw_seq <| at_ <| ar (ro_move s0_20) rfl <| al_stm (st_muE (st_mu' (c9) [1] ml_19 (evL_cons up_h evL_nil) (by first | exact .nil | exact .refl mo0_19 | exact .at_ mo0_19 (by simp [*])) (by decide) (.ob mo1_19 .nil) rfl qhcf102) (rn_ro rfl)) trivial rfl (fun m_21 hm_21 => ?_)
  have mo1_21 : m_21[1]? = some _ := m_ups_t hm_21 (Nat.le_of_ble_eq_true rfl) (by decide) (lt_cons mo1_19 lt_nil) 0 rfl rfl
  (try simp only [Ob.rn, rn, rn.rnL, rho, List.length_cons, List.length_nil, List.getElem?_cons_zero, List.getElem?_cons_succ, List.getElem?_nil, Nat.reduceAdd, Nat.reduceSub, Nat.add_zero, Nat.sub_self, scnA] at mo1_21)
  have mo4_21 := m_ups_o hm_21 (Nat.le_of_ble_eq_true rfl) mo4_19 (by decide)
  have mo0_21 := m_ups_o hm_21 (Nat.le_of_ble_eq_true rfl) mo0_19 (by decide)
  have mo2_21 := m_ups_o hm_21 (Nat.le_of_ble_eq_true rfl) mo2_19 (by decide)
  have mo3_21 := m_ups_o hm_21 (Nat.le_of_ble_eq_true rfl) mo3_19 (by decide)
  have ml_21 : _ = 5 := m_ups_l hm_21 ml_19 0 rfl
  clear hm_21 mo1_19 mo4_19 mo0_19 mo2_19 mo3_19 ml_19
  refine ae2 (u2 rfl s1_20) (u2 rfl s4_20) ?_; clear s0_20 s1_20 s4_20; intro e_22 s1_22 s4_22
  refine then_n <| aw_drawK 8 1 ml_21 (by kernel_rfl) (by kernel_rfl) (by kernel_rfl) (by kernel_rfl) (fun m_23 hm_23 => ?_)
  have mo1_23 := m_room_o hm_23 mo1_21
  have mo4_23 := m_room_o hm_23 mo4_21
  have mo0_23 := m_room_o hm_23 mo0_21
  have mo2_23 := m_room_o hm_23 mo2_21
  have mo3_23 := m_room_o hm_23 mo3_21
  have mo5_23 : m_23[5]? = _ := m_room_g hm_23 ml_21 0 rfl rfl
  have ml_23 : _ = 6 := m_room_l (K := 1) hm_23 ml_21
  clear hm_23 mo1_21 mo4_21 mo0_21 mo2_21 mo3_21 ml_21
  refine dh_ro (fun M_ hM_ => (ro_move s1_22)) trivial ?_
  refine dh_ro (fun M_ hM_ => (ro_move (up_m rfl s1_22))) trivial ?_
  refine dh_ro (fun M_ hM_ => (ro_nilP up_h)) trivial ?_
  refine dh_ro (fun M_ hM_ => (ro_fld_ptr qfl24_1 rfl up_h)) trivial ?_
  refine dh_ld (2) (fun M_ hM_ => (ro_eq (ro_ld_ptr z24_ty22 rfl (agr hM_ mo2_23 (by simp)) up_h (nle rfl)) (by simp only [pS, Value.cells, Nat.reduceAdd, scnA] <;> rfl))) trivial trivial ?_
  refine dh_ld (4) (fun M_ hM_ => (ro_eq (ro_ld_ptr z24_ty111 rfl (agr hM_ mo4_23 (by simp)) (up_m rfl (u4 rfl s4_22)) (nle rfl)) (by simp only [pS, Value.cells, Nat.reduceAdd, scnA] <;> rfl))) trivial trivial ?_
  refine dh_ro (fun M_ hM_ => (ro_lit z24_sl22 (evP_cons up_h evP_nil) rfl rfl rfl rfl)) trivial ?_
  refine dh_sw (5) (3) (fun M_ hM_ => (sw_app z24_sl22 rfl (agr hM_ mo3_23 (by simp)) (u2 rfl up_h) up_h (by rfl) (by simp only [lnS] <;> omega))) trivial mo5_23 rfl trivial ⟨.inl (by simp <;> omega), ⟨.inl (by simp <;> omega), trivial⟩⟩ ⟨.inl (by simp <;> omega), ⟨.inl (by simp <;> omega), trivial⟩⟩ (fun m_24 hm_24 => ?_)
  have mo5_24 := m_sw hm_24 mo5_23
  have mo1_24 := m_sw_o hm_24 mo1_23 (by decide) (by decide)
  have mo4_24 := m_sw_o hm_24 mo4_23 (by decide) (by decide)
  have mo0_24 := m_sw_o hm_24 mo0_23 (by decide) (by decide)
  have mo2_24 := m_sw_o hm_24 mo2_23 (by decide) (by decide)
  have ml_24 := m_sw_l hm_24 ml_23
  clear hm_24 mo1_23 mo4_23 mo0_23 mo2_23 mo3_23 mo5_23
  refine dh_nil rfl ?_
  refine ar (ro_nilP (up_m rfl (u2 rfl (u4 rfl up_h)))) rfl <| ar (ro_fld_ptr qfl24_1 rfl up_h) rfl <| al_stm (st_store_own up_h (u2 rfl up_h) mo2_24 mo5_24 qsz22 (nle rfl)) trivial rfl (fun m_25 hm_25 => ?_)
  have mo2_25 := m_set hm_25 mo2_24
  simp only [pS, Value.cells, Nat.reduceAdd, scnA] at mo2_25
  have mo5_25 := m_set_o hm_25 mo5_24 (by decide)
  have mo1_25 := m_set_o hm_25 mo1_24 (by decide)
  have mo4_25 := m_set_o hm_25 mo4_24 (by decide)
  have mo0_25 := m_set_o hm_25 mo0_24 (by decide)
  have ml_25 := m_set_l hm_25 ml_24
  clear hm_25 mo5_24 mo1_24 mo4_24 mo0_24 mo2_24
  refine ae0 ?_; clear s1_22 s4_22; intro e_26
  refine muQ_eq (.inl rfl) [1, 2, 3, 5] ml_25 mo0_25 (by decide) rfl (resM0 (by kernel_rfl)) (emb_ob mo1_25 ?_ (emb_ob mo2_25 ?_ (.gone (emb_ob mo5_25 ?_ .nil)))) ?_
  all_goals (first | rfl | (clear c1 c2 c3 c4 c5 c6 c7 c8; simp_all [bs_toList, pE]; done) | (clear c1 c2 c3 c4 c5 c6 c7 c8; simp_all [bs_toList, pE]; rfl) | (clear c1 c2 c3 c4 c5 c6 c7 c8; cases w4 <;> simp_all [bs_toList, pE] <;> rfl))
 replace hq_18 := bf' hq_18
 have c9 := c8
 refine aw_skip <| then_n <| aw_seq <| at_ <| ar (ro_move s0_17) rfl <| al_stm (st_muE (st_mu' (c9) [1] ml_15 (evL_cons up_h evL_nil) (by first | exact .nil | exact .refl mo0_15 | exact .at_ mo0_15 (by simp [*])) (by decide) (.ob mo1_15 .nil) rfl qhcf102) (rn_ro rfl)) trivial rfl (fun m_27 hm_27 => ?_)
 have mo1_27 : m_27[1]? = some _ := m_ups_t hm_27 (Nat.le_of_ble_eq_true rfl) (by decide) (lt_cons mo1_15 lt_nil) 0 rfl rfl
 (try simp only [Ob.rn, rn, rn.rnL, rho, List.length_cons, List.length_nil, List.getElem?_cons_zero, List.getElem?_cons_succ, List.getElem?_nil, Nat.reduceAdd, Nat.reduceSub, Nat.add_zero, Nat.sub_self, scnA] at mo1_27)
 have mo4_27 := m_ups_o hm_27 (Nat.le_of_ble_eq_true rfl) mo4_15 (by decide)
 have mo0_27 := m_ups_o hm_27 (Nat.le_of_ble_eq_true rfl) mo0_15 (by decide)
 have mo2_27 := m_ups_o hm_27 (Nat.le_of_ble_eq_true rfl) mo2_15 (by decide)
 have mo3_27 := m_ups_o hm_27 (Nat.le_of_ble_eq_true rfl) mo3_15 (by decide)
 have ml_27 : _ = 5 := m_ups_l hm_27 ml_15 0 rfl
 clear hm_27 mo4_15 mo1_15 mo0_15 mo2_15 mo3_15 ml_15
 refine ae2 (u2 rfl s1_17) (u2 rfl s4_17) ?_; clear s0_17 s1_17 s21_17 s4_17; intro e_28 s1_28 s4_28
 refine then_n <| aw_drawK 8 1 ml_27 (by kernel_rfl) (by kernel_rfl) (by kernel_rfl) (by kernel_rfl) (fun m_29 hm_29 => ?_)
 have mo1_29 := m_room_o hm_29 mo1_27
 have mo4_29 := m_room_o hm_29 mo4_27
 have mo0_29 := m_room_o hm_29 mo0_27
 have mo2_29 := m_room_o hm_29 mo2_27
 have mo3_29 := m_room_o hm_29 mo3_27
 have mo5_29 : m_29[5]? = _ := m_room_g hm_29 ml_27 0 rfl rfl
 have ml_29 : _ = 6 := m_room_l (K := 1) hm_29 ml_27
 clear hm_29 mo1_27 mo4_27 mo0_27 mo2_27 mo3_27 ml_27
 refine dh_ro (fun M_ hM_ => (ro_move s1_28)) trivial ?_
 refine dh_ro (fun M_ hM_ => (ro_move (up_m rfl s1_28))) trivial ?_
 refine dh_ro (fun M_ hM_ => (ro_nilP up_h)) trivial ?_
 refine dh_ro (fun M_ hM_ => (ro_fld_ptr qfl24_1 rfl up_h)) trivial ?_
 refine dh_ld (2) (fun M_ hM_ => (ro_eq (ro_ld_ptr z24_ty22 rfl (agr hM_ mo2_29 (by simp)) up_h (nle rfl)) (by simp only [pS, Value.cells, Nat.reduceAdd, scnA] <;> rfl))) trivial trivial ?_
 refine dh_ld (4) (fun M_ hM_ => (ro_eq (ro_ld_ptr z24_ty111 rfl (agr hM_ mo4_29 (by simp)) (up_m rfl (u4 rfl s4_28)) (nle rfl)) (by simp only [pS, Value.cells, Nat.reduceAdd, scnA] <;> rfl))) trivial trivial ?_
 refine dh_ro (fun M_ hM_ => (ro_lit z24_sl22 (evP_cons up_h evP_nil) rfl rfl rfl rfl)) trivial ?_
 refine dh_sw (5) (3) (fun M_ hM_ => (sw_app z24_sl22 rfl (agr hM_ mo3_29 (by simp)) (u2 rfl up_h) up_h (by rfl) (by simp only [lnS] <;> omega))) trivial mo5_29 rfl trivial ⟨.inl (by simp <;> omega), ⟨.inl (by simp <;> omega), trivial⟩⟩ ⟨.inl (by simp <;> omega), ⟨.inl (by simp <;> omega), trivial⟩⟩ (fun m_30 hm_30 => ?_)
 have mo5_30 := m_sw hm_30 mo5_29
 have mo1_30 := m_sw_o hm_30 mo1_29 (by decide) (by decide)
 have mo4_30 := m_sw_o hm_30 mo4_29 (by decide) (by decide)
 have mo0_30 := m_sw_o hm_30 mo0_29 (by decide) (by decide)
 have mo2_30 := m_sw_o hm_30 mo2_29 (by decide) (by decide)
 have ml_30 := m_sw_l hm_30 ml_29
 clear hm_30 mo1_29 mo4_29 mo0_29 mo2_29 mo3_29 mo5_29
 refine dh_nil rfl ?_
 refine ar (ro_nilP (up_m rfl (u2 rfl (u4 rfl up_h)))) rfl <| ar (ro_fld_ptr qfl24_1 rfl up_h) rfl <| al_stm (st_store_own up_h (u2 rfl up_h) mo2_30 mo5_30 qsz22 (nle rfl)) trivial rfl (fun m_31 hm_31 => ?_)
 have mo2_31 := m_set hm_31 mo2_30
 simp only [pS, Value.cells, Nat.reduceAdd, scnA] at mo2_31
 have mo5_31 := m_set_o hm_31 mo5_30 (by decide)
 have mo1_31 := m_set_o hm_31 mo1_30 (by decide)
 have mo4_31 := m_set_o hm_31 mo4_30 (by decide)
 have mo0_31 := m_set_o hm_31 mo0_30 (by decide)
 have ml_31 := m_set_l hm_31 ml_30
 clear hm_31 mo5_30 mo1_30 mo4_30 mo0_30 mo2_30
 refine ae0 ?_; clear s1_28 s4_28; intro e_32
 refine muQ_eq (.inl rfl) [1, 2, 3, 5] ml_31 mo0_31 (by decide) rfl (resM0 (by kernel_rfl)) (emb_ob mo1_31 ?_ (emb_ob mo2_31 ?_ (.gone (emb_ob mo5_31 ?_ .nil)))) ?_
 all_goals (first | rfl | (clear c1 c2 c3 c4 c5 c6 c7 c8; simp_all [bs_toList, pE]; done) | (clear c1 c2 c3 c4 c5 c6 c7 c8; simp_all [bs_toList, pE]; rfl) | (clear c1 c2 c3 c4 c5 c6 c7 c8; cases w4 <;> simp_all [bs_toList, pE] <;> rfl))
end
end Go.Proofs.YtjhcfpdgldpicaaGreatDoor
namespace Go.Proofs.YtjhcfpdgldpicaaGreatDoor
open Go Go.RowKit Go.Proofs Go.Shelf Go.Lib
theorem z25_hcf104 : ∀ args w, (callFunc 104 args).run Tryz.prog w = .ok (.enter 104 args) w := fun _ _ => by kernel_rfl
theorem z25_hcf148 : ∀ args w, (callFunc 148 args).run Tryz.prog w = .ok (.enter 148 args) w := fun _ _ => by kernel_rfl
theorem z25_ty9 : TyIs Tryz.prog 9 false 1 := ⟨by kernel_rfl, by kernel_rfl⟩
def linesF : Nat → List UInt8 → List (List UInt8)
 | 0, _ => []
 | f + 1, l => if l = [] then [] else if 0 ≤ indexByte l 10 then l.take ((indexByte l 10).toNat + 1) :: linesF f (l.drop ((indexByte l 10).toNat + 1)) else [l]
def linesY (l : List UInt8) : List (List UInt8) := linesF l.length l
theorem linesF_more : ∀ (f : Nat) (l : List UInt8), l.length ≤ f → linesF f l = linesY l := by
 have key : ∀ (f g : Nat) (l : List UInt8), l.length ≤ f → l.length ≤ g → linesF f l = linesF g l := by
  intro f
  induction f with
  | zero =>
   intro g l hf hg
   have : l = [] := List.eq_nil_of_length_eq_zero (by omega)
   subst this
   cases g <;> simp [linesF]
  | succ f ih =>
   intro g l hf hg
   cases g with
   | zero =>
    have : l = [] := List.eq_nil_of_length_eq_zero (by omega)
    subst this; simp [linesF]
   | succ g =>
    simp only [linesF]
    split
    ·rfl
    ·split
     ·rename_i h1 h2
      congr 1
      have hp := List.length_pos_iff.2 h1
      exact ih g _ (by rw [List.length_drop]; omega) (by rw [List.length_drop]; omega)
     ·rfl
 exact fun f l h => key f l.length l h (Nat.le_refl _)
theorem linesY_nil : linesY [] = [] := rfl
theorem linesY_cut {l : List UInt8} (h : l ≠ []) (hi : 0 ≤ indexByte l 10) : linesY l = l.take ((indexByte l 10).toNat + 1) :: linesY (l.drop ((indexByte l 10).toNat + 1)) := by
 have hp := List.length_pos_iff.2 h
 rw [← linesF_more (l.length + 1) l (by omega)]
 simp only [linesF]
 rw [if_neg h, if_pos hi, linesF_more _ _ (by rw [List.length_drop]; omega)]
theorem linesY_end {l : List UInt8} (h : l ≠ []) (hi : ¬ 0 ≤ indexByte l 10) : linesY l = [l] := by
 have hp := List.length_pos_iff.2 h
 rw [← linesF_more (l.length + 1) l (by omega)]
 simp only [linesF]
 rw [if_neg h, if_neg hi]
def hdL (r : List UInt8) : List UInt8 := if 0 ≤ indexByte r 10 then r.take ((indexByte r 10).toNat + 1) else r
def tlL (r : List UInt8) : List UInt8 := if 0 ≤ indexByte r 10 then r.drop ((indexByte r 10).toNat + 1) else []
theorem linesY_step {r : List UInt8} (h : r ≠ []) : linesY r = hdL r :: linesY (tlL r) := by
 unfold hdL tlL
 split
 ·rename_i hi; exact linesY_cut h hi
 ·rename_i hi; rw [linesY_end h hi, linesY_nil]
theorem tlL_len {r : List UInt8} (h : r ≠ []) : (tlL r).length < r.length := by
 have := List.length_pos_iff.2 h
 unfold tlL
 split
 ·rw [List.length_drop]; omega
 ·simpa using this
theorem hd_ext (r : List UInt8) (h : 0 ≤ indexByte r 10) : (bs r).extract 0 (indexByte r 10 + 1).toNat = bs (hdL r) := by
 rw [take_bs, bs_list, show (indexByte r 10 + 1).toNat = (indexByte r 10).toNat + 1 by omega, hdL, if_pos h]
theorem tl_ext (r : List UInt8) (h : 0 ≤ indexByte r 10) : (bs r).extract (indexByte r 10 + 1).toNat (bs r).size = bs (tlL r) := by
 rw [drop_bs, bs_list, show (indexByte r 10 + 1).toNat = (indexByte r 10).toNat + 1 by omega, tlL, if_pos h]
theorem hd_no {r : List UInt8} (h : ¬ 0 ≤ indexByte r 10) : hdL r = r ∧ tlL r = [] := by
 unfold hdL tlL; rw [if_neg h, if_neg h]; exact ⟨rfl, rfl⟩
def lnE (l : List UInt8) : List AV := [.v (.string (bs l))]
set_option maxRecDepth 100000 in
set_option maxHeartbeats 4000000 in
theorem sIndexByte_ok (l : List UInt8) (c : Int) : FnOk Tryz.prog 104 [.v (.string (bs l)), .v (.int .u8 c)] (fun q => q = .v (.int .i64 (indexByte l c.toNat.toUInt8))) := by
 have h := indexByte_ok (bs l) c
 rw [bs_list] at h
 refine fnOk_of (fn := Tryz.f104) 8 (by kernel_rfl) rfl (by kernel_rfl) (Nat.le_of_ble_eq_true rfl) ?_
 intro e_0 m_0 hA hm_0
 have s0_0 : evA e_0 (.tmp 0) = _ := hA 0 _ rfl
 have s1_0 : evA e_0 (.tmp 1) = _ := hA 1 _ rfl
 have ml_0 : m_0.length = 0 := by rw [hm_0]; rfl
 clear hA hm_0
 refine aw_seq <| at_ <| ar (ro_assign ev_c) rfl <| ae2 (up_m rfl s0_0) (up_m rfl s1_0) ?_; clear s0_0 s1_0; intro e_1 s0_1 s1_1
 refine then_n <| aw_seq <| at_ <| ar (ro_move s0_1) rfl <| ar (ro_move (up_m rfl s1_1)) rfl <| ar (ro_call (evL_cons (up_m rfl up_h) (evL_cons up_h evL_nil)) rfl (h) z25_hcf148) rfl <| ar (ro_assign up_h) rfl <| ae1 up_h ?_; clear s0_1 s1_1; intro e_2 s4_2
 refine then_n <| aw_ret <| ret1 (.inr rfl) (by kernel_rfl) (resV_tmp s4_2) (.ro _ rfl) ?_
 clear s4_2 ml_0
 first | rfl | (simp; done) | (simp_all; done) | omega
set_option maxRecDepth 100000 in
set_option maxHeartbeats 4000000 in
theorem lines_ok (s : ByteArray) : FnMu Tryz.prog [] 40 [.v (.string s)] [] (.clo (.func 103) [] [.ptr 1 0]) [.box 9 [.v (.string s)]] := by
 refine fnMu_of (fn := Tryz.f40) [] 4 (by kernel_rfl) rfl (by kernel_rfl) (Nat.le_of_ble_eq_true rfl) ?_
 intro e_0 m_0 hA hm_0
 have s0_0 : evA e_0 (.tmp 0) = _ := hA 0 _ rfl
 have ml_0 : m_0.length = 1 := by rw [hm_0]; rfl
 have mo0_0 := m_in0 hm_0
 clear hA hm_0
 refine aw_seq <| at_ <| al_stm (st_box s0_0 rfl ml_0) trivial rfl (fun m_1 hm_1 => ?_)
 have mo1_1 := m_push hm_1 ml_0
 (first | (simp only [pS, Value.cells, Nat.reduceAdd] at mo1_1; trace "W2.N.1.1") | skip)
 have mo0_1 := m_push_o hm_1 mo0_0
 have ml_1 := m_push_l hm_1 ml_0
 have ml_1 : _ = 2 := ml_1
 clear hm_1 mo0_0
 refine ar (ro_assign ev_c) rfl <| ae1 (up_m rfl up_h) ?_; clear s0_0; intro e_2 s1_2
 refine then_n <| aw_seq <| at_ <| ar (ro_makeFunc evL_nil (evL_cons s1_2 evL_nil)) rfl <| ar (ro_assign up_h) rfl <| ae1 up_h ?_; clear s1_2; intro e_3 s2_3
 refine then_n <| aw_ret <| muQ_eq (.inr rfl) [1] ml_1 mo0_1 (by decide) rfl (resM1 (by kernel_rfl) (resV_tmp s2_3)) (emb_ob mo1_1 ?_ .nil) ?_
 all_goals (first | rfl | (simp; done) | (simp_all; done) | omega)
def lnI (l r : List UInt8) (i : Nat) : Prop := i + (linesY r).length = (linesY l).length ∧ (linesY l).drop i = linesY r ∧ r.length ≤ l.length
theorem lnI_get {l r y q : List UInt8} {i : Nat} (h : lnI l r i) (hy : linesY r = y :: linesY q) (hq : q.length ≤ r.length) : ((linesY l).map lnE)[i]? = some [AV.v (.string (bs y))] ∧ lnI l q (i + 1) := by
 obtain ⟨h1, h2, h3⟩ := h
 have h4 : (linesY l)[i]? = some y := by
  have := congrArg (fun z => z[0]?) h2
  simp only [List.getElem?_drop, hy] at this
  simpa using this
 refine ⟨by rw [List.getElem?_map, h4]; rfl, ?_, ?_, by omega⟩
 ·rw [hy] at h1; simp at h1; omega
 ·have := congrArg (fun z => z.drop 1) h2
  simp only [List.drop_drop, hy] at this
  simpa using this
set_option maxRecDepth 100000 in
set_option maxHeartbeats 4000000 in
theorem lines_gen (l : List UInt8) (hl : l.length ≤ 1000000) (jv : Nat) : GenOk2 Tryz.prog 103 [] [.ptr jv 0] jv 9 [.v (.string (bs l))] ((linesY l).map lnE) := by
 refine gen_of2 (fn := Tryz.f103) 25 (by kernel_rfl) rfl (by kernel_rfl) (Nat.le_of_ble_eq_true rfl) (fun _ _ => ⟨.tuple #[], by kernel_rfl⟩) ?_
 intro lb_ e_0 hA
 have s0_0 : evA e_0 (.tmp 0) = _ := hA 0 _ rfl
 have s1_0 : evA e_0 (.tmp 1) = _ := hA 1 _ rfl
 clear hA
 refine jw_block <| jw_loop (S := (List UInt8 × Nat)) (fun s e b i c => match s with | ⟨r, k⟩ => (evA e (.tmp 0) = evA e_0 (.tmp 0)) ∧ (evA e (.tmp 1) = evA e_0 (.tmp 1)) ∧ (b = true) ∧ (i = k) ∧ (c = [.v (.string (bs r))]) ∧ ((lnI l r k))) (fun s => match s with | ⟨r, k⟩ => r.length) ⟨l, 0⟩ ⟨rfl, rfl, rfl, (by first | rfl | omega | (simp; omega)), rfl, ?_⟩ ?_
 ·exact ⟨by omega, rfl, Nat.le_refl _⟩
 ·rintro ⟨r, k⟩ e_1 _ i_1 _ ⟨k0_1, k1_1, rfl, hix, rfl, hinv⟩
  have s0_1 := k0_1.trans s0_0
  have s1_1 := k1_1.trans s1_0
  (obtain ⟨p1, p2, p3⟩ := hinv; have hz : (bs r).size = r.length := rfl; have hi := sIndexByte_ok r 10; rw [show ((10 : Int).toNat.toUInt8) = (10 : UInt8) from rfl] at hi; obtain ⟨g1, g2⟩ := idx_ge r 10)
  refine jw_seq <| jw_seq <| jw_text ?_
  refine jl_ro (fun mem_ hm_ => (ro_eq (ro_ld_ptr z25_ty9 rfl hm_ s1_1 (nle rfl)) (by simp only [pS, Value.cells, Nat.reduceAdd] <;> rfl))) trivial rfl ?_
  refine jl_ro (fun mem_ hm_ => (ro_len_str up_h rfl qun9)) trivial rfl ?_
  refine jl_ro (fun mem_ hm_ => (ro_gtr up_h ev_c)) trivial rfl ?_
  refine jl_end (fun e_2 he_2 => ?_)
  have s0_2 := ef 0 he_2 (up_m rfl (u2 rfl s0_1))
  have s1_2 := ef 1 he_2 (up_m rfl (u2 rfl s1_1))
  have s7_2 := ef 7 he_2 up_h
  clear he_2 s0_1 s1_1
  refine thenj_n <| jw_case s7_2 (fun hq_3 => ?_) (fun hq_3 => ?_)
  ·replace hq_3 := bt hq_3
   refine jw_skip <| thenj_n <| jw_block <| jw_seq <| jw_text ?_
   refine jl_ro (fun mem_ hm_ => (ro_assign ev_c)) trivial rfl ?_
   refine jl_end (fun e_4 he_4 => ?_)
   have s0_4 := ef 0 he_4 (up_m rfl s0_2)
   have s1_4 := ef 1 he_4 (up_m rfl s1_2)
   clear he_4 s0_2 s1_2 s7_2
   refine thenj_n <| jw_seq <| jw_seq <| jw_text ?_
   refine jl_ro (fun mem_ hm_ => (ro_eq (ro_ld_ptr z25_ty9 rfl hm_ s1_4 (nle rfl)) (by simp only [pS, Value.cells, Nat.reduceAdd] <;> rfl))) trivial rfl ?_
   refine jl_ro (fun mem_ hm_ => (ro_call (evL_cons up_h (evL_cons ev_c evL_nil)) rfl (hi) z25_hcf104)) trivial rfl ?_
   refine jl_ro (fun mem_ hm_ => (ro_assign up_h)) trivial rfl ?_
   refine jl_end (fun e_5 he_5 => ?_)
   have s0_5 := ef 0 he_5 (up_m rfl (u2 rfl s0_4))
   have s1_5 := ef 1 he_5 (up_m rfl (u2 rfl s1_4))
   have s4_5 := ef 4 he_5 up_h
   clear he_5 s0_4 s1_4
   refine thenj_n <| jw_seq <| jw_text ?_
   refine jl_ro (fun mem_ hm_ => (ro_move s4_5)) trivial rfl ?_
   refine jl_ro (fun mem_ hm_ => (ro_geq up_h ev_c)) trivial rfl ?_
   refine jl_end (fun e_6 he_6 => ?_)
   have s0_6 := ef 0 he_6 (u2 rfl s0_5)
   have s1_6 := ef 1 he_6 (u2 rfl s1_5)
   have s4_6 := ef 4 he_6 (u2 rfl s4_5)
   have s11_6 := ef 11 he_6 up_h
   clear he_6 s0_5 s1_5 s4_5
   refine thenj_n <| jw_case s11_6 (fun hq_7 => ?_) (fun hq_7 => ?_)
   ·replace hq_7 := bt hq_7
    refine jw_draw 9 (by kernel_rfl) (by kernel_rfl) (by kernel_rfl) (by kernel_rfl) ?_
    refine dsj_ro (fun mem_ hm_ => (ro_eq (ro_ld_ptr z25_ty9 rfl hm_ s1_6 (nle rfl)) (by simp only [pS, Value.cells, Nat.reduceAdd] <;> rfl))) trivial rfl ?_
    refine dsj_ro (fun mem_ hm_ => (ro_move (up_m rfl s4_6))) trivial rfl ?_
    (refine dsj_ro (fun mem_ hm_ => (ro_add' up_h ev_c ?_)) trivial rfl ?_; · (unfold In64; omega))
    refine dsj_ro (fun mem_ hm_ => (ro_sshi (u2 rfl up_h) up_h qun9 (by omega) (by omega))) trivial rfl ?_
    refine dsj_ro (fun mem_ hm_ => (ro_eq (ro_ld_ptr z25_ty9 rfl hm_ (u4 rfl s1_6) (nle rfl)) (by simp only [pS, Value.cells, Nat.reduceAdd] <;> rfl))) trivial rfl ?_
    refine dsj_ro (fun mem_ hm_ => (ro_move (up_m rfl (u4 rfl s4_6)))) trivial rfl ?_
    (refine dsj_ro (fun mem_ hm_ => (ro_add' up_h ev_c ?_)) trivial rfl ?_; · (unfold In64; omega))
    refine dsj_ro (fun mem_ hm_ => (ro_sslo (u2 rfl up_h) up_h qun9 (by omega) (by omega))) trivial rfl ?_
    refine dsj_ro (fun mem_ hm_ => (ro_assign (u4 rfl up_h))) trivial rfl ?_
    refine dsj_nil ?_
    refine jl_st rfl (fun mem_ hm_ => (st_store (up_m rfl (u8 rfl s1_6)) (up_m rfl up_h) rfl rfl hm_ qsz9 rfl (nle rfl))) trivial rfl ?_
    refine jl_end (fun e_8 he_8 => ?_)
    have s0_8 := ef 0 he_8 (up_n (up_m rfl (u8 rfl s0_6)))
    have s1_8 := ef 1 he_8 (up_n (up_m rfl (u8 rfl s1_6)))
    have s3_8 := ef 3 he_8 (up_n up_h)
    clear he_8 s0_6 s11_6 s1_6 s4_6
    refine thenj_n <| jw_seq <| jw_text ?_
    refine jl_ro (fun mem_ hm_ => (ro_move s0_8)) trivial rfl ?_
    refine jl_ro (fun mem_ hm_ => (ro_move (up_m rfl s3_8))) trivial rfl ?_
    refine jl_yield (up_m rfl up_h) (evL_cons up_h evL_nil) rfl trivial rfl rfl (by (subst hix; have hn : r ≠ [] := List.length_pos_iff.1 (by omega); have h5 := (lnI_get ⟨p1, p2, p3⟩ (linesY_step hn) (Nat.le_of_lt (tlL_len hn))).1; first | (rw [hd_ext r (by omega)]; exact h5) | (rw [(hd_no (r := r) (by omega)).1] at h5; exact h5))) ?_ ?_
    ·
     refine jl_ro (fun mem_ hm_ => (ro_not up_h)) trivial rfl ?_
     refine jl_end (fun e_9 he_9 => ?_)
     have s0_9 := ef 0 he_9 (u4 rfl s0_8)
     have s1_9 := ef 1 he_9 (u4 rfl s1_8)
     have s24_9 := ef 24 he_9 up_h
     clear he_9 s0_8 s1_8 s3_8
     refine thenj_n <| jw_false s24_9 ?_
     refine jw_skip <| blockj_n <| thenj_n <| ⟨⟨tlL r, k + 1⟩, ⟨(s0_9.trans s0_0.symm), (s1_9.trans s1_0.symm), rfl, (by first | omega | (simp; omega)), (by (first | (rw [← tl_ext r (by omega)]; rfl) | (rw [(hd_no (r := r) (by omega)).2]; rfl))), ?_⟩, ?_⟩
     ·(have hn : r ≠ [] := List.length_pos_iff.1 (by omega); exact (lnI_get ⟨p1, p2, p3⟩ (linesY_step hn) (Nat.le_of_lt (tlL_len hn))).2)
     ·((try dsimp only); (have hn : r ≠ [] := List.length_pos_iff.1 (by omega); exact tlL_len hn))
    ·
     refine jl_ro (fun mem_ hm_ => (ro_not up_h)) trivial rfl ?_
     refine jl_end (fun e_11 he_11 => ?_)
     have s0_11 := ef 0 he_11 (u4 rfl s0_8)
     have s1_11 := ef 1 he_11 (u4 rfl s1_8)
     have s24_11 := ef 24 he_11 up_h
     clear he_11 s0_8 s1_8 s3_8
     refine thenj_n <| jw_true s24_11 ?_
     refine jw_ret <| blockj_r <| thenj_r <| blockj_r <| genj_r (fun hb_ => (by cases hb_))
   replace hq_7 := bf hq_7
   refine jw_text ?_
   refine jl_ro (fun mem_ hm_ => (ro_eq (ro_ld_ptr z25_ty9 rfl hm_ s1_6 (nle rfl)) (by simp only [pS, Value.cells, Nat.reduceAdd] <;> rfl))) trivial rfl ?_
   refine jl_ro (fun mem_ hm_ => (ro_assign up_h)) trivial rfl ?_
   refine jl_st rfl (fun mem_ hm_ => (st_store (u2 rfl s1_6) ev_c rfl rfl hm_ qsz9 rfl (nle rfl))) trivial rfl ?_
   refine jl_end (fun e_13 he_13 => ?_)
   have s0_13 := ef 0 he_13 (up_n (u2 rfl s0_6))
   have s1_13 := ef 1 he_13 (up_n (u2 rfl s1_6))
   have s3_13 := ef 3 he_13 (up_n up_h)
   clear he_13 s0_6 s11_6 s1_6 s4_6
   refine thenj_n <| jw_seq <| jw_text ?_
   refine jl_ro (fun mem_ hm_ => (ro_move s0_13)) trivial rfl ?_
   refine jl_ro (fun mem_ hm_ => (ro_move (up_m rfl s3_13))) trivial rfl ?_
   refine jl_yield (up_m rfl up_h) (evL_cons up_h evL_nil) rfl trivial rfl rfl (by (subst hix; have hn : r ≠ [] := List.length_pos_iff.1 (by omega); have h5 := (lnI_get ⟨p1, p2, p3⟩ (linesY_step hn) (Nat.le_of_lt (tlL_len hn))).1; first | (rw [hd_ext r (by omega)]; exact h5) | (rw [(hd_no (r := r) (by omega)).1] at h5; exact h5))) ?_ ?_
   ·
    refine jl_ro (fun mem_ hm_ => (ro_not up_h)) trivial rfl ?_
    refine jl_end (fun e_14 he_14 => ?_)
    have s0_14 := ef 0 he_14 (u4 rfl s0_13)
    have s1_14 := ef 1 he_14 (u4 rfl s1_13)
    have s24_14 := ef 24 he_14 up_h
    clear he_14 s0_13 s1_13 s3_13
    refine thenj_n <| jw_false s24_14 ?_
    refine jw_skip <| blockj_n <| thenj_n <| ⟨⟨tlL r, k + 1⟩, ⟨(s0_14.trans s0_0.symm), (s1_14.trans s1_0.symm), rfl, (by first | omega | (simp; omega)), (by (first | (rw [← tl_ext r (by omega)]; rfl) | (rw [(hd_no (r := r) (by omega)).2]; rfl))), ?_⟩, ?_⟩
    ·(have hn : r ≠ [] := List.length_pos_iff.1 (by omega); exact (lnI_get ⟨p1, p2, p3⟩ (linesY_step hn) (Nat.le_of_lt (tlL_len hn))).2)
    ·((try dsimp only); (have hn : r ≠ [] := List.length_pos_iff.1 (by omega); exact tlL_len hn))
   ·
    refine jl_ro (fun mem_ hm_ => (ro_not up_h)) trivial rfl ?_
    refine jl_end (fun e_16 he_16 => ?_)
    have s0_16 := ef 0 he_16 (u4 rfl s0_13)
    have s1_16 := ef 1 he_16 (u4 rfl s1_13)
    have s24_16 := ef 24 he_16 up_h
    clear he_16 s0_13 s1_13 s3_13
    refine thenj_n <| jw_true s24_16 ?_
    refine jw_ret <| blockj_r <| thenj_r <| blockj_r <| genj_r (fun hb_ => (by cases hb_))
  replace hq_3 := bf hq_3
  refine jw_exit <| thenj_x <| thenj_x <| blockj_hit ?_
  refine genj_n (fun hb_ => ?_)
  (rw [List.length_map]; have h0 : r = [] := List.eq_nil_of_length_eq_zero (by omega); rw [h0, linesY_nil] at p1; simp at p1; omega)
def cutN (l : List UInt8) : List UInt8 := trimSuffix l [10]
theorem cutN_len (l : List UInt8) : (cutN l).length ≤ l.length := by
 unfold cutN trimSuffix
 split
 ·rw [List.length_take]; omega
 ·exact Nat.le_refl _
structure PSt where
 nm : List UInt8
 ps : List Piece
 at' : List Int
structure PRes where
 nm : List UInt8
 ps : List Piece
 ml : Int
 mc : Int
 e : Int
def scn0 (i : Int) : Scn := ⟨i, 0, 0, 0, 0, 0⟩
def stepS (st : PSt) (i : Int) (l : List UInt8) : Scn := if st.at' = [] then hdS l (pekS l (scn0 i)) else pcS l (pekS l (scn0 i))
def stepT (st : PSt) (i : Int) (l : List UInt8) : PSt := if st.at' = [] then ⟨hdN l (pekS l (scn0 i)), st.ps, st.at' ++ [i]⟩ else ⟨st.nm, st.ps ++ [pcV l (pekS l (scn0 i))], st.at' ++ [i]⟩
def finP (i : Int) (st : PSt) : PRes :=
 if st.at' = [] then ⟨[], [], i + 1, 1, 6⟩ else
 if (chk (bs st.nm) st.ps).2 = 0 then ⟨st.nm, st.ps, 0, 0, 0⟩ else
 ⟨[], [], st.at'.getD (if (chk (bs st.nm) st.ps).2 = 2 then ((chk (bs st.nm) st.ps).1 + 1).toNat else 0) 0, 1, (chk (bs st.nm) st.ps).2⟩
def goP : Int → PSt → List (List UInt8) → PRes
 | i, st, [] => finP i st
 | i, st, l :: ls => if nxtW l 0 = [] then goP (i + 1) st ls else if (stepS st (i + 1) l).e = 0 then goP (i + 1) (stepT st (i + 1) l) ls else ⟨[], [], (stepS st (i + 1) l).ml, (stepS st (i + 1) l).mc, (stepS st (i + 1) l).e⟩
def prgP (tx : List UInt8) : PRes := if 60000 < tx.length then ⟨[], [], 0, 0, 8⟩ else goP 0 ⟨[], [], []⟩ ((linesY tx).map cutN)
def prA (r : PRes) : AV := .tuple [trA (bs r.nm) r.ps, .agg [iA r.ml, iA r.mc], iA r.e]
structure PInv (tx : List UInt8) (i : Nat) (st : PSt) (R : PRes) : Prop where
 go : goP i st (((linesY tx).map cutN).drop i) = R
 le : i ≤ (linesY tx).length
 nm : st.nm.length ≤ 60000
 ps : st.ps.length ≤ i
 atz : st.at' = [] → st.ps = []
 ato : st.at' ≠ [] → st.at'.length = st.ps.length + 1
theorem linesY_len (l : List UInt8) : (linesY l).length ≤ l.length := by
 have key : ∀ (n : Nat) (l : List UInt8), l.length ≤ n → (linesY l).length ≤ l.length := by
  intro n
  induction n with
  | zero =>
   intro l h
   have : l = [] := List.eq_nil_of_length_eq_zero (by omega)
   subst this; simp [linesY_nil]
  | succ n ih =>
   intro l h
   by_cases h0 : l = []
   ·subst h0; simp [linesY_nil]
   ·have h1 := tlL_len h0
    have h2 := ih (tlL l) (by omega)
    rw [linesY_step h0, List.length_cons]; omega
 exact key l.length l (Nat.le_refl _)
theorem linesY_mem {l y : List UInt8} (h : y ∈ linesY l) : y.length ≤ l.length := by
 have key : ∀ (n : Nat) (l : List UInt8), l.length ≤ n → y ∈ linesY l → y.length ≤ l.length := by
  intro n
  induction n with
  | zero =>
   intro l h hy
   have : l = [] := List.eq_nil_of_length_eq_zero (by omega)
   subst this; simp [linesY_nil] at hy
  | succ n ih =>
   intro l h hy
   by_cases h0 : l = []
   ·subst h0; simp [linesY_nil] at hy
   ·have h1 := tlL_len h0
    rw [linesY_step h0] at hy
    rcases List.mem_cons.1 hy with rfl | hy
    ·unfold hdL; split
     ·rw [List.length_take]; omega
     ·exact Nat.le_refl _
    ·have := ih (tlL l) (by omega) hy; omega
 exact key l.length l (Nat.le_refl _) h
theorem ln_of {tx : List UInt8} {i : Nat} {a : AV} (h : ((linesY tx).map lnE)[i]? = some [a]) : ∃ l, (linesY tx)[i]? = some l ∧ a = .v (.string (bs l)) ∧ l.length ≤ tx.length ∧ i < (linesY tx).length := by
 rw [List.getElem?_map] at h
 cases hq : (linesY tx)[i]? with
 | none => rw [hq] at h; cases h
 | some l =>
  rw [hq] at h
  simp [lnE] at h
  exact ⟨l, rfl, h.symm, linesY_mem (List.mem_of_getElem? hq), (List.getElem?_eq_some_iff.1 hq).1⟩
theorem PInv.drop {tx : List UInt8} {i : Nat} {st : PSt} {R : PRes} {l : List UInt8} (h : PInv tx i st R) (hl : (linesY tx)[i]? = some l) : goP i st (cutN l :: ((linesY tx).map cutN).drop (i + 1)) = R := by
 rw [← h.go]
 congr 1
 have hi := (List.getElem?_eq_some_iff.1 hl).1
 have hd := List.drop_eq_getElem_cons (l := (linesY tx).map cutN) (i := i) (by rw [List.length_map]; exact hi)
 rw [hd]
 congr 1
 rw [List.getElem_map]
 have := (List.getElem?_eq_some_iff.1 hl).2
 rw [this]
theorem PInv.skip {tx : List UInt8} {i : Nat} {st : PSt} {R : PRes} {l : List UInt8} (h : PInv tx i st R) (hl : (linesY tx)[i]? = some l) (hn : nxtW (cutN l) 0 = []) : PInv tx (i + 1) st R := by
 have h1 := h.drop hl
 simp only [goP, if_pos hn] at h1
 exact ⟨by rw [← h1]; rfl, (List.getElem?_eq_some_iff.1 hl).1, h.nm, by have := h.ps; omega, h.atz, h.ato⟩
theorem PInv.stop {tx : List UInt8} {i : Nat} {st : PSt} {R : PRes} {l : List UInt8} (h : PInv tx i st R) (hl : (linesY tx)[i]? = some l) (hn : nxtW (cutN l) 0 ≠ []) (he : (stepS st (i + 1) (cutN l)).e ≠ 0) : R = ⟨[], [], (stepS st (i + 1) (cutN l)).ml, (stepS st (i + 1) (cutN l)).mc, (stepS st (i + 1) (cutN l)).e⟩ := by
 have h1 := h.drop hl
 simp only [goP, if_neg hn, if_neg he] at h1
 exact h1.symm
theorem PInv.step {tx : List UInt8} {i : Nat} {st : PSt} {R : PRes} {l : List UInt8} (h : PInv tx i st R) (htx : tx.length ≤ 60000) (hl : (linesY tx)[i]? = some l) (hn : nxtW (cutN l) 0 ≠ []) (he : (stepS st (i + 1) (cutN l)).e = 0) : PInv tx (i + 1) (stepT st (i + 1) (cutN l)) R := by
 have h1 := h.drop hl
 simp only [goP, if_neg hn, if_pos he] at h1
 have hll : l.length ≤ tx.length := linesY_mem (List.mem_of_getElem? hl)
 have hc := cutN_len l
 have hps := h.ps
 refine ⟨by rw [← h1]; rfl, (List.getElem?_eq_some_iff.1 hl).1, ?_, ?_, ?_, ?_⟩
 ·unfold stepT
  split
  ·have a1 := nxtW_len (cutN l) (wrdS (cutN l) (pekS (cutN l) (scn0 (i + 1))) wTrack).a
   have a2 := rstW_len (cutN l) (wrdS (cutN l) (pekS (cutN l) (scn0 (i + 1))) wTrack).a
   show (nxtW _ _).length ≤ _
   omega
  ·exact h.nm
 ·unfold stepT
  split
  ·show st.ps.length ≤ _; omega
  ·simp; omega
 ·unfold stepT
  split
  ·intro hx; simp at hx
  ·intro hx; simp at hx
 ·unfold stepT
  split
  ·rename_i h0; intro _; rw [h0, show st.ps = [] from h.atz h0]; rfl
  ·rename_i h0; intro _; simp [h.ato h0]
theorem PInv.last {tx : List UInt8} {st : PSt} {R : PRes} (h : PInv tx (linesY tx).length st R) : R = finP (linesY tx).length st := by
 rw [← h.go, List.drop_eq_nil_of_le (by simp)]; rfl
theorem stepA {st : PSt} (h : st.at' = []) (i : Int) (l : List UInt8) : stepS st i l = hdS l (pekS l (scn0 i)) ∧ stepT st i l = ⟨hdN l (pekS l (scn0 i)), st.ps, st.at' ++ [i]⟩ := by
 unfold stepS stepT; rw [if_pos h, if_pos h]; exact ⟨rfl, rfl⟩
theorem stepB {st : PSt} (h : ¬ st.at' = []) (i : Int) (l : List UInt8) : stepS st i l = pcS l (pekS l (scn0 i)) ∧ stepT st i l = ⟨st.nm, st.ps ++ [pcV l (pekS l (scn0 i))], st.at' ++ [i]⟩ := by
 unfold stepS stepT; rw [if_neg h, if_neg h]; exact ⟨rfl, rfl⟩
theorem err0_ne2 (nm : ByteArray) (ps : List Piece) : err0 nm ps ≠ 2 := by
 unfold err0
 generalize isNameB nm = b0
 generalize decide ((0 : Int) < ps.length) = b1
 generalize decide ((ps.length : Int) ≤ 12) = b2
 cases b0 <;> cases b1 <;> cases b2 <;> simp [firstE, unlessE]
theorem chk_rng {nm : ByteArray} {ps : List Piece} (h : (chk nm ps).2 = 2) : 0 ≤ (chk nm ps).1 ∧ (chk nm ps).1 < ps.length := by
 have h2 := err0_ne2 nm ps
 unfold chk at h ⊢
 split at h
 ·exact absurd h h2
 ·rename_i h3
  rw [if_neg h3]
  split at h
  ·rename_i i hi
   have := (List.findIdx?_eq_some_iff_getElem.1 hi).1
   exact ⟨by show (0 : Int) ≤ (i : Int); omega, by show (i : Int) < ps.length; omega⟩
  ·cases h
end Go.Proofs.YtjhcfpdgldpicaaGreatDoor
namespace Go.Proofs.YtjhcfpdgldpicaaGreatDoor
open Go Go.RowKit Go.Proofs
theorem k4_bz115 : (Tryz.prog.info? 115).bind (·.zero) = some (.agg #[.string ByteArray.empty, .slice none 0 0]) := by kernel_rfl
theorem k4_bu115 : Tryz.prog.underlying 115 = some (.struct (fsOf Tryz.prog 115)) := by kernel_rfl
theorem k4_bp115 : ∀ w, ((fsOf Tryz.prog 115).mapM fun f => Prod.mk f.offset <$> sizeOf f.type : Sem (Array (Nat × Nat))).run Tryz.prog w = .ok (#[(0, 2)]) w := fun _ => by kernel_rfl
theorem k4_bz178 : (Tryz.prog.info? 178).bind (·.zero) = some (.agg #[.string ByteArray.empty, .slice none 0 0, .int .i64 0, .int .i64 0, .int .i64 0]) := by kernel_rfl
theorem k4_bu178 : Tryz.prog.underlying 178 = some (.struct (fsOf Tryz.prog 178)) := by kernel_rfl
theorem k4_bp178 : ∀ w, ((fsOf Tryz.prog 178).mapM fun f => Prod.mk f.offset <$> sizeOf f.type : Sem (Array (Nat × Nat))).run Tryz.prog w = .ok (#[(0, 2), (2, 3)]) w := fun _ => by kernel_rfl
theorem k4_fl178_1 : FldIs Tryz.prog 178 1 2 true 3 := by unfold FldIs; kernel_rfl
theorem k4_fl81_0 : FldIs Tryz.prog 81 0 0 false 1 := by unfold FldIs; kernel_rfl
theorem k4_fl81_1 : FldIs Tryz.prog 81 1 1 false 1 := by unfold FldIs; kernel_rfl
theorem k4_fl81_2 : FldIs Tryz.prog 81 2 2 false 1 := by unfold FldIs; kernel_rfl
theorem k4_hcf141 : ∀ args w, (callFunc 141 args).run Tryz.prog w = .ok (.enter 141 args) w := fun _ _ => by kernel_rfl
theorem k4_hcf143 : ∀ args w, (callFunc 143 args).run Tryz.prog w = .ok (.enter 143 args) w := fun _ _ => by kernel_rfl
theorem k4_sl219 : SlIs Tryz.prog 219 29 1 8 (.int .i64 0) := ⟨by kernel_rfl, by kernel_rfl, by kernel_rfl⟩
theorem k4_sl22 : SlIs Tryz.prog 22 111 4 32 (.agg #[.int .i64 0, .int .i64 0, .int .i64 0, .bool false]) := ⟨by kernel_rfl, by kernel_rfl, by kernel_rfl⟩
theorem k4_ty111 : TyIs Tryz.prog 111 true 4 := ⟨by kernel_rfl, by kernel_rfl⟩
theorem k4_ty115 : TyIs Tryz.prog 115 true 2 := ⟨by kernel_rfl, by kernel_rfl⟩
theorem k4_ty178 : TyIs Tryz.prog 178 true 5 := ⟨by kernel_rfl, by kernel_rfl⟩
theorem k4_ty22 : TyIs Tryz.prog 22 false 1 := ⟨by kernel_rfl, by kernel_rfl⟩
theorem k4_ty24 : TyIs Tryz.prog 24 true 2 := ⟨by kernel_rfl, by kernel_rfl⟩
theorem k4_ty3 : TyIs Tryz.prog 3 false 1 := ⟨by kernel_rfl, by kernel_rfl⟩
theorem k4_ty81 : TyIs Tryz.prog 81 true 3 := ⟨by kernel_rfl, by kernel_rfl⟩
def sysRight (b d v : Int) : Bool := withinB b 1 3000 && withinB d 0 500 && withinB v 0 2000
def sysE (b d v : Int) : Int := firstE [unlessE (sysRight b d v) 2, unlessE (decide (d ≤ b)) 9]
set_option maxRecDepth 100000 in
set_option maxHeartbeats 1000000 in
theorem checkSystem_ok (b d v : Int) : FnOk Tryz.prog 141 [syA b d v] (fun q => q = iA (sysE b d v)) := by
 refine fnOk_of (fn := Tryz.f141) 27 (by kernel_rfl) rfl (by kernel_rfl) (Nat.le_of_ble_eq_true rfl) ?_
 intro e_0 m_0 hA hm_0
 have s0_0 : evA e_0 (.tmp 0) = _ := hA 0 _ rfl
 have ml_0 : m_0.length = 0 := by rw [hm_0]; rfl
 clear hA hm_0
 refine aw_seq <| at_ <| al_stm (st_box s0_0 rfl ml_0) trivial rfl (fun m_1 hm_1 => ?_)
 have mo0_1 := m_push hm_1 ml_0
 have ml_1 := m_push_l hm_1 ml_0
 have ml_1 : _ = 1 := ml_1
 clear hm_1
 refine ar (ro_assign ev_c) rfl <| ae1 (up_m rfl up_h) ?_; clear s0_0; intro e_2 s1_2
 refine then_n <| aw_seq <| at_ <| ar (ro_fld_ptr k4_fl81_0 rfl s1_2) rfl <| ar (ro_eq (ro_ld_ptr k4_ty3 rfl mo0_1 up_h (nle rfl)) (by simp only [pS, Value.cells, Nat.reduceAdd] <;> rfl)) rfl ?_
 refine ar (ro_call (evL_cons up_h (evL_cons ev_c (evL_cons ev_c evL_nil))) rfl (within_ok _ _ _) qhcf110) rfl <| ar (ro_move up_h) rfl <| al_case up_h (fun hb_3 hq_3 => ?_) (fun hb_3 hq_3 => ?_)
 ·skip
  refine al_ro' (ro_fld_ptr k4_fl81_1 rfl (u4 rfl s1_2)) ⟨_, rfl, hb_3⟩ rfl ?_
  refine al_ro' (ro_eq (ro_ld_ptr k4_ty3 rfl mo0_1 up_h (nle rfl)) (by simp only [pS, Value.cells, Nat.reduceAdd] <;> rfl)) ⟨_, rfl, (up_m rfl hb_3)⟩ rfl ?_
  refine al_ro' (ro_call (evL_cons up_h (evL_cons ev_c (evL_cons ev_c evL_nil))) rfl (within_ok _ _ _) qhcf110) ⟨_, rfl, (u2 rfl hb_3)⟩ rfl ?_
  refine ar (ro_pickT (up_m rfl (u2 rfl hb_3)) up_h) rfl <| ar (ro_move up_h) rfl <| al_case up_h (fun hb_4 hq_4 => ?_) (fun hb_4 hq_4 => ?_)
  ·skip
   refine al_ro' (ro_fld_ptr k4_fl81_2 rfl (up_m rfl (u8 rfl s1_2))) ⟨_, rfl, hb_4⟩ rfl ?_
   refine al_ro' (ro_eq (ro_ld_ptr k4_ty3 rfl mo0_1 up_h (nle rfl)) (by simp only [pS, Value.cells, Nat.reduceAdd] <;> rfl)) ⟨_, rfl, (up_m rfl hb_4)⟩ rfl ?_
   refine al_ro' (ro_call (evL_cons up_h (evL_cons ev_c (evL_cons ev_c evL_nil))) rfl (within_ok _ _ _) qhcf110) ⟨_, rfl, (u2 rfl hb_4)⟩ rfl ?_
   refine ar (ro_pickT (up_m rfl (u2 rfl hb_4)) up_h) rfl <| ar (ro_assign up_h) rfl <| ae2 (u2 rfl (u4 rfl (u8 rfl s1_2))) up_h ?_; clear hb_3 hb_4 s1_2; intro e_5 s1_5 s3_5
   refine then_n <| aw_seq <| aw_draw 11 (by kernel_rfl) (by kernel_rfl) (by kernel_rfl) (by kernel_rfl) ?_
   refine dr (ro_move s3_5) rfl <| dr (ro_call (evL_cons up_h (evL_cons ev_c evL_nil)) rfl (unless_ok _ _) qhcf93) rfl <| dr (ro_fld_ptr k4_fl81_1 rfl (u2 rfl s1_5)) rfl <| dr (ro_eq (ro_ld_ptr k4_ty3 rfl mo0_1 up_h (nle rfl)) (by simp only [pS, Value.cells, Nat.reduceAdd] <;> rfl)) rfl ?_
   refine dr (ro_fld_ptr k4_fl81_0 rfl (u4 rfl s1_5)) rfl <| dr (ro_eq (ro_ld_ptr k4_ty3 rfl mo0_1 up_h (nle rfl)) (by simp only [pS, Value.cells, Nat.reduceAdd] <;> rfl)) rfl ?_
   refine dr (ro_leq (u2 rfl up_h) up_h) rfl <| dr (ro_call (evL_cons up_h (evL_cons ev_c evL_nil)) rfl (unless_ok _ _) qhcf93) rfl <| dr (ro_lit k4_sl219 (evP_cons (u2 rfl (u4 rfl up_h)) (evP_cons up_h evP_nil)) rfl rfl rfl rfl) rfl <| dr (ro_call (evL_cons up_h evL_nil) rfl (first_ok [_, _] (by simp)) qhcf85) rfl ?_
   refine dr (ro_assign up_h) rfl <| ds_nil <| ae1 up_h ?_; clear s1_5 s3_5; intro e_6 s2_6
   refine then_n <| aw_ret <| ret1 (.inr rfl) (by kernel_rfl) (resV_tmp s2_6) (.ro _ rfl) ?_
   clear s2_6 mo0_1 ml_1
   simp_all [sysE, sysRight]
  refine al_skip' ⟨_, rfl, .inl hb_4⟩ rfl ?_
  refine al_skip' ⟨_, rfl, .inl (up_m rfl hb_4)⟩ rfl ?_
  refine al_skip' ⟨_, rfl, .inl (u2 rfl hb_4)⟩ rfl ?_
  refine ar (ro_pickF (up_m rfl (u2 rfl hb_4)) ev_c) rfl <| ar (ro_assign up_h) rfl <| ae2 (u2 rfl (u4 rfl (u8 rfl s1_2))) up_h ?_; clear hb_3 hb_4 s1_2; intro e_7 s1_7 s3_7
  refine then_n <| aw_seq <| aw_draw 11 (by kernel_rfl) (by kernel_rfl) (by kernel_rfl) (by kernel_rfl) ?_
  refine dr (ro_move s3_7) rfl <| dr (ro_call (evL_cons up_h (evL_cons ev_c evL_nil)) rfl (unless_ok _ _) qhcf93) rfl <| dr (ro_fld_ptr k4_fl81_1 rfl (u2 rfl s1_7)) rfl <| dr (ro_eq (ro_ld_ptr k4_ty3 rfl mo0_1 up_h (nle rfl)) (by simp only [pS, Value.cells, Nat.reduceAdd] <;> rfl)) rfl ?_
  refine dr (ro_fld_ptr k4_fl81_0 rfl (u4 rfl s1_7)) rfl <| dr (ro_eq (ro_ld_ptr k4_ty3 rfl mo0_1 up_h (nle rfl)) (by simp only [pS, Value.cells, Nat.reduceAdd] <;> rfl)) rfl ?_
  refine dr (ro_leq (u2 rfl up_h) up_h) rfl <| dr (ro_call (evL_cons up_h (evL_cons ev_c evL_nil)) rfl (unless_ok _ _) qhcf93) rfl <| dr (ro_lit k4_sl219 (evP_cons (u2 rfl (u4 rfl up_h)) (evP_cons up_h evP_nil)) rfl rfl rfl rfl) rfl <| dr (ro_call (evL_cons up_h evL_nil) rfl (first_ok [_, _] (by simp)) qhcf85) rfl ?_
  refine dr (ro_assign up_h) rfl <| ds_nil <| ae1 up_h ?_; clear s1_7 s3_7; intro e_8 s2_8
  refine then_n <| aw_ret <| ret1 (.inr rfl) (by kernel_rfl) (resV_tmp s2_8) (.ro _ rfl) ?_
  clear s2_8 mo0_1 ml_1
  simp_all [sysE, sysRight]
 refine al_skip' ⟨_, rfl, .inl hb_3⟩ rfl ?_
 refine al_skip' ⟨_, rfl, .inl (up_m rfl hb_3)⟩ rfl ?_
 refine al_skip' ⟨_, rfl, .inl (u2 rfl hb_3)⟩ rfl ?_
 refine ar (ro_pickF (up_m rfl (u2 rfl hb_3)) ev_c) rfl <| ar (ro_move up_h) rfl <| al_skip' ⟨_, rfl, .inl up_h⟩ rfl ?_
 refine al_skip' ⟨_, rfl, .inl (up_m rfl up_h)⟩ rfl ?_
 refine al_skip' ⟨_, rfl, .inl (u2 rfl up_h)⟩ rfl ?_
 refine ar (ro_pickF (up_m rfl (u2 rfl up_h)) ev_c) rfl <| ar (ro_assign up_h) rfl <| ae2 (u2 rfl (u4 rfl (u8 rfl s1_2))) up_h ?_; clear hb_3 s1_2; intro e_9 s1_9 s3_9
 refine then_n <| aw_seq <| aw_draw 11 (by kernel_rfl) (by kernel_rfl) (by kernel_rfl) (by kernel_rfl) ?_
 refine dr (ro_move s3_9) rfl <| dr (ro_call (evL_cons up_h (evL_cons ev_c evL_nil)) rfl (unless_ok _ _) qhcf93) rfl <| dr (ro_fld_ptr k4_fl81_1 rfl (u2 rfl s1_9)) rfl <| dr (ro_eq (ro_ld_ptr k4_ty3 rfl mo0_1 up_h (nle rfl)) (by simp only [pS, Value.cells, Nat.reduceAdd] <;> rfl)) rfl ?_
 refine dr (ro_fld_ptr k4_fl81_0 rfl (u4 rfl s1_9)) rfl <| dr (ro_eq (ro_ld_ptr k4_ty3 rfl mo0_1 up_h (nle rfl)) (by simp only [pS, Value.cells, Nat.reduceAdd] <;> rfl)) rfl ?_
 refine dr (ro_leq (u2 rfl up_h) up_h) rfl <| dr (ro_call (evL_cons up_h (evL_cons ev_c evL_nil)) rfl (unless_ok _ _) qhcf93) rfl <| dr (ro_lit k4_sl219 (evP_cons (u2 rfl (u4 rfl up_h)) (evP_cons up_h evP_nil)) rfl rfl rfl rfl) rfl <| dr (ro_call (evL_cons up_h evL_nil) rfl (first_ok [_, _] (by simp)) qhcf85) rfl ?_
 refine dr (ro_assign up_h) rfl <| ds_nil <| ae1 up_h ?_; clear s1_9 s3_9; intro e_10 s2_10
 refine then_n <| aw_ret <| ret1 (.inr rfl) (by kernel_rfl) (resV_tmp s2_10) (.ro _ rfl) ?_
 clear s2_10 mo0_1 ml_1
 simp_all [sysE, sysRight]
section
variable (nm : ByteArray) (ps : List Piece) (hs : nm.size ≤ 1000000000) (hp : ps.length ≤ 1000000000)
include hs hp
set_option maxRecDepth 100000 in
set_option maxHeartbeats 1000000 in
theorem rTrackErr_ok : FnOk Tryz.prog 14 [trA nm ps] (fun q => q = iA (chk nm ps).2) := by
 refine fnOk_of (fn := Tryz.f14) 11 (by kernel_rfl) rfl (by kernel_rfl) (Nat.le_of_ble_eq_true rfl) ?_
 intro e_0 m_0 hA hm_0
 have s0_0 : evA e_0 (.tmp 0) = _ := hA 0 _ rfl
 have ml_0 : m_0.length = 0 := by rw [hm_0]; rfl
 clear hA hm_0
 refine aw_seq <| at_ <| al_stm (st_box s0_0 rfl ml_0) trivial rfl (fun m_1 hm_1 => ?_)
 have mo0_1 := m_push hm_1 ml_0
 have ml_1 := m_push_l hm_1 ml_0
 have ml_1 : _ = 1 := ml_1
 clear hm_1
 refine ar (ro_assign ev_c) rfl <| ae1 (up_m rfl up_h) ?_; clear s0_0; intro e_2 s1_2
 refine then_n <| aw_seq <| at_ <| ar (ro_eq (ro_ld_ptr k4_ty24 rfl mo0_1 s1_2 (nle rfl)) (by simp only [pS, Value.cells, Nat.reduceAdd] <;> rfl)) rfl ?_
 refine ar (ro_call (evL_cons up_h evL_nil) rfl (rCheckTrack_ok nm ps hs hp) qhcf48) rfl <| ar (ro_move up_h) rfl <| ar (ro_extract up_h rfl) rfl <| ar (ro_extract (up_m rfl up_h) rfl) rfl <| ar (ro_assign (up_m rfl up_h)) rfl <| ar (ro_assign (up_m rfl up_h)) rfl <| ae1 up_h ?_; clear s1_2; intro e_3 s4_3
 refine then_n <| aw_seq <| at_ <| ar (ro_move s4_3) rfl <| ar (ro_assign up_h) rfl <| ae1 up_h ?_; clear s4_3; intro e_4 s2_4
 refine then_n <| aw_ret <| ret1 (.inr rfl) (by kernel_rfl) (resV_tmp s2_4) (.ro _ rfl) ?_
 clear s2_4 mo0_1 ml_1
 rfl
set_option maxRecDepth 100000 in
set_option maxHeartbeats 1000000 in
theorem open_ok : FnOk Tryz.prog 49 [trA nm ps] (fun q => q = .tuple [trA nm ps, iA (chk nm ps).2]) := by
 refine fnOk_of (fn := Tryz.f49) 14 (by kernel_rfl) rfl (by kernel_rfl) (Nat.le_of_ble_eq_true rfl) ?_
 intro e_0 m_0 hA hm_0
 have s0_0 : evA e_0 (.tmp 0) = _ := hA 0 _ rfl
 have ml_0 : m_0.length = 0 := by rw [hm_0]; rfl
 clear hA hm_0
 refine aw_seq <| at_ <| al_stm (st_box s0_0 rfl ml_0) trivial rfl (fun m_1 hm_1 => ?_)
 have mo0_1 := m_push hm_1 ml_0
 have ml_1 := m_push_l hm_1 ml_0
 have ml_1 : _ = 1 := ml_1
 clear hm_1
 refine al_stm (st_alloc qaz115 rfl ml_1) trivial rfl (fun m_2 hm_2 => ?_)
 have mo1_2 := m_push hm_2 ml_1
 simp only [pS, Value.cells, Nat.reduceAdd] at mo1_2
 have mo0_2 := m_push_o hm_2 mo0_1
 have ml_2 := m_push_l hm_2 ml_1
 have ml_2 : _ = 2 := ml_2
 clear hm_2 mo0_1
 refine ar (ro_assign ev_c) rfl <| ae2 (u2 rfl up_h) (up_m rfl up_h) ?_; clear s0_0; intro e_3 s1_3 s2_3
 refine then_n <| aw_seq <| at_ <| ar (ro_eq (ro_ld_ptr k4_ty24 rfl mo0_2 s1_3 (nle rfl)) (by simp only [pS, Value.cells, Nat.reduceAdd] <;> rfl)) rfl ?_
 refine ar (ro_call (evL_cons up_h evL_nil) rfl (checkTrack_ok nm ps hs hp) qhcf44) rfl <| ar (ro_move up_h) rfl <| ar (ro_extract up_h rfl) rfl <| ar (ro_extract (up_m rfl up_h) rfl) rfl <| ar (ro_assign (up_m rfl up_h)) rfl <| ar (ro_assign (up_m rfl up_h)) rfl <| ae3 (up_m rfl (u2 rfl (u4 rfl s1_3))) (up_m rfl (u2 rfl (u4 rfl s2_3))) up_h ?_; clear s1_3 s2_3; intro e_4 s1_4 s2_4 s5_4
 refine then_n <| aw_seq <| at_ <| ar (ro_eq (ro_ld_ptr k4_ty24 rfl mo0_2 s1_4 (nle rfl)) (by simp only [pS, Value.cells, Nat.reduceAdd] <;> rfl)) rfl ?_
 refine ar (ro_build (evP_cons up_h evP_nil) k4_bz115 k4_bu115 k4_bp115 rfl) rfl ?_
 refine ar (ro_move (u2 rfl s5_4)) rfl <| al_stm (st_store (up_m rfl (u2 rfl s2_4)) (up_m rfl up_h) rfl rfl mo1_2 qsz115 rfl (nle rfl)) trivial rfl (fun m_5 hm_5 => ?_)
 have mo1_5 := m_set hm_5 mo1_2
 simp only [pS, Value.cells, Nat.reduceAdd] at mo1_5
 have mo0_5 := m_set_o hm_5 mo0_2 (by decide)
 have ml_5 := m_set_l hm_5 ml_2
 clear hm_5 mo1_2 mo0_2
 refine ar (ro_assign (up_n up_h)) rfl <| ae2 (up_m rfl (up_n (up_m rfl (u2 rfl s2_4)))) up_h ?_; clear s1_4 s2_4 s5_4; intro e_6 s2_6 s3_6
 refine then_n <| aw_ret <| ret2 (.inr rfl) (by kernel_rfl) (resV_cell s2_6 mo1_5 k4_ty115 (nle rfl) (by simp)) (resV_tmp s3_6) (vw_r (.ro _ rfl)) (.ro _ rfl) ?_
 clear s2_6 s3_6 mo1_5 mo0_5 ml_5
 rfl
set_option maxRecDepth 100000 in
set_option maxHeartbeats 1000000 in
theorem openRide_ok (b d v : Int) : FnOk Tryz.prog 84 [trA nm ps, syA b d v] (fun q => q = .tuple [riA nm ps b d v, iA (firstE [(chk nm ps).2, sysE b d v])]) := by
 refine fnOk_of (fn := Tryz.f84) 21 (by kernel_rfl) rfl (by kernel_rfl) (Nat.le_of_ble_eq_true rfl) ?_
 intro e_0 m_0 hA hm_0
 have s0_0 : evA e_0 (.tmp 0) = _ := hA 0 _ rfl
 have s1_0 : evA e_0 (.tmp 1) = _ := hA 1 _ rfl
 have ml_0 : m_0.length = 0 := by rw [hm_0]; rfl
 clear hA hm_0
 refine aw_seq <| at_ <| al_stm (st_box s0_0 rfl ml_0) trivial rfl (fun m_1 hm_1 => ?_)
 have mo0_1 := m_push hm_1 ml_0
 have ml_1 := m_push_l hm_1 ml_0
 have ml_1 : _ = 1 := ml_1
 clear hm_1
 refine al_stm (st_box (up_m rfl s1_0) rfl ml_1) trivial rfl (fun m_2 hm_2 => ?_)
 have mo1_2 := m_push hm_2 ml_1
 have mo0_2 := m_push_o hm_2 mo0_1
 have ml_2 := m_push_l hm_2 ml_1
 have ml_2 : _ = 2 := ml_2
 clear hm_2 mo0_1
 refine al_stm (st_alloc qaz178 rfl ml_2) trivial rfl (fun m_3 hm_3 => ?_)
 have mo2_3 := m_push hm_3 ml_2
 simp only [pS, Value.cells, Nat.reduceAdd] at mo2_3
 have mo1_3 := m_push_o hm_3 mo1_2
 have mo0_3 := m_push_o hm_3 mo0_2
 have ml_3 := m_push_l hm_3 ml_2
 have ml_3 : _ = 3 := ml_3
 clear hm_3 mo1_2 mo0_2
 refine ar (ro_assign ev_c) rfl <| ae3 (up_m rfl (u2 rfl up_h)) (u2 rfl up_h) (up_m rfl up_h) ?_; clear s0_0 s1_0; intro e_4 s2_4 s3_4 s4_4
 refine then_n <| aw_seq <| at_ <| ar (ro_eq (ro_ld_ptr k4_ty24 rfl mo0_3 s2_4 (nle rfl)) (by simp only [pS, Value.cells, Nat.reduceAdd] <;> rfl)) rfl ?_
 refine ar (ro_call (evL_cons up_h evL_nil) rfl (open_ok nm ps hs hp) qhcf49) rfl <| ar (ro_move up_h) rfl <| ar (ro_extract up_h rfl) rfl <| ar (ro_extract (up_m rfl up_h) rfl) rfl <| al_stm (st_alloc qaz115 rfl ml_3) trivial rfl (fun m_5 hm_5 => ?_)
 have mo3_5 := m_push hm_5 ml_3
 simp only [pS, Value.cells, Nat.reduceAdd] at mo3_5
 have mo2_5 := m_push_o hm_5 mo2_3
 have mo1_5 := m_push_o hm_5 mo1_3
 have mo0_5 := m_push_o hm_5 mo0_3
 have ml_5 := m_push_l hm_5 ml_3
 have ml_5 : _ = 4 := ml_5
 clear hm_5 mo2_3 mo1_3 mo0_3
 refine al_stm (st_store up_h (u2 rfl up_h) rfl rfl mo3_5 qsz115 rfl (nle rfl)) trivial rfl (fun m_6 hm_6 => ?_)
 have mo3_6 := m_set hm_6 mo3_5
 simp only [pS, Value.cells, Nat.reduceAdd] at mo3_6
 have mo2_6 := m_set_o hm_6 mo2_5 (by decide)
 have mo1_6 := m_set_o hm_6 mo1_5 (by decide)
 have mo0_6 := m_set_o hm_6 mo0_5 (by decide)
 have ml_6 := m_set_l hm_6 ml_5
 clear hm_6 mo3_5 mo2_5 mo1_5 mo0_5
 refine ar (ro_assign (up_n (up_m rfl up_h))) rfl <| ae4 (up_m rfl (up_n (u2 rfl (u4 rfl s3_4)))) (up_m rfl (up_n (u2 rfl (u4 rfl s4_4)))) (up_m rfl (up_n up_h)) up_h ?_; clear s2_4 s3_4 s4_4; intro e_7 s3_7 s4_7 s6_7 s7_7
 refine then_n <| aw_seq <| aw_draw 8 (by kernel_rfl) (by kernel_rfl) (by kernel_rfl) (by kernel_rfl) ?_
 refine dr (ro_eq (ro_ld_ptr k4_ty115 rfl mo3_6 s6_7 (nle rfl)) (by simp only [pS, Value.cells, Nat.reduceAdd] <;> rfl)) rfl ?_
 refine dr (ro_eq (ro_ld_ptr k4_ty81 rfl mo1_6 (up_m rfl s3_7) (nle rfl)) (by simp only [pS, Value.cells, Nat.reduceAdd] <;> rfl)) rfl ?_
 refine dr (ro_build (evP_cons (up_m rfl up_h) (evP_cons up_h evP_nil)) k4_bz178 k4_bu178 k4_bp178 rfl) rfl ?_
 refine dr (ro_move (up_m rfl (u2 rfl s7_7))) rfl <| dr (ro_eq (ro_ld_ptr k4_ty81 rfl mo1_6 (u4 rfl s3_7) (nle rfl)) (by simp only [pS, Value.cells, Nat.reduceAdd] <;> rfl)) rfl ?_
 refine dr (ro_call (evL_cons up_h evL_nil) rfl (checkSystem_ok b d v) k4_hcf141) rfl <| dr (ro_lit k4_sl219 (evP_cons (u2 rfl up_h) (evP_cons up_h evP_nil)) rfl rfl rfl rfl) rfl <| dr (ro_call (evL_cons up_h evL_nil) rfl (first_ok [_, _] (by simp)) qhcf85) rfl ?_
 refine ds_nil <| al_stm (st_store (u8 rfl s4_7) (up_m rfl (u4 rfl up_h)) rfl rfl mo2_6 qsz178 rfl (nle rfl)) trivial rfl (fun m_8 hm_8 => ?_)
 have mo2_8 := m_set hm_8 mo2_6
 simp only [pS, Value.cells, Nat.reduceAdd] at mo2_8
 have mo3_8 := m_set_o hm_8 mo3_6 (by decide)
 have mo1_8 := m_set_o hm_8 mo1_6 (by decide)
 have mo0_8 := m_set_o hm_8 mo0_6 (by decide)
 have ml_8 := m_set_l hm_8 ml_6
 clear hm_8 mo3_6 mo2_6 mo1_6 mo0_6
 refine ar (ro_assign (up_n up_h)) rfl <| ae2 (up_m rfl (up_n (u8 rfl s4_7))) up_h ?_; clear s3_7 s4_7 s6_7 s7_7; intro e_9 s4_9 s5_9
 refine then_n <| aw_ret <| ret2 (.inr rfl) (by kernel_rfl) (resV_cell s4_9 mo2_8 k4_ty178 (nle rfl) (by simp)) (resV_tmp s5_9) (vw_r (.ro _ rfl)) (.ro _ rfl) ?_
 clear s4_9 s5_9 mo2_8 mo3_8 mo1_8 mo0_8 ml_8
 rfl
end
set_option maxRecDepth 100000 in
set_option maxHeartbeats 1000000 in
theorem last_ok (nm : ByteArray) (ps : List Piece) : FnOk Tryz.prog 97 [trA nm ps] (fun q => q = iA ps.length) := by
 refine fnOk_of (fn := Tryz.f97) 7 (by kernel_rfl) rfl (by kernel_rfl) (Nat.le_of_ble_eq_true rfl) ?_
 intro e_0 m_0 hA hm_0
 have s0_0 : evA e_0 (.tmp 0) = _ := hA 0 _ rfl
 have ml_0 : m_0.length = 0 := by rw [hm_0]; rfl
 clear hA hm_0
 refine aw_seq <| at_ <| al_stm (st_box s0_0 rfl ml_0) trivial rfl (fun m_1 hm_1 => ?_)
 have mo0_1 := m_push hm_1 ml_0
 have ml_1 := m_push_l hm_1 ml_0
 have ml_1 : _ = 1 := ml_1
 clear hm_1
 refine ar (ro_assign ev_c) rfl <| ae1 (up_m rfl up_h) ?_; clear s0_0; intro e_2 s1_2
 refine then_n <| aw_seq <| at_ <| ar (ro_fld_ptr qfl115_0 rfl s1_2) rfl <| ar (ro_fld_ptr qfl24_1 rfl up_h) rfl <| ar (ro_eq (ro_ld_ptr k4_ty22 rfl mo0_1 up_h (nle rfl)) (by simp only [pS, Value.cells, Nat.reduceAdd] <;> rfl)) rfl ?_
 refine ar (ro_eq (ro_len_row up_h rfl k4_sl22.1) (by simp only [lnS] <;> rfl)) rfl ?_
 refine ar (ro_assign up_h) rfl <| ae1 up_h ?_; clear s1_2; intro e_3 s2_3
 refine then_n <| aw_ret <| ret1 (.inr rfl) (by kernel_rfl) (resV_tmp s2_3) (.ro _ rfl) ?_
 clear s2_3 mo0_1 ml_1
 rfl
def Ok (ps : List Piece) : Prop := ∀ p ∈ ps, pieceB p = true
theorem Ok.at {ps : List Piece} (h : Ok ps) (i : Nat) : (0 ≤ (ps.getD i default).len ∧ (ps.getD i default).len ≤ 10000000) ∧ (-100 ≤ (ps.getD i default).grad ∧ (ps.getD i default).grad ≤ 100) ∧ (0 ≤ (ps.getD i default).lim ∧ (ps.getD i default).lim ≤ 20000000000) := by
 by_cases hi : i < ps.length
 ·have e : ps.getD i default = ps[i] := by simp [List.getD_eq_getElem?_getD, hi]
  have := h ps[i] (List.getElem_mem hi)
  rw [e]
  simp only [pieceB, withinB, Bool.and_eq_true, decide_eq_true_eq] at this
  omega
 ·have e : ps.getD i default = default := by simp [List.getD_eq_getElem?_getD, List.getElem?_eq_none (Nat.le_of_not_lt hi)]
  rw [e]
  decide
def losW (dec : Int) (p : Piece) : Int := 2 * (dec + 10 * p.grad) * p.len
theorem los_bound {dec : Int} {p : Piece} (hd : -3000 ≤ dec ∧ dec ≤ 3000) (hl : 0 ≤ p.len ∧ p.len ≤ 10000000) (hg : -100 ≤ p.grad ∧ p.grad ≤ 100) : -80000000000 ≤ losW dec p ∧ losW dec p ≤ 80000000000 := by
 unfold losW
 have h1 : -8000 ≤ 2 * (dec + 10 * p.grad) ∧ 2 * (dec + 10 * p.grad) ≤ 8000 := by omega
 generalize 2 * (dec + 10 * p.grad) = a at h1
 have h2 : a * p.len ≤ 8000 * p.len := Int.mul_le_mul_of_nonneg_right h1.2 hl.1
 have h3 : -8000 * p.len ≤ a * p.len := Int.mul_le_mul_of_nonneg_right h1.1 hl.1
 omega
section
variable (nm : ByteArray) (ps : List Piece) (hok : Ok ps) (b d v : Int) (i : Int) (h0 : 0 ≤ i) (h1 : i < ps.length)
include hok h0 h1
set_option maxRecDepth 100000 in
set_option maxHeartbeats 1000000 in
theorem loses_ok (dec : Int) (hd : -3000 ≤ dec ∧ dec ≤ 3000) : FnOk Tryz.prog 143 [riA nm ps b d v, iA dec, iA i] (fun q => q = iA (losW dec (ps.getD i.toNat default))) := by
 obtain ⟨hl, hg, _⟩ := hok.at i.toNat
 have hb := los_bound hd hl hg
 unfold losW at hb
 refine fnOk_of (fn := Tryz.f143) 24 (by kernel_rfl) rfl (by kernel_rfl) (Nat.le_of_ble_eq_true rfl) ?_
 intro e_0 m_0 hA hm_0
 have s0_0 : evA e_0 (.tmp 0) = _ := hA 0 _ rfl
 have s1_0 : evA e_0 (.tmp 1) = _ := hA 1 _ rfl
 have s2_0 : evA e_0 (.tmp 2) = _ := hA 2 _ rfl
 have ml_0 : m_0.length = 0 := by rw [hm_0]; rfl
 clear hA hm_0
 refine aw_seq <| at_ <| al_stm (st_box s0_0 rfl ml_0) trivial rfl (fun m_1 hm_1 => ?_)
 have mo0_1 := m_push hm_1 ml_0
 have ml_1 := m_push_l hm_1 ml_0
 have ml_1 : _ = 1 := ml_1
 clear hm_1
 refine ar (ro_assign ev_c) rfl <| ae3 (u2 rfl s1_0) (u2 rfl s2_0) (up_m rfl up_h) ?_; clear s0_0 s1_0 s2_0; intro e_2 s1_2 s2_2 s3_2
 refine then_n <| aw_seq <| at_ <| ar (ro_fld_ptr qfl178_0 rfl s3_2) rfl <| ar (ro_fld_ptr qfl115_0 rfl up_h) rfl <| ar (ro_fld_ptr qfl24_1 rfl up_h) rfl <| ar (ro_eq (ro_ld_ptr k4_ty22 rfl mo0_1 up_h (nle rfl)) (by simp only [pS, Value.cells, Nat.reduceAdd, pE] <;> rfl)) rfl ?_
 refine ar (ro_move (u4 rfl s2_2)) rfl <| ar (ro_eq (ro_ix k4_sl22 (up_m rfl up_h) up_h (by omega) (by first | (refine idx_map ?_; first | omega | (simp only [lnS]; omega)) | (refine idx_mapI ?_; first | omega | (simp only [lnS]; omega)) | (refine idx_mapN ?_; first | omega | (simp only [lnS]; omega)) | rfl)) (by simp only [pS, Value.cells, Nat.reduceAdd, pE] <;> rfl)) rfl ?_
 refine ar (ro_eq (ro_ld_ref k4_ty111 rfl up_h (nle rfl)) (by simp only [pS, Value.cells, Nat.reduceAdd, pE] <;> rfl)) rfl ?_
 refine al_stm (st_alloc qaz111 rfl ml_1) trivial rfl (fun m_3 hm_3 => ?_)
 have mo1_3 := m_push hm_3 ml_1
 simp only [pS, Value.cells, Nat.reduceAdd, pE] at mo1_3
 have mo0_3 := m_push_o hm_3 mo0_1
 have ml_3 := m_push_l hm_3 ml_1
 have ml_3 : _ = 2 := ml_3
 clear hm_3 mo0_1
 refine al_stm (st_store up_h (up_m rfl up_h) rfl rfl mo1_3 qsz111 rfl (nle rfl)) trivial rfl (fun m_4 hm_4 => ?_)
 have mo1_4 := m_set hm_4 mo1_3
 simp only [pS, Value.cells, Nat.reduceAdd, pE] at mo1_4
 have mo0_4 := m_set_o hm_4 mo0_3 (by decide)
 have ml_4 := m_set_l hm_4 ml_3
 clear hm_4 mo1_3 mo0_3
 refine ae2 (up_n (u8 rfl s1_2)) (up_n up_h) ?_; clear s1_2 s2_2 s3_2; intro e_5 s1_5 s7_5
 refine then_n <| aw_seq <| at_ <| ar (ro_move s1_5) rfl <| ar (ro_fld_ptr qfl111_1 rfl (up_m rfl s7_5)) rfl <| ar (ro_eq (ro_ld_ptr k4_ty3 rfl mo1_4 up_h (nle rfl)) (by simp only [pS, Value.cells, Nat.reduceAdd, pE] <;> rfl)) rfl ?_
 (refine ar (ro_mul' ev_c up_h ?_) rfl ?_; · (unfold In64; omega))
 (refine ar (ro_add' (up_m rfl (u2 rfl up_h)) up_h ?_) rfl ?_; · (unfold In64; omega))
 (refine ar (ro_mul' ev_c up_h ?_) rfl ?_; · (unfold In64; omega))
 refine ar (ro_fld_ptr qfl111_0 rfl (u2 rfl (u4 rfl s7_5))) rfl <| ar (ro_eq (ro_ld_ptr k4_ty3 rfl mo1_4 up_h (nle rfl)) (by simp only [pS, Value.cells, Nat.reduceAdd, pE] <;> rfl)) rfl ?_
 (refine ar (ro_mul' (u2 rfl up_h) up_h ?_) rfl ?_; · (unfold In64; omega))
 refine ar (ro_assign up_h) rfl <| ae1 up_h ?_; clear s1_5 s7_5; intro e_6 s6_6
 refine then_n <| aw_ret <| ret1 (.inr rfl) (by kernel_rfl) (resV_tmp s6_6) (.ro _ rfl) ?_
 clear s6_6 mo1_4 mo0_4 ml_4
 rfl
set_option maxRecDepth 100000 in
set_option maxHeartbeats 1000000 in
theorem braked_ok (hb : 0 ≤ b ∧ b ≤ 3000) : FnOk Tryz.prog 92 [riA nm ps b d v, iA i] (fun q => q = iA (losW b (ps.getD i.toNat default))) := by
 refine fnOk_of (fn := Tryz.f92) 11 (by kernel_rfl) rfl (by kernel_rfl) (Nat.le_of_ble_eq_true rfl) ?_
 intro e_0 m_0 hA hm_0
 have s0_0 : evA e_0 (.tmp 0) = _ := hA 0 _ rfl
 have s1_0 : evA e_0 (.tmp 1) = _ := hA 1 _ rfl
 have ml_0 : m_0.length = 0 := by rw [hm_0]; rfl
 clear hA hm_0
 refine aw_seq <| at_ <| al_stm (st_box s0_0 rfl ml_0) trivial rfl (fun m_1 hm_1 => ?_)
 have mo0_1 := m_push hm_1 ml_0
 have ml_1 := m_push_l hm_1 ml_0
 have ml_1 : _ = 1 := ml_1
 clear hm_1
 refine ar (ro_assign ev_c) rfl <| ae2 (u2 rfl s1_0) (up_m rfl up_h) ?_; clear s0_0 s1_0; intro e_2 s1_2 s2_2
 refine then_n <| aw_seq <| at_ <| ar (ro_eq (ro_ld_ptr k4_ty178 rfl mo0_1 s2_2 (nle rfl)) (by simp only [pS, Value.cells, Nat.reduceAdd] <;> rfl)) rfl ?_
 refine ar (ro_fld_ptr k4_fl178_1 rfl (up_m rfl s2_2)) rfl <| ar (ro_fld_ptr k4_fl81_0 rfl up_h) rfl <| ar (ro_eq (ro_ld_ptr k4_ty3 rfl mo0_1 up_h (nle rfl)) (by simp only [pS, Value.cells, Nat.reduceAdd] <;> rfl)) rfl ?_
 refine ar (ro_move (u4 rfl s1_2)) rfl <| ar (ro_call (evL_cons (u4 rfl up_h) (evL_cons (up_m rfl up_h) (evL_cons up_h evL_nil))) rfl (loses_ok nm ps hok b d v i h0 h1 b (by omega)) k4_hcf143) rfl ?_
 refine ar (ro_assign up_h) rfl <| ae1 up_h ?_; clear s1_2 s2_2; intro e_3 s4_3
 refine then_n <| aw_ret <| ret1 (.inr rfl) (by kernel_rfl) (resV_tmp s4_3) (.ro _ rfl) ?_
 clear s4_3 mo0_1 ml_1
 rfl
set_option maxRecDepth 100000 in
set_option maxHeartbeats 1000000 in
theorem coasting_ok (hb : 0 ≤ d ∧ d ≤ 3000) : FnOk Tryz.prog 142 [riA nm ps b d v, iA i] (fun q => q = iA (losW d (ps.getD i.toNat default))) := by
 refine fnOk_of (fn := Tryz.f142) 11 (by kernel_rfl) rfl (by kernel_rfl) (Nat.le_of_ble_eq_true rfl) ?_
 intro e_0 m_0 hA hm_0
 have s0_0 : evA e_0 (.tmp 0) = _ := hA 0 _ rfl
 have s1_0 : evA e_0 (.tmp 1) = _ := hA 1 _ rfl
 have ml_0 : m_0.length = 0 := by rw [hm_0]; rfl
 clear hA hm_0
 refine aw_seq <| at_ <| al_stm (st_box s0_0 rfl ml_0) trivial rfl (fun m_1 hm_1 => ?_)
 have mo0_1 := m_push hm_1 ml_0
 have ml_1 := m_push_l hm_1 ml_0
 have ml_1 : _ = 1 := ml_1
 clear hm_1
 refine ar (ro_assign ev_c) rfl <| ae2 (u2 rfl s1_0) (up_m rfl up_h) ?_; clear s0_0 s1_0; intro e_2 s1_2 s2_2
 refine then_n <| aw_seq <| at_ <| ar (ro_eq (ro_ld_ptr k4_ty178 rfl mo0_1 s2_2 (nle rfl)) (by simp only [pS, Value.cells, Nat.reduceAdd] <;> rfl)) rfl ?_
 refine ar (ro_fld_ptr k4_fl178_1 rfl (up_m rfl s2_2)) rfl <| ar (ro_fld_ptr k4_fl81_1 rfl up_h) rfl <| ar (ro_eq (ro_ld_ptr k4_ty3 rfl mo0_1 up_h (nle rfl)) (by simp only [pS, Value.cells, Nat.reduceAdd] <;> rfl)) rfl ?_
 refine ar (ro_move (u4 rfl s1_2)) rfl <| ar (ro_call (evL_cons (u4 rfl up_h) (evL_cons (up_m rfl up_h) (evL_cons up_h evL_nil))) rfl (loses_ok nm ps hok b d v i h0 h1 d (by omega)) k4_hcf143) rfl ?_
 refine ar (ro_assign up_h) rfl <| ae1 up_h ?_; clear s1_2 s2_2; intro e_3 s4_3
 refine then_n <| aw_ret <| ret1 (.inr rfl) (by kernel_rfl) (resV_tmp s4_3) (.ro _ rfl) ?_
 clear s4_3 mo0_1 ml_1
 rfl
set_option maxRecDepth 100000 in
set_option maxHeartbeats 1000000 in
theorem driven_ok (hb : 0 ≤ v ∧ v ≤ 3000) : FnOk Tryz.prog 98 [riA nm ps b d v, iA i] (fun q => q = iA (- losW (-v) (ps.getD i.toNat default))) := by
 obtain ⟨hl, hg, _⟩ := hok.at i.toNat
 have hbb := los_bound (dec := -v) (by omega) hl hg
 refine fnOk_of (fn := Tryz.f98) 13 (by kernel_rfl) rfl (by kernel_rfl) (Nat.le_of_ble_eq_true rfl) ?_
 intro e_0 m_0 hA hm_0
 have s0_0 : evA e_0 (.tmp 0) = _ := hA 0 _ rfl
 have s1_0 : evA e_0 (.tmp 1) = _ := hA 1 _ rfl
 have ml_0 : m_0.length = 0 := by rw [hm_0]; rfl
 clear hA hm_0
 refine aw_seq <| at_ <| al_stm (st_box s0_0 rfl ml_0) trivial rfl (fun m_1 hm_1 => ?_)
 have mo0_1 := m_push hm_1 ml_0
 have ml_1 := m_push_l hm_1 ml_0
 have ml_1 : _ = 1 := ml_1
 clear hm_1
 refine ar (ro_assign ev_c) rfl <| ae2 (u2 rfl s1_0) (up_m rfl up_h) ?_; clear s0_0 s1_0; intro e_2 s1_2 s2_2
 refine then_n <| aw_seq <| at_ <| ar (ro_eq (ro_ld_ptr k4_ty178 rfl mo0_1 s2_2 (nle rfl)) (by simp only [pS, Value.cells, Nat.reduceAdd] <;> rfl)) rfl ?_
 refine ar (ro_fld_ptr k4_fl178_1 rfl (up_m rfl s2_2)) rfl <| ar (ro_fld_ptr k4_fl81_2 rfl up_h) rfl <| ar (ro_eq (ro_ld_ptr k4_ty3 rfl mo0_1 up_h (nle rfl)) (by simp only [pS, Value.cells, Nat.reduceAdd] <;> rfl)) rfl ?_
 (refine ar (ro_neg' up_h ?_) rfl ?_; · (unfold In64; omega))
 refine ar (ro_move (up_m rfl (u4 rfl s1_2))) rfl <| ar (ro_call (evL_cons (up_m rfl (u4 rfl up_h)) (evL_cons (up_m rfl up_h) (evL_cons up_h evL_nil))) rfl (loses_ok nm ps hok b d v i h0 h1 (-v) (by omega)) k4_hcf143) rfl ?_
 (refine ar (ro_neg' up_h ?_) rfl ?_; · (unfold In64; omega))
 refine ar (ro_assign up_h) rfl <| ae1 up_h ?_; clear s1_2 s2_2; intro e_3 s4_3
 refine then_n <| aw_ret <| ret1 (.inr rfl) (by kernel_rfl) (resV_tmp s4_3) (.ro _ rfl) ?_
 clear s4_3 mo0_1 ml_1
 rfl
end
end Go.Proofs.YtjhcfpdgldpicaaGreatDoor
