/- Texts of this claim, one behind the other: lemmas for the statement. -/
import Derived.Test.YtjhcfpdgldpicaaA12
import Derived.Test.YtjhcfpdgldpicaaProg
import Derived.Test.YtjhcfpdgldpicaaT0
import Derived.Test.YtjhcfpdgldpicaaOwn
import Derived.Test.YtjhcfpdgldpicaaRows
import Derived.Test.YtjhcfpdgldpicaaChecked
import Derived.WalkKit
import Derived.ProofKit
import Derived.OpenShut
import Derived.Deep.DeepHandedRow
import Derived.Deep.SlicePairs
import Derived.Lib.LaidTab
import Derived.Lib.SmallJoins
import Derived.Carry
import Derived.Test.YtjhcfpdgldpicaaM1
set_option linter.unusedSimpArgs false
set_option linter.unusedVariables false
namespace Go.Proofs.Ytjhcfpdgldpicaa
open Go Go.RowKit Go.Proofs
def withinB (n lo hi : Int) : Bool := decide (lo ≤ n) && decide (n ≤ hi)
set_option maxRecDepth 100000 in
set_option maxHeartbeats 1000000 in
theorem bWithin_ok (n lo hi : Int) : FnOk Try.prog 16 [.v (.int .i64 n), .v (.int .i64 lo), .v (.int .i64 hi)] (fun q => q = .v (.bool (withinB n lo hi))) := by
 refine fnOk_of (fn := Try.f16) 15 (by kernel_rfl) rfl (by kernel_rfl) (Nat.le_of_ble_eq_true rfl) ?_
 intro e_0 m_0 hA hm_0
 have s0_0 : evA e_0 (.tmp 0) = _ := hA 0 _ rfl
 have s1_0 : evA e_0 (.tmp 1) = _ := hA 1 _ rfl
 have s2_0 : evA e_0 (.tmp 2) = _ := hA 2 _ rfl
 have ml_0 : m_0.length = 0 := by rw [hm_0]; rfl
 clear hA hm_0
 refine aw_seq <| at_ <| ar (ro_assign ev_c) rfl <| ae3 (up_m rfl s0_0) (up_m rfl s1_0) (up_m rfl s2_0) ?_; clear s0_0 s1_0 s2_0; intro e_1 s0_1 s1_1 s2_1
 refine then_n <| aw_seq <| at_ <| ar (ro_move s1_1) rfl <| ar (ro_move (up_m rfl s0_1)) rfl <| ar (ro_leq (up_m rfl up_h) up_h) rfl <| ar (ro_move up_h) rfl <| al_case up_h (fun hb_2 hq_2 => ?_) (fun hb_2 hq_2 => ?_)
 ·replace hq_2 := bt hq_2
  refine al_ro' (ro_move (u4 rfl s0_1)) ⟨_, rfl, hb_2⟩ rfl ?_
  refine al_ro' (ro_move (up_m rfl (u4 rfl s2_1))) ⟨_, rfl, (up_m rfl hb_2)⟩ rfl ?_
  refine al_ro' (ro_leq (up_m rfl up_h) up_h) ⟨_, rfl, (u2 rfl hb_2)⟩ rfl ?_
  refine ar (ro_pickT (up_m rfl (u2 rfl hb_2)) up_h) rfl <| ar (ro_assign up_h) rfl <| ae1 up_h ?_; clear hb_2 s0_1 s1_1 s2_1; intro e_3 s6_3
  refine then_n <| aw_ret <| ret1 (.inr rfl) (by kernel_rfl) (resV_tmp s6_3) (.ro _ rfl) ?_
  clear s6_3 ml_0
  (first | rfl | (simp [withinB, *]; done) | (simp [withinB, *] <;> omega) | (simp_all [withinB]; done) | (simp_all [withinB] <;> omega))
 replace hq_2 := bf hq_2
 refine al_skip' ⟨_, rfl, .inl hb_2⟩ rfl ?_
 refine al_skip' ⟨_, rfl, .inl (up_m rfl hb_2)⟩ rfl ?_
 refine al_skip' ⟨_, rfl, .inl (u2 rfl hb_2)⟩ rfl ?_
 refine ar (ro_pickF (up_m rfl (u2 rfl hb_2)) ev_c) rfl <| ar (ro_assign up_h) rfl <| ae1 up_h ?_; clear hb_2 s0_1 s1_1 s2_1; intro e_4 s6_4
 refine then_n <| aw_ret <| ret1 (.inr rfl) (by kernel_rfl) (resV_tmp s6_4) (.ro _ rfl) ?_
 clear s6_4 ml_0
 (first | rfl | (simp [withinB, *]; done) | (simp [withinB, *] <;> omega) | (simp_all [withinB]; done) | (simp_all [withinB] <;> omega))
def unlessE (ok : Bool) (e : Int) : Int := if ok then 0 else e
def firstE : List Int → Int
 | [] => 0
 | e :: l => if e = 0 then firstE l else e
theorem firstE_drop {l : List Int} {i : Nat} (h : i < l.length) : firstE (l.drop i) = if l.getD i 0 = 0 then firstE (l.drop (i + 1)) else l.getD i 0 := by
 rw [List.drop_eq_getElem_cons h]
 simp [firstE, List.getD_eq_getElem?_getD, h]
def okB (j : Nat) (c : UInt8) : Bool :=
 decide (97 ≤ (c.toNat : Int) ∧ (c.toNat : Int) ≤ 122 ∨ 65 ≤ (c.toNat : Int) ∧ (c.toNat : Int) ≤ 90 ∨ j ≠ 0 ∧ ((c.toNat : Int) = 45 ∨ 48 ≤ (c.toNat : Int) ∧ (c.toNat : Int) ≤ 57))
theorem okB_t {j : Nat} {c : UInt8} (h : 97 ≤ (c.toNat : Int) ∧ (c.toNat : Int) ≤ 122 ∨ 65 ≤ (c.toNat : Int) ∧ (c.toNat : Int) ≤ 90 ∨ j ≠ 0 ∧ ((c.toNat : Int) = 45 ∨ 48 ≤ (c.toNat : Int) ∧ (c.toNat : Int) ≤ 57)) : okB j c = true := decide_eq_true h
theorem okB_f {j : Nat} {c : UInt8} (h : ¬ (97 ≤ (c.toNat : Int) ∧ (c.toNat : Int) ≤ 122 ∨ 65 ≤ (c.toNat : Int) ∧ (c.toNat : Int) ≤ 90 ∨ j ≠ 0 ∧ ((c.toNat : Int) = 45 ∨ 48 ≤ (c.toNat : Int) ∧ (c.toNat : Int) ≤ 57))) : okB j c = false := decide_eq_false h
def namB (l : List UInt8) : Bool := (List.range l.length).all fun j => okB j (l.getD j default)
def isNameB (s : ByteArray) : Bool := namB s.data.toList && decide (1 ≤ s.size) && decide (s.size ≤ 12)
theorem namB_f {l : List UInt8} {i : Nat} (hi : i < l.length) (h : okB i (l.getD i default) = false) : namB l = false := by
 unfold namB
 rw [Bool.eq_false_iff]
 intro ha
 have := List.all_eq_true.1 ha i (List.mem_range.2 hi)
 rw [h] at this; cases this
theorem namB_t {l : List UInt8} (h : ∀ j : Nat, j < l.length → okB j (l.getD j default) = true) : namB l = true := List.all_eq_true.2 fun j hj => h j (List.mem_range.1 hj)
theorem sz_list (s : ByteArray) : s.data.toList.length = s.size := rfl
theorem bytes_list (s : ByteArray) : s.toList = s.data.toList := ByteArray.toList_eq s
theorem empty_size (s : ByteArray) : (s.toList == (ByteArray.mk #[]).toList) = decide (s.size = 0) := by
 rw [Bool.eq_iff_iff]
 simp only [beq_iff_eq, decide_eq_true_eq, bytes_list]
 constructor
 ·intro h; have := congrArg List.length h; exact this
 ·intro h; exact List.eq_nil_of_length_eq_zero h
def letB (c : Int) : Bool := decide (97 ≤ c ∧ c ≤ 122 ∨ 65 ≤ c ∧ c ≤ 90)
set_option maxRecDepth 100000 in
set_option maxHeartbeats 4000000 in
theorem bIsName_ok (s : ByteArray) (hs : s.size ≤ 1000000000) : FnOk Try.prog 53 [.v (.string s)] (fun q => q = .v (.bool (isNameB s))) := by
 refine fnOk_of (fn := Try.f53) 55 (by kernel_rfl) rfl (by kernel_rfl) (Nat.le_of_ble_eq_true rfl) ?_
 intro e_0 m_0 hA hm_0
 have s0_0 : evA e_0 (.tmp 0) = _ := hA 0 _ rfl
 have ml_0 : m_0.length = 0 := by rw [hm_0]; rfl
 clear hA hm_0
 have hsl := sz_list s
 refine aw_seq <| at_ <| ar (ro_assign ev_c) rfl <| ae1 (up_m rfl s0_0) ?_; clear s0_0; intro e_1 s0_1
 refine then_n <| aw_seq <| aw_seq <| aw_cut (fun e mem => (evA e (.tmp 13) = .v (.bool (decide (s.size < 1 ∨ 12 < s.size)))) ∧ (evA e (.tmp 0) = evA e_1 (.tmp 0)) ∧ m_0 = mem) ?_ ?_
 ·
  refine at_ <| ar (ro_move s0_1) rfl <| ar (ro_len_str up_h rfl qun9) rfl <| ar (ro_lss up_h ev_c) rfl <| ar (ro_move up_h) rfl <| al_case up_h (fun hb_3 hq_3 => ?_) (fun hb_3 hq_3 => ?_)
  ·replace hq_3 := bt hq_3
   refine al_skip' ⟨_, rfl, .inl hb_3⟩ rfl ?_
   refine al_skip' ⟨_, rfl, .inl (up_m rfl hb_3)⟩ rfl ?_
   refine al_skip' ⟨_, rfl, .inl (u2 rfl hb_3)⟩ rfl ?_
   refine ar (ro_pickT (up_m rfl (u2 rfl hb_3)) ev_c) rfl <| ae2 (u8 rfl s0_1) up_h ?_; intro e_4 s0_4 s13_4
   refine then_n ⟨(s13_4).trans (by (refine avb ?_; simp only [decide_eq_true_eq, Bool.false_eq_true, true_iff, false_iff]; omega)), (s0_4).trans (s0_1).symm, rfl⟩
  replace hq_3 := bf hq_3
  refine al_ro' (ro_move (u4 rfl s0_1)) ⟨_, rfl, hb_3⟩ rfl ?_
  refine al_ro' (ro_len_str up_h rfl qun9) ⟨_, rfl, (up_m rfl hb_3)⟩ rfl ?_
  refine al_ro' (ro_gtr up_h ev_c) ⟨_, rfl, (u2 rfl hb_3)⟩ rfl ?_
  refine ar (ro_pickF (up_m rfl (u2 rfl hb_3)) up_h) rfl <| ae2 (u8 rfl s0_1) up_h ?_; intro e_5 s0_5 s13_5
  refine then_n ⟨(s13_5).trans (by (refine avb ?_; simp only [decide_eq_true_eq, Bool.false_eq_true, true_iff, false_iff]; omega)), (s0_5).trans (s0_1).symm, rfl⟩
 ·rintro e_2 _ ⟨s13_2, k0_2, rfl⟩
  have s0_2 := k0_2.trans s0_1
  refine aw_case s13_2 (fun hq_6 => ?_) (fun hq_6 => ?_)
  ·replace hq_6 := bt hq_6
   refine aw_seq <| at_ <| ar (ro_assign ev_c) rfl <| ae1 up_h ?_; clear s0_2 s13_2; intro e_7 s2_7
   refine then_n <| aw_ret <| then_r <| ret1 (.inr rfl) (by kernel_rfl) (resV_tmp s2_7) (.ro _ rfl) ?_
   clear s2_7 ml_0
   (simp only [isNameB]; refine avb ?_; simp only [Bool.and_eq_true, decide_eq_true_eq, Bool.false_eq_true, false_iff]; omega)
  replace hq_6 := bf hq_6
  refine aw_skip <| then_n <| aw_seq <| aw_seq <| at_ <| ar (ro_assign ev_c) rfl <| ae2 (up_m rfl s0_2) up_h ?_; clear s0_2 s13_2; intro e_8 s0_8 s3_8
  refine then_n <| aw_block <| aw_loop (S := Int) (fun i e mem => (evA e (.tmp 3) = .v (.int .i64 i)) ∧ (evA e (.tmp 0) = evA e_8 (.tmp 0)) ∧ (mem.length = 0) ∧ ((0 ≤ i ∧ i ≤ s.data.toList.length ∧ ∀ j : Nat, j < i.toNat → okB j (s.data.toList.getD j default) = true))) (fun i => (s.data.toList.length - i).toNat) _ ⟨s3_8, rfl, ml_0, ?_⟩ ?_
  ·exact ⟨by omega, by omega, fun j hj => by omega⟩
  ·rintro i e_9 m_9 ⟨s3_9, k0_9, ml_9, hinv⟩
   have s0_9 := k0_9.trans s0_8
   refine aw_seq <| aw_seq <| at_ <| ar (ro_move s3_9) rfl <| ar (ro_move (up_m rfl s0_9)) rfl <| ar (ro_len_str up_h rfl qun9) rfl <| ar (ro_lss (u2 rfl up_h) up_h) rfl <| ae3 (u4 rfl s0_9) (u4 rfl s3_9) up_h ?_; clear s0_9 s3_9; intro e_10 s0_10 s3_10 s17_10
   refine then_n <| aw_case s17_10 (fun hq_11 => ?_) (fun hq_11 => ?_)
   ·replace hq_11 := bt hq_11
    refine aw_skip <| then_n <| aw_seq <| aw_block <| aw_seq <| at_ <| ar (ro_move s0_10) rfl <| ar (ro_move (up_m rfl s3_10)) rfl <| ar (ro_sindex (up_m rfl up_h) up_h qun9 (by omega) (by refine idx_str ?_; first | omega | (simp <;> omega; done) | (refine Nat.lt_of_lt_of_le (m := 256) ?_ (by decide +kernel); omega))) rfl ?_
    refine ar (ro_assign up_h) rfl <| ae3 (u4 rfl s0_10) (u4 rfl s3_10) up_h ?_; clear s0_10 s17_10 s3_10; intro e_12 s0_12 s3_12 s4_12
    refine then_n <| aw_seq <| aw_cut (fun e mem => (evA e (.tmp 5) = .v (.bool (letB (s.data.toList.getD i.toNat default).toNat))) ∧ (evA e (.tmp 0) = evA e_12 (.tmp 0)) ∧ (evA e (.tmp 3) = evA e_12 (.tmp 3)) ∧ (evA e (.tmp 4) = evA e_12 (.tmp 4)) ∧ m_9 = mem) ?_ ?_
    ·
     refine at_ <| ar (ro_move s4_12) rfl <| ar (ro_geq up_h ev_c) rfl <| ar (ro_move up_h) rfl <| al_case up_h (fun hb_14 hq_14 => ?_) (fun hb_14 hq_14 => ?_)
     ·replace hq_14 := bt hq_14
      refine al_ro' (ro_move (up_m rfl (u2 rfl s4_12))) ⟨_, rfl, hb_14⟩ rfl ?_
      refine al_ro' (ro_leq up_h ev_c) ⟨_, rfl, (up_m rfl hb_14)⟩ rfl ?_
      refine ar (ro_pickT (u2 rfl hb_14) up_h) rfl <| ar (ro_move up_h) rfl <| al_case up_h (fun hb_15 hq_15 => ?_) (fun hb_15 hq_15 => ?_)
      ·replace hq_15 := bt hq_15
       refine al_skip' ⟨_, rfl, .inl hb_15⟩ rfl ?_
       refine al_skip' ⟨_, rfl, .inl (up_m rfl hb_15)⟩ rfl ?_
       refine al_skip' ⟨_, rfl, .inl (u2 rfl hb_15)⟩ rfl ?_
       refine al_skip' ⟨_, rfl, .inr up_h⟩ rfl ?_
       refine al_skip' ⟨_, rfl, .inr (up_m rfl up_h)⟩ rfl ?_
       refine al_skip' ⟨_, rfl, .inl (up_m rfl (u4 rfl hb_15))⟩ rfl ?_
       refine ar (ro_pickT (u2 rfl (u4 rfl hb_15)) ev_c) rfl <| ar (ro_assign up_h) rfl <| ae4 (up_m rfl (u2 rfl (u4 rfl (u8 rfl s0_12)))) (up_m rfl (u2 rfl (u4 rfl (u8 rfl s3_12)))) (up_m rfl (u2 rfl (u4 rfl (u8 rfl s4_12)))) up_h ?_; intro e_16 s0_16 s3_16 s4_16 s5_16
       refine then_n ⟨(s5_16).trans (by (refine avb ?_; simp only [letB, decide_eq_true_eq, Bool.false_eq_true, true_iff, false_iff]; omega)), (s0_16).trans (s0_12).symm, (s3_16).trans (s3_12).symm, (s4_16).trans (s4_12).symm, rfl⟩
      replace hq_15 := bf hq_15
      refine al_ro' (ro_move (up_m rfl (u2 rfl (u4 rfl s4_12)))) ⟨_, rfl, hb_15⟩ rfl ?_
      refine al_ro' (ro_geq up_h ev_c) ⟨_, rfl, (up_m rfl hb_15)⟩ rfl ?_
      refine al_ro' (ro_move up_h) ⟨_, rfl, (u2 rfl hb_15)⟩ rfl ?_
      refine al_case up_h (fun hb_17 hq_17 => ?_) (fun hb_17 hq_17 => ?_)
      ·replace hq_17 := bt hq_17
       refine al_ro' (ro_move (u2 rfl (u8 rfl s4_12))) ⟨_, rfl, hb_17⟩ rfl ?_
       refine al_ro' (ro_leq up_h ev_c) ⟨_, rfl, (up_m rfl hb_17)⟩ rfl ?_
       refine al_ro' (ro_pickT (u2 rfl hb_17) up_h) ⟨_, rfl, (up_m rfl (u4 rfl hb_15))⟩ rfl ?_
       refine ar (ro_pickF (u2 rfl (u4 rfl hb_15)) up_h) rfl <| ar (ro_assign up_h) rfl <| ae4 (up_m rfl (u2 rfl (u4 rfl (u8 rfl s0_12)))) (up_m rfl (u2 rfl (u4 rfl (u8 rfl s3_12)))) (up_m rfl (u2 rfl (u4 rfl (u8 rfl s4_12)))) up_h ?_; intro e_18 s0_18 s3_18 s4_18 s5_18
       refine then_n ⟨(s5_18).trans (by (refine avb ?_; simp only [letB, decide_eq_true_eq, Bool.false_eq_true, true_iff, false_iff]; omega)), (s0_18).trans (s0_12).symm, (s3_18).trans (s3_12).symm, (s4_18).trans (s4_12).symm, rfl⟩
      ·replace hq_17 := bf hq_17; exfalso; omega
     replace hq_14 := bf hq_14
     refine al_skip' ⟨_, rfl, .inl hb_14⟩ rfl ?_
     refine al_skip' ⟨_, rfl, .inl (up_m rfl hb_14)⟩ rfl ?_
     refine ar (ro_pickF (u2 rfl hb_14) ev_c) rfl <| ar (ro_move up_h) rfl <| al_ro' (ro_move (up_m rfl (u2 rfl (u4 rfl s4_12)))) ⟨_, rfl, up_h⟩ rfl ?_
     refine al_ro' (ro_geq up_h ev_c) ⟨_, rfl, (up_m rfl up_h)⟩ rfl ?_
     refine al_ro' (ro_move up_h) ⟨_, rfl, (u2 rfl up_h)⟩ rfl ?_
     refine al_case up_h (fun hb_20 hq_20 => ?_) (fun hb_20 hq_20 => ?_)
     ·replace hq_20 := bt hq_20
      refine al_ro' (ro_move (u2 rfl (u8 rfl s4_12))) ⟨_, rfl, hb_20⟩ rfl ?_
      refine al_ro' (ro_leq up_h ev_c) ⟨_, rfl, (up_m rfl hb_20)⟩ rfl ?_
      refine al_ro' (ro_pickT (u2 rfl hb_20) up_h) ⟨_, rfl, (up_m rfl (u4 rfl up_h))⟩ rfl ?_
      refine ar (ro_pickF (u2 rfl (u4 rfl up_h)) up_h) rfl <| ar (ro_assign up_h) rfl <| ae4 (up_m rfl (u2 rfl (u4 rfl (u8 rfl s0_12)))) (up_m rfl (u2 rfl (u4 rfl (u8 rfl s3_12)))) (up_m rfl (u2 rfl (u4 rfl (u8 rfl s4_12)))) up_h ?_; intro e_21 s0_21 s3_21 s4_21 s5_21
      refine then_n ⟨(s5_21).trans (by (refine avb ?_; simp only [letB, decide_eq_true_eq, Bool.false_eq_true, true_iff, false_iff]; omega)), (s0_21).trans (s0_12).symm, (s3_21).trans (s3_12).symm, (s4_21).trans (s4_12).symm, rfl⟩
     replace hq_20 := bf hq_20
     refine al_skip' ⟨_, rfl, .inl hb_20⟩ rfl ?_
     refine al_skip' ⟨_, rfl, .inl (up_m rfl hb_20)⟩ rfl ?_
     refine al_ro' (ro_pickF (u2 rfl hb_20) ev_c) ⟨_, rfl, (up_m rfl (u4 rfl up_h))⟩ rfl ?_
     refine ar (ro_pickF (u2 rfl (u4 rfl up_h)) up_h) rfl <| ar (ro_assign up_h) rfl <| ae4 (up_m rfl (u2 rfl (u4 rfl (u8 rfl s0_12)))) (up_m rfl (u2 rfl (u4 rfl (u8 rfl s3_12)))) (up_m rfl (u2 rfl (u4 rfl (u8 rfl s4_12)))) up_h ?_; intro e_22 s0_22 s3_22 s4_22 s5_22
     refine then_n ⟨(s5_22).trans (by (refine avb ?_; simp only [letB, decide_eq_true_eq, Bool.false_eq_true, true_iff, false_iff]; omega)), (s0_22).trans (s0_12).symm, (s3_22).trans (s3_12).symm, (s4_22).trans (s4_12).symm, rfl⟩
    ·rintro e_13 _ ⟨s5_13, k0_13, k3_13, k4_13, rfl⟩
     have s0_13 := k0_13.trans s0_12
     have s3_13 := k3_13.trans s3_12
     have s4_13 := k4_13.trans s4_12
     refine aw_seq <| aw_cut (fun e mem => (evA e (.tmp 54) = .v (.bool (!okB i.toNat (s.data.toList.getD i.toNat default)))) ∧ (evA e (.tmp 0) = evA e_13 (.tmp 0)) ∧ (evA e (.tmp 3) = evA e_13 (.tmp 3)) ∧ m_9 = mem) ?_ ?_
     ·
      refine at_ <| ar (ro_move s5_13) rfl <| ar (ro_not up_h) rfl <| ar (ro_move up_h) rfl <| al_case up_h (fun hb_24 hq_24 => ?_) (fun hb_24 hq_24 => ?_)
      ·replace hq_24 := bnt hq_24
       refine al_ro' (ro_move (up_m rfl (u2 rfl s3_13))) ⟨_, rfl, hb_24⟩ rfl ?_
       refine al_ro' (ro_eql up_h ev_c) ⟨_, rfl, (up_m rfl hb_24)⟩ rfl ?_
       refine al_ro' (ro_move up_h) ⟨_, rfl, (u2 rfl hb_24)⟩ rfl ?_
       refine al_case up_h (fun hb_25 hq_25 => ?_) (fun hb_25 hq_25 => ?_)
       ·replace hq_25 := bt hq_25
        refine al_skip' ⟨_, rfl, .inl hb_25⟩ rfl ?_
        refine al_skip' ⟨_, rfl, .inl (up_m rfl hb_25)⟩ rfl ?_
        refine al_skip' ⟨_, rfl, .inl (u2 rfl hb_25)⟩ rfl ?_
        refine al_skip' ⟨_, rfl, .inr up_h⟩ rfl ?_
        refine al_skip' ⟨_, rfl, .inr (up_m rfl up_h)⟩ rfl ?_
        refine al_skip' ⟨_, rfl, .inr (u2 rfl up_h)⟩ rfl ?_
        refine al_skip' ⟨_, rfl, .inr up_h⟩ rfl ?_
        refine al_skip' ⟨_, rfl, .inr (up_m rfl up_h)⟩ rfl ?_
        refine al_skip' ⟨_, rfl, .inr (up_m rfl (u4 rfl up_h))⟩ rfl ?_
        refine al_skip' ⟨_, rfl, .inl (up_m rfl (u8 rfl hb_25))⟩ rfl ?_
        refine al_ro' (ro_pickT (u2 rfl (u8 rfl hb_25)) ev_c) ⟨_, rfl, (up_m rfl (u4 rfl (u8 rfl hb_24)))⟩ rfl ?_
        refine ar (ro_pickT (u2 rfl (u4 rfl (u8 rfl hb_24))) up_h) rfl <| ae3 (u2 rfl (u16 rfl s0_13)) (u2 rfl (u16 rfl s3_13)) up_h ?_; intro e_26 s0_26 s3_26 s54_26
        refine then_n ⟨(s54_26).trans (by (refine avb ?_; simp only [letB, okB, decide_eq_true_eq, decide_eq_false_iff_not, Bool.false_eq_true, true_iff, false_iff, Bool.not_eq_true'] at *; omega)), (s0_26).trans (s0_13).symm, (s3_26).trans (s3_13).symm, rfl⟩
       replace hq_25 := bf hq_25
       refine al_ro' (ro_move (u2 rfl (u4 rfl s4_13))) ⟨_, rfl, hb_25⟩ rfl ?_
       refine al_ro' (ro_neq up_h ev_c) ⟨_, rfl, (up_m rfl hb_25)⟩ rfl ?_
       refine al_ro' (ro_move up_h) ⟨_, rfl, (u2 rfl hb_25)⟩ rfl ?_
       refine al_case up_h (fun hb_27 hq_27 => ?_) (fun hb_27 hq_27 => ?_)
       ·replace hq_27 := bnt hq_27
        refine al_ro' (ro_move (up_m rfl (u8 rfl s4_13))) ⟨_, rfl, hb_27⟩ rfl ?_
        refine al_ro' (ro_lss up_h ev_c) ⟨_, rfl, (up_m rfl hb_27)⟩ rfl ?_
        refine al_ro' (ro_move up_h) ⟨_, rfl, (u2 rfl hb_27)⟩ rfl ?_
        refine al_case up_h (fun hb_28 hq_28 => ?_) (fun hb_28 hq_28 => ?_)
        ·replace hq_28 := bt hq_28
         refine al_skip' ⟨_, rfl, .inl hb_28⟩ rfl ?_
         refine al_skip' ⟨_, rfl, .inl (up_m rfl hb_28)⟩ rfl ?_
         refine al_ro' (ro_pickT (u2 rfl hb_28) ev_c) ⟨_, rfl, (up_m rfl (u4 rfl hb_27))⟩ rfl ?_
         refine al_ro' (ro_pickT (u2 rfl (u4 rfl hb_27)) up_h) ⟨_, rfl, (up_m rfl (u8 rfl hb_25))⟩ rfl ?_
         refine al_ro' (ro_pickF (u2 rfl (u8 rfl hb_25)) up_h) ⟨_, rfl, (up_m rfl (u4 rfl (u8 rfl hb_24)))⟩ rfl ?_
         refine ar (ro_pickT (u2 rfl (u4 rfl (u8 rfl hb_24))) up_h) rfl <| ae3 (u2 rfl (u16 rfl s0_13)) (u2 rfl (u16 rfl s3_13)) up_h ?_; intro e_29 s0_29 s3_29 s54_29
         refine then_n ⟨(s54_29).trans (by (refine avb ?_; simp only [letB, okB, decide_eq_true_eq, decide_eq_false_iff_not, Bool.false_eq_true, true_iff, false_iff, Bool.not_eq_true'] at *; omega)), (s0_29).trans (s0_13).symm, (s3_29).trans (s3_13).symm, rfl⟩
        replace hq_28 := bf hq_28
        refine al_ro' (ro_move (u4 rfl (u8 rfl s4_13))) ⟨_, rfl, hb_28⟩ rfl ?_
        refine al_ro' (ro_gtr up_h ev_c) ⟨_, rfl, (up_m rfl hb_28)⟩ rfl ?_
        refine al_ro' (ro_pickF (u2 rfl hb_28) up_h) ⟨_, rfl, (up_m rfl (u4 rfl hb_27))⟩ rfl ?_
        refine al_ro' (ro_pickT (u2 rfl (u4 rfl hb_27)) up_h) ⟨_, rfl, (up_m rfl (u8 rfl hb_25))⟩ rfl ?_
        refine al_ro' (ro_pickF (u2 rfl (u8 rfl hb_25)) up_h) ⟨_, rfl, (up_m rfl (u4 rfl (u8 rfl hb_24)))⟩ rfl ?_
        refine ar (ro_pickT (u2 rfl (u4 rfl (u8 rfl hb_24))) up_h) rfl <| ae3 (u2 rfl (u16 rfl s0_13)) (u2 rfl (u16 rfl s3_13)) up_h ?_; intro e_30 s0_30 s3_30 s54_30
        refine then_n ⟨(s54_30).trans (by (refine avb ?_; simp only [letB, okB, decide_eq_true_eq, decide_eq_false_iff_not, Bool.false_eq_true, true_iff, false_iff, Bool.not_eq_true'] at *; omega)), (s0_30).trans (s0_13).symm, (s3_30).trans (s3_13).symm, rfl⟩
       replace hq_27 := bnf hq_27
       refine al_skip' ⟨_, rfl, .inl hb_27⟩ rfl ?_
       refine al_skip' ⟨_, rfl, .inl (up_m rfl hb_27)⟩ rfl ?_
       refine al_skip' ⟨_, rfl, .inl (u2 rfl hb_27)⟩ rfl ?_
       refine al_skip' ⟨_, rfl, .inr up_h⟩ rfl ?_
       refine al_skip' ⟨_, rfl, .inr (up_m rfl up_h)⟩ rfl ?_
       refine al_skip' ⟨_, rfl, .inl (up_m rfl (u4 rfl hb_27))⟩ rfl ?_
       refine al_ro' (ro_pickF (u2 rfl (u4 rfl hb_27)) ev_c) ⟨_, rfl, (up_m rfl (u8 rfl hb_25))⟩ rfl ?_
       refine al_ro' (ro_pickF (u2 rfl (u8 rfl hb_25)) up_h) ⟨_, rfl, (up_m rfl (u4 rfl (u8 rfl hb_24)))⟩ rfl ?_
       refine ar (ro_pickT (u2 rfl (u4 rfl (u8 rfl hb_24))) up_h) rfl <| ae3 (u2 rfl (u16 rfl s0_13)) (u2 rfl (u16 rfl s3_13)) up_h ?_; intro e_31 s0_31 s3_31 s54_31
       refine then_n ⟨(s54_31).trans (by (refine avb ?_; simp only [letB, okB, decide_eq_true_eq, decide_eq_false_iff_not, Bool.false_eq_true, true_iff, false_iff, Bool.not_eq_true'] at *; omega)), (s0_31).trans (s0_13).symm, (s3_31).trans (s3_13).symm, rfl⟩
      replace hq_24 := bnf hq_24
      refine al_skip' ⟨_, rfl, .inl hb_24⟩ rfl ?_
      refine al_skip' ⟨_, rfl, .inl (up_m rfl hb_24)⟩ rfl ?_
      refine al_skip' ⟨_, rfl, .inl (u2 rfl hb_24)⟩ rfl ?_
      refine al_skip' ⟨_, rfl, .inr up_h⟩ rfl ?_
      refine al_skip' ⟨_, rfl, .inr (up_m rfl up_h)⟩ rfl ?_
      refine al_skip' ⟨_, rfl, .inr (u2 rfl up_h)⟩ rfl ?_
      refine al_skip' ⟨_, rfl, .inr up_h⟩ rfl ?_
      refine al_skip' ⟨_, rfl, .inr (up_m rfl up_h)⟩ rfl ?_
      refine al_skip' ⟨_, rfl, .inr (u2 rfl up_h)⟩ rfl ?_
      refine al_skip' ⟨_, rfl, .inr up_h⟩ rfl ?_
      refine al_skip' ⟨_, rfl, .inr (up_m rfl up_h)⟩ rfl ?_
      refine al_skip' ⟨_, rfl, .inr (up_m rfl (u4 rfl up_h))⟩ rfl ?_
      refine al_skip' ⟨_, rfl, .inr (up_m rfl (u8 rfl up_h))⟩ rfl ?_
      refine al_skip' ⟨_, rfl, .inl (up_m rfl (u4 rfl (u8 rfl hb_24)))⟩ rfl ?_
      refine ar (ro_pickF (u2 rfl (u4 rfl (u8 rfl hb_24))) ev_c) rfl <| ae3 (u2 rfl (u16 rfl s0_13)) (u2 rfl (u16 rfl s3_13)) up_h ?_; intro e_32 s0_32 s3_32 s54_32
      refine then_n ⟨(s54_32).trans (by (refine avb ?_; simp only [letB, okB, decide_eq_true_eq, decide_eq_false_iff_not, Bool.false_eq_true, true_iff, false_iff, Bool.not_eq_true'] at *; omega)), (s0_32).trans (s0_13).symm, (s3_32).trans (s3_13).symm, rfl⟩
     ·rintro e_23 _ ⟨s54_23, k0_23, k3_23, rfl⟩
      have s0_23 := k0_23.trans s0_13
      have s3_23 := k3_23.trans s3_13
      refine aw_case s54_23 (fun hq_33 => ?_) (fun hq_33 => ?_)
      ·replace hq_33 := bnt hq_33
       refine aw_seq <| at_ <| ar (ro_assign ev_c) rfl <| ae1 up_h ?_; clear s0_23 s3_23 s54_23; intro e_34 s2_34
       refine then_n <| aw_ret <| block_r <| then_r <| then_r <| block_r <| then_r <| ret1 (.inr rfl) (by kernel_rfl) (resV_tmp s2_34) (.ro _ rfl) ?_
       clear s2_34 ml_9
       (obtain ⟨h1, h2, h3⟩ := hinv; have hn : namB s.data.toList = false := namB_f (i := i.toNat) (by omega) (by first | assumption | exact okB_f (by assumption)); simp [isNameB, hn])
      replace hq_33 := bnf hq_33
      refine aw_skip <| block_n <| then_n <| at_ <| ar (ro_move s3_23) rfl ?_
      (refine ar (ro_add' up_h ev_c ?_) rfl ?_; · (unfold In64; omega))
      refine ar (ro_assign up_h) rfl <| ae2 (up_m rfl (u2 rfl s0_23)) up_h ?_; clear s0_23 s3_23 s54_23; intro e_35 s0_35 s3_35
      refine then_n <| ⟨_, ⟨s3_35, (s0_35.trans s0_8.symm), ml_9, ?_⟩, ?_⟩
      ·(obtain ⟨h1, h2, h3⟩ := hinv; refine ⟨by omega, by omega, fun j hj => ?_⟩; by_cases hj' : j < i.toNat; exact h3 j hj'; have hji : j = i.toNat := (by omega); rw [hji]; first | assumption | exact okB_t (by omega))
      ·((try dsimp only); omega)
   replace hq_11 := bf hq_11
   refine aw_exit <| then_x <| then_x <| block_hit <| then_n <| aw_seq <| at_ <| ar (ro_assign ev_c) rfl <| ae1 up_h ?_; clear s0_10 s17_10 s3_10; intro e_36 s2_36
   refine then_n <| aw_ret <| ret1 (.inr rfl) (by kernel_rfl) (resV_tmp s2_36) (.ro _ rfl) ?_
   clear s2_36 ml_9
   (obtain ⟨h1, h2, h3⟩ := hinv; have hn : namB s.data.toList = true := (namB_t fun j hj => h3 j (by omega)); refine avb ?_; simp only [isNameB, hn, Bool.true_and, Bool.and_eq_true, decide_eq_true_eq, true_iff]; omega)
abbrev iA (n : Int) : AV := .v (.int .i64 n)
end Go.Proofs.Ytjhcfpdgldpicaa
namespace Go.Proofs.Ytjhcfpdgldpicaa
open Go Go.RowKit
theorem Bx.part {w : World} {B : Nat} {t : TypeId} {cs : Array Value} (h : Bx w B t cs) (k n o : Nat) (xs : List Value) (hx : ∀ j u, xs[j]? = some u → cs[o + j]? = some u) (hn : xs.length = n * k) : Rd w k (some ⟨B, o, none⟩) n xs :=
 ⟨hn, fun _ => ⟨B, o, rfl, h.lt, fun j u hu => (h.cell (o + j)).trans (hx j u hu)⟩⟩
end Go.Proofs.Ytjhcfpdgldpicaa
namespace Go.Proofs.Ytjhcfpdgldpicaa
open Go Go.ChangeShapes Go.WideShapes Go.ChangeAt Go.RowKit Go.Joins Go.Deep
theorem trodAll_stays {H : Type} {enc : TypeId × Value → H} {P : Program} (hl : laidOutB P = true) {W W' : World} (hx : Ext W W') {sp : Nat → Bool} : ∀ {ts : List TypeId} {vs : List Value} {ds : List (DataW H)} {ps : List MemPlace},
 (∀ t ∈ ts, P.readableRec t = true ∧ t < P.types.size) → DataW.TrodAll enc P W 0 (fun _ => true) true ts vs ds ps → (∀ x ∈ ps, x.block < W.heap.size) → (∀ x ∈ ps, sp x.block = true) → DataW.TrodAll enc P W' 0 sp true ts vs ds ps
 | [], _, _, _, _, h, _, _ => by
  obtain ⟨rfl, rfl, rfl⟩ := trodAll_nil h
  exact trodAll_mk0
 | t :: ts, _, _, _, ht, h, hlt, hsp => by
  obtain ⟨v, vs, d, ds, p, q, rfl, rfl, rfl, h1, h2⟩ := trodAll_cons h
  refine ⟨p, q, WideElems.Trod_stays hl (ht t (by simp)).1 (ht t (by simp)).2 h1 (fun x hx' => hx.same (hlt x (by simp [hx']))) (fun x hx' => hsp x (by simp [hx'])), ?_, rfl⟩
  exact trodAll_stays hl hx (fun t' ht' => ht t' (by simp [ht'])) h2 (fun x hx' => hlt x (by simp [hx'])) (fun x hx' => hsp x (by simp [hx']))
theorem post_of_ext {H : Type} {enc : TypeId × Value → H} {P : Program} {f : Func} {s : ChangeSpec} {apart fresh handsOn again : Bool} {W W' : World} {args : Array Value} {v : Value} {ds : List (DataW H)} {before : List MemPlace}
 (hl : laidOutB P = true) (hts : (f.params.toList.all fun t => P.readableRec t && decide (t < P.types.size)) = true) (hx : Ext W W') (hv : s.vars = [])
 (hW : DataW.Whole enc P f.params.toList s.vars apart W args.toList ds [] before) (hA : DataW.TrodAll enc P W 0 (fun _ => true) true f.params.toList args.toList ds before)
 (hsp : (s.fn H ds).args = ds) (hsv : (s.fn H ds).vars = [])
 (hres : ∀ (b : Nat) (sp : Nat → Bool) (hd : Bool), DataW.TrodAll enc P W' b sp hd f.resultTypes.toList (v.resultList f.resultTypes.size) (s.fn H ds).results [])
 (hok : ∀ (j : Nat) (t : TypeId) (r : Value), f.resultTypes[j]? = some t → (v.resultList f.resultTypes.size)[j]? = some r → Value.okWide P W' .any 0 t r) :
 s.post enc P f apart fresh handsOn again W args v W' := by
 have hts' : ∀ t ∈ f.params.toList, P.readableRec t = true ∧ t < P.types.size := fun t ht => by
  have := List.all_eq_true.1 hts t ht
  simpa using this
 have hlt : ∀ x ∈ before, x.block < W.heap.size := fun x hx' => by simpa using hW.lt x hx'
 have hargs : ∀ sp : Nat → Bool, (∀ p ∈ before, sp p.block = true) → DataW.TrodAll enc P W' 0 sp true f.params.toList args.toList (s.fn H (ds ++ [])).args before := fun sp h => by
  rw [List.append_nil, hsp]; exact trodAll_stays hl hx hts' hA hlt h
 have hvars : ∀ sp : Nat → Bool, DataW.TrodVars enc P W' sp s.vars (s.fn H (ds ++ [])).vars [] := fun sp => by
  rw [List.append_nil, hsv, hv]; rfl
 have hres' : ∀ (b : Nat) (sp : Nat → Bool) (hd : Bool), DataW.TrodAll enc P W' b sp hd f.resultTypes.toList (v.resultList f.resultTypes.size) (s.fn H (ds ++ [])).results [] := fun b sp hd => by
  rw [List.append_nil]; exact hres b sp hd
 have hold : ∀ p ∈ before, (fun b => decide (b < W.heap.size)) p.block = true := fun p hp => by simpa using hlt p hp
 refine ⟨ds, [], before, [], before, [], hW, hres' _ _ _, hargs _ hold, hvars _, hx.frame _, fun _ => ?_⟩
 obtain ⟨_, _, _, _, _, hz, hn⟩ := id hW
 refine ⟨hok, _, _, ([] ++ before) ++ [], ⟨[] ++ before, [], trodAll_append (hargs _ (fun _ _ => rfl)) (hres' _ _ _), hvars _, rfl, ?_, ?_⟩, ?_⟩
 ·intro b off hp
  simp only [List.nil_append, List.append_nil] at hp
  rw [Below.frozen hx (p := ⟨b, off, none⟩) (hlt _ hp)]
  exact hz b off hp
 ·intro ha
  have := hn ha
  simpa using this
 ·intro p hp _
  simpa using hp
theorem spot_none {W : World} {a : Addr} {u : Value} (h : W.cell? a = some u) : a = ⟨a.block, a.off, none⟩ := by
 obtain ⟨b, o, s⟩ := a
 cases s with
 | none => rfl
 | some s => exfalso; unfold World.cell? at h; simp only at h; split at h <;> simp at h
theorem r0_agg {pr : Nat → Prop} {W : World} {l : List AV} {xs : List Value} (hl : xs.length = l.length) (h : ∀ (i : Nat) (a : AV) (x : Value), l[i]? = some a → xs[i]? = some x → R0 pr W a x) : R0 pr W (.agg l) (.agg xs.toArray) := .agg l xs hl h
theorem calls_of_ok {P : Program} {f : FuncId} {args : List AV} (h : FnOk P f args (fun q => q = .v (.bool true))) {vs : List Value} {W : World} (hl : vs.length = args.length) (hR : ∀ (i : Nat) (a : AV) (x : Value), args[i]? = some a → vs[i]? = some x → R0 (fun _ => False) W a x) :
 Calls P f vs.toArray W fun e W' => e = .returned (.bool true) ∧ Ext W W' :=
 (h (fun _ => False) W vs hl hR).mono fun e W' ⟨r, v, h1, h2, h3, h4⟩ => by
  subst h2
  cases h3
  exact ⟨h1, h4⟩
theorem list2 {α : Type} {l : List α} (h : l.length = 2) : ∃ a b, l = [a, b] := by
 match l, h with
 | [a, b], _ => exact ⟨a, b, rfl⟩
theorem list3 {α : Type} {l : List α} (h : l.length = 3) : ∃ a b c, l = [a, b, c] := by
 match l, h with
 | [a, b, c], _ => exact ⟨a, b, c, rfl⟩
theorem list4 {α : Type} {l : List α} (h : l.length = 4) : ∃ a b c d, l = [a, b, c, d] := by
 match l, h with
 | [a, b, c, d], _ => exact ⟨a, b, c, d, rfl⟩
theorem cInt : Try.prog.cellsOf 3 = 1 := by kernel_rfl
theorem cStr : Try.prog.cellsOf 9 = 1 := by kernel_rfl
set_option maxRecDepth 100000 in
set_option maxHeartbeats 1000000 in
theorem open_num {H : Type} {enc : TypeId × Value → H} {W : World} {base : Nat} {v : Value} {d : DataW H} {p : List MemPlace} (hv : Value.okWide Try.prog W .any base 3 v)
 (h : DataW.Trod enc Try.prog W 0 (fun _ => true) true 3 v d p) : ∃ z : Int, R0 (fun _ => False) W (iA z) v := by
 obtain ⟨z, rfl, _, _, _⟩ := open_int Try.underlying3 hv h
 exact ⟨z, .v _⟩
end Go.Proofs.Ytjhcfpdgldpicaa
namespace Go.Proofs.Ytjhcfpdgldpicaa
open Go Go.RowKit Go.Proofs
structure Jnt where
 acr : Int
 up : Int
 lo : Int
 hi : Int
 deriving Inhabited
structure Bea where
 len : Int
 cant : Int
 deriving Inhabited
structure Swi where
 nam : ByteArray
 fst : Int
 acr : List Int
 deriving Inhabited
abbrev mA (n : Int) : AV := .v (.int .i64 n)
abbrev tbA (b : Bool) : AV := .v (.bool b)
def jnE (j : Jnt) : List AV := [.v (.int .i64 j.acr), .v (.int .i64 j.up), .v (.int .i64 j.lo), .v (.int .i64 j.hi)]
def beE (b : Bea) : List AV := [.v (.int .i64 b.len), .v (.int .i64 b.cant)]
def swE (s : Swi) : List AV := [.v (.string s.nam), .v (.int .i64 s.fst), .row 1 (s.acr.map iE)]
structure Lin where
 nam : ByteArray
 js : List Jnt
 bs : List Bea
 ss : List Swi
abbrev lnA (l : Lin) : AV := .agg [.v (.string l.nam), .row 4 (l.js.map jnE), .row 2 (l.bs.map beE), .row 3 (l.ss.map swE)]
def smaB (n m : Int) : Bool := withinB n (-m) m
def jntB (j : Jnt) : Bool := smaB j.acr 20000 && smaB j.up 20000 && smaB j.lo 100 && smaB j.hi 100
def jntE (j : Jnt) : Int := if jntB j then (if j.lo ≤ j.hi then 0 else 9) else 2
def beaB (b : Bea) : Bool := withinB b.len 1000 30000 && smaB b.cant 300
def beaE (b : Bea) : Int := if beaB b then 0 else 2
def claB (s o : Swi) : Bool := decide (s.fst < wrap64 (o.fst + o.acr.length) ∧ o.fst < wrap64 (s.fst + s.acr.length))
def swiE (l : Lin) (i : Nat) : Int :=
 if !isNameB (l.ss.getD i default).nam then 4
 else if (l.ss.take i).any (fun o => o.nam.toList == (l.ss.getD i default).nam.toList) then 5
 else if (l.ss.getD i default).acr.length = 0 then 10
 else if !withinB (l.ss.getD i default).fst 1 (l.bs.length - (l.ss.getD i default).acr.length) then 6
 else if (l.ss.getD i default).acr.any (fun n => !smaB n 20000) then 2
 else if (l.ss.take i).any (fun o => claB (l.ss.getD i default) o) then 13
 else 0
def firN (f : Nat → Int) : Nat → Option Nat
 | 0 => none
 | n + 1 => match firN f n with
  | some i => some i
  | none => if f n = 0 then none else some n
theorem firN_none {f : Nat → Int} : ∀ {n : Nat}, (∀ j, j < n → f j = 0) → firN f n = none
 | 0, _ => rfl
 | n + 1, h => by simp only [firN]; rw [firN_none fun j hj => h j (by omega)]; simp [h n (by omega)]
theorem firN_some {f : Nat → Int} {i : Nat} (hn : ∀ j, j < i → f j = 0) (hi : f i ≠ 0) : ∀ {n : Nat}, i < n → firN f n = some i
 | 0, h => absurd h (by omega)
 | n + 1, h => by
  simp only [firN]
  by_cases hin : i = n
  ·subst hin; rw [firN_none hn]; simp [hi]
  ·rw [firN_some hn hi (n := n) (by omega)]
def lisM (k : Int) (f : Nat → Int) (n : Nat) (z : (Int × Int) × Int) : (Int × Int) × Int := match firN f n with
 | some i => ((k, i), f i)
 | none => z
def linM (l : Lin) : (Int × Int) × Int :=
 if !isNameB l.nam then ((0, 0), 4)
 else if l.bs.length = 0 ∨ l.js.length ≠ l.bs.length + 1 then ((0, 0), 10)
 else if 40 < l.bs.length then ((0, 0), 8)
 else lisM 1 (fun i => jntE (l.js.getD i default)) l.js.length
  (lisM 2 (fun i => beaE (l.bs.getD i default)) l.bs.length
   (if 4 < l.ss.length then ((0, 0), 8) else lisM 3 (swiE l) l.ss.length ((0, 0), 0)))
set_option maxRecDepth 100000 in
set_option maxHeartbeats 1000000 in
theorem size_ok (n m : Int) (hm : -1000000000 ≤ m ∧ m ≤ 1000000000) : FnOk Try.prog 54 [mA n, mA m] (fun q => q = tbA (smaB n m)) := by
 refine fnOk_of (fn := Try.f54) 10 (by kernel_rfl) rfl (by kernel_rfl) (Nat.le_of_ble_eq_true rfl) ?_
 intro e_0 m_0 hA hm_0
 have s0_0 : evA e_0 (.tmp 0) = _ := hA 0 _ rfl
 have s1_0 : evA e_0 (.tmp 1) = _ := hA 1 _ rfl
 have ml_0 : m_0.length = 0 := by rw [hm_0]; rfl
 clear hA hm_0
 refine aw_seq <| at_ <| ar (ro_assign ev_c) rfl <| ae2 (up_m rfl s0_0) (up_m rfl s1_0) ?_; clear s0_0 s1_0; intro e_1 s0_1 s1_1
 refine then_n <| aw_seq <| at_ <| ar (ro_move s0_1) rfl <| ar (ro_move (up_m rfl s1_1)) rfl ?_
 (refine ar (ro_neg' up_h ?_) rfl ?_; · (unfold In64; omega))
 refine ar (ro_move (up_m rfl (u2 rfl s1_1))) rfl <| ar (ro_call (evL_cons (up_m rfl (u2 rfl up_h)) (evL_cons (up_m rfl up_h) (evL_cons up_h evL_nil))) rfl (bWithin_ok _ _ _) qhcf16) rfl <| ar (ro_assign up_h) rfl <| ae1 up_h ?_; clear s0_1 s1_1; intro e_2 s4_2
 refine then_n <| aw_ret <| ret1 (.inr rfl) (by kernel_rfl) (resV_tmp s4_2) (.ro _ rfl) ?_
 clear s4_2 ml_0
 rfl
def Sho (l : Lin) : Prop := l.nam.size ≤ 1000000 ∧ l.js.length ≤ 1000000 ∧ l.bs.length ≤ 1000000 ∧ l.ss.length ≤ 1000000 ∧ ∀ s ∈ l.ss, s.nam.size ≤ 1000000 ∧ s.acr.length ≤ 1000000
theorem Sho.at {l : Lin} (h : Sho l) (i : Nat) : (l.ss.getD i default).nam.size ≤ 1000000 ∧ (l.ss.getD i default).acr.length ≤ 1000000 := by
 by_cases hi : i < l.ss.length
 ·exact h.2.2.2.2 _ (by rw [List.getD_eq_getElem?_getD, List.getElem?_eq_getElem hi]; exact List.getElem_mem hi)
 ·rw [List.getD_eq_getElem?_getD, List.getElem?_eq_none (by omega)]; exact ⟨by decide, by decide⟩
end Go.Proofs.Ytjhcfpdgldpicaa
