/- Contracts of chapter 5: names, tracks, systems. No conditions on a program. -/
import Derived.Test.YtknclifdncmgpaaK1
namespace Go.Proofs.Ytknclifdncmgpaa
open Go Go.RowKit Go.Proofs
set_option linter.unusedSimpArgs false
set_option linter.unusedVariables false
theorem k2_un9 : Try.prog.underlying 9 = some .string := by kernel_rfl

def okB (j : Nat) (c : UInt8) : Bool :=
  decide (97 ≤ (c.toNat : Int) ∧ (c.toNat : Int) ≤ 122 ∨ 65 ≤ (c.toNat : Int) ∧ (c.toNat : Int) ≤ 90 ∨ j ≠ 0 ∧ ((c.toNat : Int) = 45 ∨ 48 ≤ (c.toNat : Int) ∧ (c.toNat : Int) ≤ 57))
theorem okB_t {j : Nat} {c : UInt8} (h : 97 ≤ (c.toNat : Int) ∧ (c.toNat : Int) ≤ 122 ∨ 65 ≤ (c.toNat : Int) ∧ (c.toNat : Int) ≤ 90 ∨ j ≠ 0 ∧ ((c.toNat : Int) = 45 ∨ 48 ≤ (c.toNat : Int) ∧ (c.toNat : Int) ≤ 57)) : okB j c = true := decide_eq_true h
theorem okB_f {j : Nat} {c : UInt8} (h : ¬ (97 ≤ (c.toNat : Int) ∧ (c.toNat : Int) ≤ 122 ∨ 65 ≤ (c.toNat : Int) ∧ (c.toNat : Int) ≤ 90 ∨ j ≠ 0 ∧ ((c.toNat : Int) = 45 ∨ 48 ≤ (c.toNat : Int) ∧ (c.toNat : Int) ≤ 57))) : okB j c = false := decide_eq_false h
/-- The letters of a name, one by one. -/
def namB (l : List UInt8) : Bool := (List.range l.length).all fun j => okB j (l.getD j default)
def isNameB (s : ByteArray) : Bool := namB s.data.toList && decide (1 ≤ s.size) && decide (s.size ≤ 12)
theorem namB_f {l : List UInt8} {i : Nat} (hi : i < l.length) (h : okB i (l.getD i default) = false) : namB l = false := by
  unfold namB
  rw [Bool.eq_false_iff]
  intro ha
  have := List.all_eq_true.1 ha i (List.mem_range.2 hi)
  rw [h] at this; cases this
theorem namB_t {l : List UInt8} (h : ∀ j : Nat, j < l.length → okB j (l.getD j default) = true) : namB l = true := List.all_eq_true.2 fun j hj => h j (List.mem_range.1 hj)
theorem sz_list (s : ByteArray) : s.data.toList.length = s.size := rfl
theorem bytes_list (s : ByteArray) : s.toList = s.data.toList := ByteArray.toList_eq s
theorem empty_size (s : ByteArray) : (s.toList == (ByteArray.mk #[]).toList) = decide (s.size = 0) := by
  rw [Bool.eq_iff_iff]
  simp only [beq_iff_eq, decide_eq_true_eq, bytes_list]
  constructor
  · intro h; have := congrArg List.length h; exact this
  · intro h; exact List.eq_nil_of_length_eq_zero h
def letB (c : Int) : Bool := decide (97 ≤ c ∧ c ≤ 122 ∨ 65 ≤ c ∧ c ≤ 90)
set_option maxRecDepth 100000 in
set_option maxHeartbeats 4000000 in
theorem bIsName_ok (s : ByteArray) (hs : s.size ≤ 1000000000) : FnOk Try.prog 110 [.v (.string s)] (fun q => q = .v (.bool (isNameB s))) := by
  refine fnOk_of (fn := Try.f110) 55 (by kernel_rfl) rfl (by kernel_rfl) (Nat.le_of_ble_eq_true rfl) ?_
  intro e_0 m_0 hA hm_0
  have s0_0 : evA e_0 (.tmp 0) = _ := hA 0 _ rfl
  have ml_0 : m_0.length = 0 := by rw [hm_0]; rfl
  clear hA hm_0
  have hsl := sz_list s
  refine aw_seq ?_
  refine aw_text (by kernel_rfl) ?_
  refine al_ro' (ro_assign ev_c) trivial rfl ?_
  refine al_end (fun e_1 he_1 => ?_)
  have s0_1 := ef 0 he_1 (up_m rfl s0_0)
  clear he_1 s0_0
  refine then_n ?_
  refine aw_seq ?_
  refine aw_seq ?_
  refine aw_cut (fun e mem => (evA e (.tmp 13) = .v (.bool (decide (s.size < 1 ∨ 12 < s.size)))) ∧ (evA e (.tmp 0) = evA e_1 (.tmp 0)) ∧ m_0 = mem) ?_ ?_
  ·
    refine aw_text (by kernel_rfl) ?_
    refine al_ro' (ro_move s0_1) trivial rfl ?_
    refine al_ro' (ro_len_str up_h rfl k2_un9) trivial rfl ?_
    refine al_ro' (ro_lss up_h ev_c) trivial rfl ?_
    refine al_ro' (ro_move up_h) trivial rfl ?_
    refine al_case up_h (fun hb_3 hq_3 => ?_) (fun hb_3 hq_3 => ?_)
    ·replace hq_3 := bt hq_3
     refine al_skip' ⟨_, rfl, .inl hb_3⟩ rfl ?_
     refine al_skip' ⟨_, rfl, .inl (up_m rfl hb_3)⟩ rfl ?_
     refine al_skip' ⟨_, rfl, .inl (u2 rfl hb_3)⟩ rfl ?_
     refine al_ro' (ro_pickT (up_m rfl (u2 rfl hb_3)) ev_c) trivial rfl ?_
     refine al_end (fun e_4 he_4 => ?_)
     have s0_4 := ef 0 he_4 (u8 rfl s0_1)
     have s13_4 := ef 13 he_4 up_h
     clear he_4
     refine then_n ⟨(s13_4).trans (by (refine avb ?_; simp only [decide_eq_true_eq, Bool.false_eq_true, true_iff, false_iff]; omega)), (s0_4).trans (s0_1).symm, rfl⟩
    replace hq_3 := bf hq_3
    refine al_ro' (ro_move (u4 rfl s0_1)) ⟨_, rfl, hb_3⟩ rfl ?_
    refine al_ro' (ro_len_str up_h rfl k2_un9) ⟨_, rfl, (up_m rfl hb_3)⟩ rfl ?_
    refine al_ro' (ro_gtr up_h ev_c) ⟨_, rfl, (u2 rfl hb_3)⟩ rfl ?_
    refine al_ro' (ro_pickF (up_m rfl (u2 rfl hb_3)) up_h) trivial rfl ?_
    refine al_end (fun e_5 he_5 => ?_)
    have s0_5 := ef 0 he_5 (u8 rfl s0_1)
    have s13_5 := ef 13 he_5 up_h
    clear he_5
    refine then_n ⟨(s13_5).trans (by (refine avb ?_; simp only [decide_eq_true_eq, Bool.false_eq_true, true_iff, false_iff]; omega)), (s0_5).trans (s0_1).symm, rfl⟩
  · rintro e_2 _ ⟨s13_2, k0_2, rfl⟩
    have s0_2 := k0_2.trans s0_1
    refine aw_case s13_2 (fun hq_6 => ?_) (fun hq_6 => ?_)
    ·replace hq_6 := bt hq_6
     refine aw_seq ?_
     refine aw_text (by kernel_rfl) ?_
     refine al_ro' (ro_assign ev_c) trivial rfl ?_
     refine al_end (fun e_7 he_7 => ?_)
     have s2_7 := ef 2 he_7 up_h
     clear he_7 s0_2 s13_2
     refine then_n ?_
     refine aw_ret ?_
     refine then_r ?_
     refine ret1 (.inr rfl) (by kernel_rfl) (resV_tmp s2_7) (.ro _ rfl) ?_
     clear s2_7  ml_0
     (simp only [isNameB]; refine avb ?_; simp only [Bool.and_eq_true, decide_eq_true_eq, Bool.false_eq_true, false_iff]; omega)
    replace hq_6 := bf hq_6
    refine aw_skip ?_
    refine then_n ?_
    refine aw_seq ?_
    refine aw_seq ?_
    refine aw_text (by kernel_rfl) ?_
    refine al_ro' (ro_assign ev_c) trivial rfl ?_
    refine al_end (fun e_8 he_8 => ?_)
    have s0_8 := ef 0 he_8 (up_m rfl s0_2)
    have s3_8 := ef 3 he_8 up_h
    clear he_8 s0_2 s13_2
    refine then_n ?_
    refine aw_block ?_
    refine aw_loop (S := Int) (fun i e mem => (evA e (.tmp 3) = .v (.int .i64 i)) ∧ (evA e (.tmp 0) = evA e_8 (.tmp 0)) ∧ (mem.length = 0) ∧ ((0 ≤ i ∧ i ≤ s.data.toList.length ∧ ∀ j : Nat, j < i.toNat → okB j (s.data.toList.getD j default) = true))) (fun i => (s.data.toList.length - i).toNat) _ ⟨s3_8, rfl, ml_0, ?_⟩ ?_
    · exact ⟨by omega, by omega, fun j hj => by omega⟩
    · rintro i e_9 m_9 ⟨s3_9, k0_9, ml_9, hinv⟩
      have s0_9 := k0_9.trans s0_8
      refine aw_seq ?_
      refine aw_seq ?_
      refine aw_text (by kernel_rfl) ?_
      refine al_ro' (ro_move s3_9) trivial rfl ?_
      refine al_ro' (ro_move (up_m rfl s0_9)) trivial rfl ?_
      refine al_ro' (ro_len_str up_h rfl k2_un9) trivial rfl ?_
      refine al_ro' (ro_lss (u2 rfl up_h) up_h) trivial rfl ?_
      refine al_end (fun e_10 he_10 => ?_)
      have s0_10 := ef 0 he_10 (u4 rfl s0_9)
      have s3_10 := ef 3 he_10 (u4 rfl s3_9)
      have s17_10 := ef 17 he_10 up_h
      clear he_10 s0_9 s3_9
      refine then_n ?_
      refine aw_case s17_10 (fun hq_11 => ?_) (fun hq_11 => ?_)
      ·replace hq_11 := bt hq_11
       refine aw_skip ?_
       refine then_n ?_
       refine aw_seq ?_
       refine aw_block ?_
       refine aw_seq ?_
       refine aw_text (by kernel_rfl) ?_
       refine al_ro' (ro_move s0_10) trivial rfl ?_
       refine al_ro' (ro_move (up_m rfl s3_10)) trivial rfl ?_
       refine al_ro' (ro_sindex (up_m rfl up_h) up_h k2_un9 (by omega) (by refine idx_str ?_; first | omega | (simp <;> omega))) trivial rfl ?_
       refine al_ro' (ro_assign up_h) trivial rfl ?_
       refine al_end (fun e_12 he_12 => ?_)
       have s0_12 := ef 0 he_12 (u4 rfl s0_10)
       have s3_12 := ef 3 he_12 (u4 rfl s3_10)
       have s4_12 := ef 4 he_12 up_h
       clear he_12 s0_10 s17_10 s3_10
       refine then_n ?_
       refine aw_seq ?_
       refine aw_cut (fun e mem => (evA e (.tmp 5) = .v (.bool (letB (s.data.toList.getD i.toNat default).toNat))) ∧ (evA e (.tmp 0) = evA e_12 (.tmp 0)) ∧ (evA e (.tmp 3) = evA e_12 (.tmp 3)) ∧ (evA e (.tmp 4) = evA e_12 (.tmp 4)) ∧ m_9 = mem) ?_ ?_
       ·
         refine aw_text (by kernel_rfl) ?_
         refine al_ro' (ro_move s4_12) trivial rfl ?_
         refine al_ro' (ro_geq up_h ev_c) trivial rfl ?_
         refine al_ro' (ro_move up_h) trivial rfl ?_
         refine al_case up_h (fun hb_14 hq_14 => ?_) (fun hb_14 hq_14 => ?_)
         ·replace hq_14 := bt hq_14
          refine al_ro' (ro_move (up_m rfl (u2 rfl s4_12))) ⟨_, rfl, hb_14⟩ rfl ?_
          refine al_ro' (ro_leq up_h ev_c) ⟨_, rfl, (up_m rfl hb_14)⟩ rfl ?_
          refine al_ro' (ro_pickT (u2 rfl hb_14) up_h) trivial rfl ?_
          refine al_ro' (ro_move up_h) trivial rfl ?_
          refine al_case up_h (fun hb_15 hq_15 => ?_) (fun hb_15 hq_15 => ?_)
          ·replace hq_15 := bt hq_15
           refine al_skip' ⟨_, rfl, .inl hb_15⟩ rfl ?_
           refine al_skip' ⟨_, rfl, .inl (up_m rfl hb_15)⟩ rfl ?_
           refine al_skip' ⟨_, rfl, .inl (u2 rfl hb_15)⟩ rfl ?_
           refine al_skip' ⟨_, rfl, .inr up_h⟩ rfl ?_
           refine al_skip' ⟨_, rfl, .inr (up_m rfl up_h)⟩ rfl ?_
           refine al_skip' ⟨_, rfl, .inl (up_m rfl (u4 rfl hb_15))⟩ rfl ?_
           refine al_ro' (ro_pickT (u2 rfl (u4 rfl hb_15)) ev_c) trivial rfl ?_
           refine al_ro' (ro_assign up_h) trivial rfl ?_
           refine al_end (fun e_16 he_16 => ?_)
           have s0_16 := ef 0 he_16 (up_m rfl (u2 rfl (u4 rfl (u8 rfl s0_12))))
           have s3_16 := ef 3 he_16 (up_m rfl (u2 rfl (u4 rfl (u8 rfl s3_12))))
           have s4_16 := ef 4 he_16 (up_m rfl (u2 rfl (u4 rfl (u8 rfl s4_12))))
           have s5_16 := ef 5 he_16 up_h
           clear he_16
           refine then_n ⟨(s5_16).trans (by (refine avb ?_; simp only [letB, decide_eq_true_eq, Bool.false_eq_true, true_iff, false_iff]; omega)), (s0_16).trans (s0_12).symm, (s3_16).trans (s3_12).symm, (s4_16).trans (s4_12).symm, rfl⟩
          replace hq_15 := bf hq_15
          refine al_ro' (ro_move (up_m rfl (u2 rfl (u4 rfl s4_12)))) ⟨_, rfl, hb_15⟩ rfl ?_
          refine al_ro' (ro_geq up_h ev_c) ⟨_, rfl, (up_m rfl hb_15)⟩ rfl ?_
          refine al_ro' (ro_move up_h) ⟨_, rfl, (u2 rfl hb_15)⟩ rfl ?_
          refine al_case up_h (fun hb_17 hq_17 => ?_) (fun hb_17 hq_17 => ?_)
          ·replace hq_17 := bt hq_17
           refine al_ro' (ro_move (u2 rfl (u8 rfl s4_12))) ⟨_, rfl, hb_17⟩ rfl ?_
           refine al_ro' (ro_leq up_h ev_c) ⟨_, rfl, (up_m rfl hb_17)⟩ rfl ?_
           refine al_ro' (ro_pickT (u2 rfl hb_17) up_h) ⟨_, rfl, (up_m rfl (u4 rfl hb_15))⟩ rfl ?_
           refine al_ro' (ro_pickF (u2 rfl (u4 rfl hb_15)) up_h) trivial rfl ?_
           refine al_ro' (ro_assign up_h) trivial rfl ?_
           refine al_end (fun e_18 he_18 => ?_)
           have s0_18 := ef 0 he_18 (up_m rfl (u2 rfl (u4 rfl (u8 rfl s0_12))))
           have s3_18 := ef 3 he_18 (up_m rfl (u2 rfl (u4 rfl (u8 rfl s3_12))))
           have s4_18 := ef 4 he_18 (up_m rfl (u2 rfl (u4 rfl (u8 rfl s4_12))))
           have s5_18 := ef 5 he_18 up_h
           clear he_18
           refine then_n ⟨(s5_18).trans (by (refine avb ?_; simp only [letB, decide_eq_true_eq, Bool.false_eq_true, true_iff, false_iff]; omega)), (s0_18).trans (s0_12).symm, (s3_18).trans (s3_12).symm, (s4_18).trans (s4_12).symm, rfl⟩
          · replace hq_17 := bf hq_17; exfalso; omega
         replace hq_14 := bf hq_14
         refine al_skip' ⟨_, rfl, .inl hb_14⟩ rfl ?_
         refine al_skip' ⟨_, rfl, .inl (up_m rfl hb_14)⟩ rfl ?_
         refine al_ro' (ro_pickF (u2 rfl hb_14) ev_c) trivial rfl ?_
         refine al_ro' (ro_move up_h) trivial rfl ?_
         refine al_ro' (ro_move (up_m rfl (u2 rfl (u4 rfl s4_12)))) ⟨_, rfl, up_h⟩ rfl ?_
         refine al_ro' (ro_geq up_h ev_c) ⟨_, rfl, (up_m rfl up_h)⟩ rfl ?_
         refine al_ro' (ro_move up_h) ⟨_, rfl, (u2 rfl up_h)⟩ rfl ?_
         refine al_case up_h (fun hb_20 hq_20 => ?_) (fun hb_20 hq_20 => ?_)
         ·replace hq_20 := bt hq_20
          refine al_ro' (ro_move (u2 rfl (u8 rfl s4_12))) ⟨_, rfl, hb_20⟩ rfl ?_
          refine al_ro' (ro_leq up_h ev_c) ⟨_, rfl, (up_m rfl hb_20)⟩ rfl ?_
          refine al_ro' (ro_pickT (u2 rfl hb_20) up_h) ⟨_, rfl, (up_m rfl (u4 rfl up_h))⟩ rfl ?_
          refine al_ro' (ro_pickF (u2 rfl (u4 rfl up_h)) up_h) trivial rfl ?_
          refine al_ro' (ro_assign up_h) trivial rfl ?_
          refine al_end (fun e_21 he_21 => ?_)
          have s0_21 := ef 0 he_21 (up_m rfl (u2 rfl (u4 rfl (u8 rfl s0_12))))
          have s3_21 := ef 3 he_21 (up_m rfl (u2 rfl (u4 rfl (u8 rfl s3_12))))
          have s4_21 := ef 4 he_21 (up_m rfl (u2 rfl (u4 rfl (u8 rfl s4_12))))
          have s5_21 := ef 5 he_21 up_h
          clear he_21
          refine then_n ⟨(s5_21).trans (by (refine avb ?_; simp only [letB, decide_eq_true_eq, Bool.false_eq_true, true_iff, false_iff]; omega)), (s0_21).trans (s0_12).symm, (s3_21).trans (s3_12).symm, (s4_21).trans (s4_12).symm, rfl⟩
         replace hq_20 := bf hq_20
         refine al_skip' ⟨_, rfl, .inl hb_20⟩ rfl ?_
         refine al_skip' ⟨_, rfl, .inl (up_m rfl hb_20)⟩ rfl ?_
         refine al_ro' (ro_pickF (u2 rfl hb_20) ev_c) ⟨_, rfl, (up_m rfl (u4 rfl up_h))⟩ rfl ?_
         refine al_ro' (ro_pickF (u2 rfl (u4 rfl up_h)) up_h) trivial rfl ?_
         refine al_ro' (ro_assign up_h) trivial rfl ?_
         refine al_end (fun e_22 he_22 => ?_)
         have s0_22 := ef 0 he_22 (up_m rfl (u2 rfl (u4 rfl (u8 rfl s0_12))))
         have s3_22 := ef 3 he_22 (up_m rfl (u2 rfl (u4 rfl (u8 rfl s3_12))))
         have s4_22 := ef 4 he_22 (up_m rfl (u2 rfl (u4 rfl (u8 rfl s4_12))))
         have s5_22 := ef 5 he_22 up_h
         clear he_22
         refine then_n ⟨(s5_22).trans (by (refine avb ?_; simp only [letB, decide_eq_true_eq, Bool.false_eq_true, true_iff, false_iff]; omega)), (s0_22).trans (s0_12).symm, (s3_22).trans (s3_12).symm, (s4_22).trans (s4_12).symm, rfl⟩
       · rintro e_13 _ ⟨s5_13, k0_13, k3_13, k4_13, rfl⟩
         have s0_13 := k0_13.trans s0_12
         have s3_13 := k3_13.trans s3_12
         have s4_13 := k4_13.trans s4_12
         refine aw_seq ?_
         refine aw_cut (fun e mem => (evA e (.tmp 54) = .v (.bool (!okB i.toNat (s.data.toList.getD i.toNat default)))) ∧ (evA e (.tmp 0) = evA e_13 (.tmp 0)) ∧ (evA e (.tmp 3) = evA e_13 (.tmp 3)) ∧ m_9 = mem) ?_ ?_
         ·
           refine aw_text (by kernel_rfl) ?_
           refine al_ro' (ro_move s5_13) trivial rfl ?_
           refine al_ro' (ro_not up_h) trivial rfl ?_
           refine al_ro' (ro_move up_h) trivial rfl ?_
           refine al_case up_h (fun hb_24 hq_24 => ?_) (fun hb_24 hq_24 => ?_)
           ·replace hq_24 := bnt hq_24
            refine al_ro' (ro_move (up_m rfl (u2 rfl s3_13))) ⟨_, rfl, hb_24⟩ rfl ?_
            refine al_ro' (ro_eql up_h ev_c) ⟨_, rfl, (up_m rfl hb_24)⟩ rfl ?_
            refine al_ro' (ro_move up_h) ⟨_, rfl, (u2 rfl hb_24)⟩ rfl ?_
            refine al_case up_h (fun hb_25 hq_25 => ?_) (fun hb_25 hq_25 => ?_)
            ·replace hq_25 := bt hq_25
             refine al_skip' ⟨_, rfl, .inl hb_25⟩ rfl ?_
             refine al_skip' ⟨_, rfl, .inl (up_m rfl hb_25)⟩ rfl ?_
             refine al_skip' ⟨_, rfl, .inl (u2 rfl hb_25)⟩ rfl ?_
             refine al_skip' ⟨_, rfl, .inr up_h⟩ rfl ?_
             refine al_skip' ⟨_, rfl, .inr (up_m rfl up_h)⟩ rfl ?_
             refine al_skip' ⟨_, rfl, .inr (u2 rfl up_h)⟩ rfl ?_
             refine al_skip' ⟨_, rfl, .inr up_h⟩ rfl ?_
             refine al_skip' ⟨_, rfl, .inr (up_m rfl up_h)⟩ rfl ?_
             refine al_skip' ⟨_, rfl, .inr (up_m rfl (u4 rfl up_h))⟩ rfl ?_
             refine al_skip' ⟨_, rfl, .inl (up_m rfl (u8 rfl hb_25))⟩ rfl ?_
             refine al_ro' (ro_pickT (u2 rfl (u8 rfl hb_25)) ev_c) ⟨_, rfl, (up_m rfl (u4 rfl (u8 rfl hb_24)))⟩ rfl ?_
             refine al_ro' (ro_pickT (u2 rfl (u4 rfl (u8 rfl hb_24))) up_h) trivial rfl ?_
             refine al_end (fun e_26 he_26 => ?_)
             have s0_26 := ef 0 he_26 (u2 rfl (u16 rfl s0_13))
             have s3_26 := ef 3 he_26 (u2 rfl (u16 rfl s3_13))
             have s54_26 := ef 54 he_26 up_h
             clear he_26
             refine then_n ⟨(s54_26).trans (by (refine avb ?_; simp only [letB, okB, decide_eq_true_eq, decide_eq_false_iff_not, Bool.false_eq_true, true_iff, false_iff, Bool.not_eq_true'] at *; omega)), (s0_26).trans (s0_13).symm, (s3_26).trans (s3_13).symm, rfl⟩
            replace hq_25 := bf hq_25
            refine al_ro' (ro_move (u2 rfl (u4 rfl s4_13))) ⟨_, rfl, hb_25⟩ rfl ?_
            refine al_ro' (ro_neq up_h ev_c) ⟨_, rfl, (up_m rfl hb_25)⟩ rfl ?_
            refine al_ro' (ro_move up_h) ⟨_, rfl, (u2 rfl hb_25)⟩ rfl ?_
            refine al_case up_h (fun hb_27 hq_27 => ?_) (fun hb_27 hq_27 => ?_)
            ·replace hq_27 := bnt hq_27
             refine al_ro' (ro_move (up_m rfl (u8 rfl s4_13))) ⟨_, rfl, hb_27⟩ rfl ?_
             refine al_ro' (ro_lss up_h ev_c) ⟨_, rfl, (up_m rfl hb_27)⟩ rfl ?_
             refine al_ro' (ro_move up_h) ⟨_, rfl, (u2 rfl hb_27)⟩ rfl ?_
             refine al_case up_h (fun hb_28 hq_28 => ?_) (fun hb_28 hq_28 => ?_)
             ·replace hq_28 := bt hq_28
              refine al_skip' ⟨_, rfl, .inl hb_28⟩ rfl ?_
              refine al_skip' ⟨_, rfl, .inl (up_m rfl hb_28)⟩ rfl ?_
              refine al_ro' (ro_pickT (u2 rfl hb_28) ev_c) ⟨_, rfl, (up_m rfl (u4 rfl hb_27))⟩ rfl ?_
              refine al_ro' (ro_pickT (u2 rfl (u4 rfl hb_27)) up_h) ⟨_, rfl, (up_m rfl (u8 rfl hb_25))⟩ rfl ?_
              refine al_ro' (ro_pickF (u2 rfl (u8 rfl hb_25)) up_h) ⟨_, rfl, (up_m rfl (u4 rfl (u8 rfl hb_24)))⟩ rfl ?_
              refine al_ro' (ro_pickT (u2 rfl (u4 rfl (u8 rfl hb_24))) up_h) trivial rfl ?_
              refine al_end (fun e_29 he_29 => ?_)
              have s0_29 := ef 0 he_29 (u2 rfl (u16 rfl s0_13))
              have s3_29 := ef 3 he_29 (u2 rfl (u16 rfl s3_13))
              have s54_29 := ef 54 he_29 up_h
              clear he_29
              refine then_n ⟨(s54_29).trans (by (refine avb ?_; simp only [letB, okB, decide_eq_true_eq, decide_eq_false_iff_not, Bool.false_eq_true, true_iff, false_iff, Bool.not_eq_true'] at *; omega)), (s0_29).trans (s0_13).symm, (s3_29).trans (s3_13).symm, rfl⟩
             replace hq_28 := bf hq_28
             refine al_ro' (ro_move (u4 rfl (u8 rfl s4_13))) ⟨_, rfl, hb_28⟩ rfl ?_
             refine al_ro' (ro_gtr up_h ev_c) ⟨_, rfl, (up_m rfl hb_28)⟩ rfl ?_
             refine al_ro' (ro_pickF (u2 rfl hb_28) up_h) ⟨_, rfl, (up_m rfl (u4 rfl hb_27))⟩ rfl ?_
             refine al_ro' (ro_pickT (u2 rfl (u4 rfl hb_27)) up_h) ⟨_, rfl, (up_m rfl (u8 rfl hb_25))⟩ rfl ?_
             refine al_ro' (ro_pickF (u2 rfl (u8 rfl hb_25)) up_h) ⟨_, rfl, (up_m rfl (u4 rfl (u8 rfl hb_24)))⟩ rfl ?_
             refine al_ro' (ro_pickT (u2 rfl (u4 rfl (u8 rfl hb_24))) up_h) trivial rfl ?_
             refine al_end (fun e_30 he_30 => ?_)
             have s0_30 := ef 0 he_30 (u2 rfl (u16 rfl s0_13))
             have s3_30 := ef 3 he_30 (u2 rfl (u16 rfl s3_13))
             have s54_30 := ef 54 he_30 up_h
             clear he_30
             refine then_n ⟨(s54_30).trans (by (refine avb ?_; simp only [letB, okB, decide_eq_true_eq, decide_eq_false_iff_not, Bool.false_eq_true, true_iff, false_iff, Bool.not_eq_true'] at *; omega)), (s0_30).trans (s0_13).symm, (s3_30).trans (s3_13).symm, rfl⟩
            replace hq_27 := bnf hq_27
            refine al_skip' ⟨_, rfl, .inl hb_27⟩ rfl ?_
            refine al_skip' ⟨_, rfl, .inl (up_m rfl hb_27)⟩ rfl ?_
            refine al_skip' ⟨_, rfl, .inl (u2 rfl hb_27)⟩ rfl ?_
            refine al_skip' ⟨_, rfl, .inr up_h⟩ rfl ?_
            refine al_skip' ⟨_, rfl, .inr (up_m rfl up_h)⟩ rfl ?_
            refine al_skip' ⟨_, rfl, .inl (up_m rfl (u4 rfl hb_27))⟩ rfl ?_
            refine al_ro' (ro_pickF (u2 rfl (u4 rfl hb_27)) ev_c) ⟨_, rfl, (up_m rfl (u8 rfl hb_25))⟩ rfl ?_
            refine al_ro' (ro_pickF (u2 rfl (u8 rfl hb_25)) up_h) ⟨_, rfl, (up_m rfl (u4 rfl (u8 rfl hb_24)))⟩ rfl ?_
            refine al_ro' (ro_pickT (u2 rfl (u4 rfl (u8 rfl hb_24))) up_h) trivial rfl ?_
            refine al_end (fun e_31 he_31 => ?_)
            have s0_31 := ef 0 he_31 (u2 rfl (u16 rfl s0_13))
            have s3_31 := ef 3 he_31 (u2 rfl (u16 rfl s3_13))
            have s54_31 := ef 54 he_31 up_h
            clear he_31
            refine then_n ⟨(s54_31).trans (by (refine avb ?_; simp only [letB, okB, decide_eq_true_eq, decide_eq_false_iff_not, Bool.false_eq_true, true_iff, false_iff, Bool.not_eq_true'] at *; omega)), (s0_31).trans (s0_13).symm, (s3_31).trans (s3_13).symm, rfl⟩
           replace hq_24 := bnf hq_24
           refine al_skip' ⟨_, rfl, .inl hb_24⟩ rfl ?_
           refine al_skip' ⟨_, rfl, .inl (up_m rfl hb_24)⟩ rfl ?_
           refine al_skip' ⟨_, rfl, .inl (u2 rfl hb_24)⟩ rfl ?_
           refine al_skip' ⟨_, rfl, .inr up_h⟩ rfl ?_
           refine al_skip' ⟨_, rfl, .inr (up_m rfl up_h)⟩ rfl ?_
           refine al_skip' ⟨_, rfl, .inr (u2 rfl up_h)⟩ rfl ?_
           refine al_skip' ⟨_, rfl, .inr up_h⟩ rfl ?_
           refine al_skip' ⟨_, rfl, .inr (up_m rfl up_h)⟩ rfl ?_
           refine al_skip' ⟨_, rfl, .inr (u2 rfl up_h)⟩ rfl ?_
           refine al_skip' ⟨_, rfl, .inr up_h⟩ rfl ?_
           refine al_skip' ⟨_, rfl, .inr (up_m rfl up_h)⟩ rfl ?_
           refine al_skip' ⟨_, rfl, .inr (up_m rfl (u4 rfl up_h))⟩ rfl ?_
           refine al_skip' ⟨_, rfl, .inr (up_m rfl (u8 rfl up_h))⟩ rfl ?_
           refine al_skip' ⟨_, rfl, .inl (up_m rfl (u4 rfl (u8 rfl hb_24)))⟩ rfl ?_
           refine al_ro' (ro_pickF (u2 rfl (u4 rfl (u8 rfl hb_24))) ev_c) trivial rfl ?_
           refine al_end (fun e_32 he_32 => ?_)
           have s0_32 := ef 0 he_32 (u2 rfl (u16 rfl s0_13))
           have s3_32 := ef 3 he_32 (u2 rfl (u16 rfl s3_13))
           have s54_32 := ef 54 he_32 up_h
           clear he_32
           refine then_n ⟨(s54_32).trans (by (refine avb ?_; simp only [letB, okB, decide_eq_true_eq, decide_eq_false_iff_not, Bool.false_eq_true, true_iff, false_iff, Bool.not_eq_true'] at *; omega)), (s0_32).trans (s0_13).symm, (s3_32).trans (s3_13).symm, rfl⟩
         · rintro e_23 _ ⟨s54_23, k0_23, k3_23, rfl⟩
           have s0_23 := k0_23.trans s0_13
           have s3_23 := k3_23.trans s3_13
           refine aw_case s54_23 (fun hq_33 => ?_) (fun hq_33 => ?_)
           ·replace hq_33 := bnt hq_33
            refine aw_seq ?_
            refine aw_text (by kernel_rfl) ?_
            refine al_ro' (ro_assign ev_c) trivial rfl ?_
            refine al_end (fun e_34 he_34 => ?_)
            have s2_34 := ef 2 he_34 up_h
            clear he_34 s0_23 s3_23 s54_23
            refine then_n ?_
            refine aw_ret ?_
            refine block_r ?_
            refine then_r ?_
            refine then_r ?_
            refine block_r ?_
            refine then_r ?_
            refine ret1 (.inr rfl) (by kernel_rfl) (resV_tmp s2_34) (.ro _ rfl) ?_
            clear s2_34  ml_9
            (obtain ⟨h1, h2, h3⟩ := hinv; have hn : namB s.data.toList = false := namB_f (i := i.toNat) (by omega) (by first | assumption | exact okB_f (by assumption)); simp [isNameB, hn])
           replace hq_33 := bnf hq_33
           refine aw_skip ?_
           refine block_n ?_
           refine then_n ?_
           refine aw_text (by kernel_rfl) ?_
           refine al_ro' (ro_move s3_23) trivial rfl ?_
           (refine al_ro' (ro_add' up_h ev_c ?_) trivial rfl ?_; · (unfold In64; omega))
           refine al_ro' (ro_assign up_h) trivial rfl ?_
           refine al_end (fun e_35 he_35 => ?_)
           have s0_35 := ef 0 he_35 (up_m rfl (u2 rfl s0_23))
           have s3_35 := ef 3 he_35 up_h
           clear he_35 s0_23 s3_23 s54_23
           refine then_n ?_
           refine ⟨_, ⟨s3_35, (s0_35.trans s0_8.symm), ml_9, ?_⟩, ?_⟩
           · (obtain ⟨h1, h2, h3⟩ := hinv; refine ⟨by omega, by omega, fun j hj => ?_⟩; by_cases hj' : j < i.toNat; exact h3 j hj'; have hji : j = i.toNat := (by omega); rw [hji]; first | assumption | exact okB_t (by omega))
           · ((try dsimp only); omega)
      replace hq_11 := bf hq_11
      refine aw_exit ?_
      refine then_x ?_
      refine then_x ?_
      refine block_hit ?_
      refine then_n ?_
      refine aw_seq ?_
      refine aw_text (by kernel_rfl) ?_
      refine al_ro' (ro_assign ev_c) trivial rfl ?_
      refine al_end (fun e_36 he_36 => ?_)
      have s2_36 := ef 2 he_36 up_h
      clear he_36 s0_10 s17_10 s3_10
      refine then_n ?_
      refine aw_ret ?_
      refine ret1 (.inr rfl) (by kernel_rfl) (resV_tmp s2_36) (.ro _ rfl) ?_
      clear s2_36  ml_9
      (obtain ⟨h1, h2, h3⟩ := hinv; have hn : namB s.data.toList = true := (namB_t fun j hj => h3 j (by omega)); refine avb ?_; simp only [isNameB, hn, Bool.true_and, Bool.and_eq_true, decide_eq_true_eq, true_iff]; omega)
end Go.Proofs.Ytknclifdncmgpaa
