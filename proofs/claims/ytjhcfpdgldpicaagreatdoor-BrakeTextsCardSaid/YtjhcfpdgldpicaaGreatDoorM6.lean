/- Texts of this claim, one behind the other: lemmas for the statement. -/
import Derived.Test.YtjhcfpdgldpicaaGreatDoorM5
import Derived.Test.YtjhcfpdgldpicaaGreatDoorRound
import Derived.Test.YtjhcfpdgldpicaaGreatDoorBox
import Derived.Test.YtjhcfpdgldpicaaGreatDoorOwn
import Derived.Test.YtjhcfpdgldpicaaGreatDoorM4
import Derived.Test.YtjhcfpdgldpicaaGreatDoorT0
import Derived.Test.YtjhcfpdgldpicaaGreatDoorM3
set_option linter.unusedSimpArgs false
set_option linter.unusedVariables false
namespace Go.Proofs.YtjhcfpdgldpicaaGreatDoor
open Go Go.RowKit Go.Proofs
attribute [local go_sem] Oper.semAt_some
def stL : List Int := [0, 0, -1, -1, 0, 1, -1, 0, 1, 0, 0, -1, 1, 1, 0, 0]
def Sts (w : World) : Prop := 999 < w.heap.size ∧ ∀ j, j < 16 → w.cell? ⟨999, j, none⟩ = some (.int .i64 (stL.getD j 0))
theorem Sts.ext {w w' : World} (h : Sts w) (hx : Ext w w') : Sts w' := ⟨Nat.lt_of_lt_of_le h.1 hx.size, fun j hj => (Below.cell hx (p := ⟨999, j, none⟩) h.1).trans (h.2 j hj)⟩
section region
variable (wb : Nat) (w0 : World) (B4 B7 B8 : Nat) (S L : Value) (st : Int) (l : T2) (k : Nat) (sts ls : List Value)
def Own1 (w : World) (x : Value) : Prop := ∃ A c, x = .slice A (k + 1) c ∧ w.ownsRow wb 3 1 x (k + 1) (sts ++ [.int .i64 st])
variable {wb w0 B4 B7 B8 S L st l k sts ls} {m : Nat → Bool} {w w' : World}
theorem Own1.alloc {x : Value} (h : Own1 wb st k sts w x) (o : Obj) : Own1 wb st k sts (w.alloc o) x := let ⟨A, c, e, r⟩ := h; ⟨A, c, e, r.alloc o⟩
theorem Own1.grown {x : Value} {row : Option Nat} {f : TypeId} (h : Own1 wb st k sts w x) (hg : w.grownBy w' row) (hr : RowOf w row f) (hne : 3 ≠ f) : Own1 wb st k sts w' x := let ⟨A, c, e, r⟩ := h; ⟨A, c, e, own_grown r hg hr hne⟩
end region
end Go.Proofs.YtjhcfpdgldpicaaGreatDoor
namespace Go.Proofs.YtjhcfpdgldpicaaGreatDoor
open Go Go.RowKit Go.Proofs
theorem k2_sl119 : SlIs Tryz.prog 119 5 1 1 (.int .u8 0) := ⟨by kernel_rfl, by kernel_rfl, by kernel_rfl⟩
theorem k2_ty5 : TyIs Tryz.prog 5 false 1 := ⟨by kernel_rfl, by kernel_rfl⟩
def okB (j : Nat) (c : UInt8) : Bool :=
 decide (97 ≤ (c.toNat : Int) ∧ (c.toNat : Int) ≤ 122 ∨ 65 ≤ (c.toNat : Int) ∧ (c.toNat : Int) ≤ 90 ∨ j ≠ 0 ∧ ((c.toNat : Int) = 45 ∨ 48 ≤ (c.toNat : Int) ∧ (c.toNat : Int) ≤ 57))
theorem okB_t {j : Nat} {c : UInt8} (h : 97 ≤ (c.toNat : Int) ∧ (c.toNat : Int) ≤ 122 ∨ 65 ≤ (c.toNat : Int) ∧ (c.toNat : Int) ≤ 90 ∨ j ≠ 0 ∧ ((c.toNat : Int) = 45 ∨ 48 ≤ (c.toNat : Int) ∧ (c.toNat : Int) ≤ 57)) : okB j c = true := decide_eq_true h
theorem okB_f {j : Nat} {c : UInt8} (h : ¬ (97 ≤ (c.toNat : Int) ∧ (c.toNat : Int) ≤ 122 ∨ 65 ≤ (c.toNat : Int) ∧ (c.toNat : Int) ≤ 90 ∨ j ≠ 0 ∧ ((c.toNat : Int) = 45 ∨ 48 ≤ (c.toNat : Int) ∧ (c.toNat : Int) ≤ 57))) : okB j c = false := decide_eq_false h
def namB (l : List UInt8) : Bool := (List.range l.length).all fun j => okB j (l.getD j default)
def isNameB (s : ByteArray) : Bool := namB s.data.toList && decide (1 ≤ s.size) && decide (s.size ≤ 12)
theorem namB_f {l : List UInt8} {i : Nat} (hi : i < l.length) (h : okB i (l.getD i default) = false) : namB l = false := by
 unfold namB
 rw [Bool.eq_false_iff]
 intro ha
 have := List.all_eq_true.1 ha i (List.mem_range.2 hi)
 rw [h] at this; cases this
theorem namB_t {l : List UInt8} (h : ∀ j : Nat, j < l.length → okB j (l.getD j default) = true) : namB l = true := List.all_eq_true.2 fun j hj => h j (List.mem_range.1 hj)
theorem sz_list (s : ByteArray) : s.data.toList.length = s.size := rfl
theorem bytes_list (s : ByteArray) : s.toList = s.data.toList := ByteArray.toList_eq s
theorem empty_size (s : ByteArray) : (s.toList == (ByteArray.mk #[]).toList) = decide (s.size = 0) := by
 rw [Bool.eq_iff_iff]
 simp only [beq_iff_eq, decide_eq_true_eq, bytes_list]
 constructor
 ·intro h; have := congrArg List.length h; exact this
 ·intro h; exact List.eq_nil_of_length_eq_zero h
def letB (c : Int) : Bool := decide (97 ≤ c ∧ c ≤ 122 ∨ 65 ≤ c ∧ c ≤ 90)
set_option maxRecDepth 100000 in
set_option maxHeartbeats 4000000 in
theorem isName_ok (s : ByteArray) (hs : s.size ≤ 1000000000) : FnOk Tryz.prog 101 [.v (.string s)] (fun q => q = .v (.bool (isNameB s))) := by
 refine fnOk_of (fn := Tryz.f101) 54 (by kernel_rfl) rfl (by kernel_rfl) (Nat.le_of_ble_eq_true rfl) ?_
 intro e_0 m_0 hA hm_0
 have s0_0 : evA e_0 (.tmp 0) = _ := hA 0 _ rfl
 have ml_0 : m_0.length = 0 := by rw [hm_0]; rfl
 clear hA hm_0
 have hsl := sz_list s
 refine aw_seq <| at_ <| ar (ro_assign ev_c) rfl <| ae1 (up_m rfl s0_0) ?_; clear s0_0; intro e_1 s0_1
 refine then_n <| aw_seq <| aw_seq <| at_ <| ar (ro_move s0_1) rfl <| ar (ro_s2b qun9 qus119 qu85 up_h) rfl <| ar (ro_eq (ro_len_row up_h rfl k2_sl119.1) (by simp only [lnS] <;> rfl)) rfl ?_
 refine ar (ro_move ev_c) rfl <| ae4 (u4 rfl s0_1) (u2 rfl up_h) (up_m rfl up_h) up_h ?_; clear s0_1; intro e_2 s0_2 s7_2 s8_2 s9_2
 refine then_n <| aw_block <| aw_loop (S := Int) (fun i e mem => (evA e (.tmp 9) = .v (.int .i64 i)) ∧ (evA e (.tmp 0) = evA e_2 (.tmp 0)) ∧ (evA e (.tmp 7) = evA e_2 (.tmp 7)) ∧ (evA e (.tmp 8) = evA e_2 (.tmp 8)) ∧ (mem.length = 0) ∧ ((0 ≤ i ∧ i ≤ s.data.toList.length ∧ ∀ j : Nat, j < i.toNat → okB j (s.data.toList.getD j default) = true))) (fun i => (s.data.toList.length - i).toNat) _ ⟨s9_2, rfl, rfl, rfl, ml_0, ?_⟩ ?_
 ·exact ⟨by omega, by omega, fun j hj => by omega⟩
 ·rintro i e_3 m_3 ⟨s9_3, k0_3, k7_3, k8_3, ml_3, hinv⟩
  have s0_3 := k0_3.trans s0_2
  have s7_3 := k7_3.trans s7_2
  have s8_3 := k8_3.trans s8_2
  refine aw_seq <| at_ <| ar (ro_lss s9_3 s8_3) rfl <| ae5 (up_m rfl s0_3) (up_m rfl s7_3) (up_m rfl s8_3) (up_m rfl s9_3) up_h ?_; clear s0_3 s7_3 s8_3 s9_3; intro e_4 s0_4 s7_4 s8_4 s9_4 s10_4
  refine then_n <| aw_seq <| aw_case s10_4 (fun hq_5 => ?_) (fun hq_5 => ?_)
  ·replace hq_5 := bt hq_5
   refine aw_skip <| then_n <| aw_seq <| aw_block <| aw_seq <| at_ <| ar (ro_move s9_4) rfl <| ar (ro_eq (ro_ix k2_sl119 (up_m rfl s7_4) (up_m rfl s9_4) (by omega) (by first | (refine idx_map ?_; first | omega | (simp only [lnS]; omega)) | (refine idx_mapI ?_; first | omega | (simp only [lnS]; omega)) | (refine idx_mapN ?_; first | omega | (simp only [lnS]; omega)) | rfl)) (by simp only [pS, Value.cells, Nat.reduceAdd] <;> rfl)) rfl ?_
   refine ar (ro_eq (ro_ld_ref k2_ty5 rfl up_h (nle rfl)) (by simp only [pS, Value.cells, Nat.reduceAdd] <;> rfl)) rfl ?_
   refine ar (ro_assign (u2 rfl up_h)) rfl <| ar (ro_assign (up_m rfl up_h)) rfl <| ae6 (up_m rfl (u4 rfl s0_4)) (up_m rfl up_h) up_h (up_m rfl (u4 rfl s7_4)) (up_m rfl (u4 rfl s8_4)) (up_m rfl (u4 rfl s9_4)) ?_; clear s0_4 s10_4 s7_4 s8_4 s9_4; intro e_6 s0_6 s3_6 s4_6 s7_6 s8_6 s9_6
   refine then_n <| aw_seq <| aw_cut (fun e mem => (evA e (.tmp 5) = .v (.bool (letB (s.data.toList.getD i.toNat default).toNat))) ∧ (evA e (.tmp 0) = evA e_6 (.tmp 0)) ∧ (evA e (.tmp 3) = evA e_6 (.tmp 3)) ∧ (evA e (.tmp 4) = evA e_6 (.tmp 4)) ∧ (evA e (.tmp 7) = evA e_6 (.tmp 7)) ∧ (evA e (.tmp 8) = evA e_6 (.tmp 8)) ∧ (evA e (.tmp 9) = evA e_6 (.tmp 9)) ∧ m_3 = mem) ?_ ?_
   ·
    refine at_ <| ar (ro_move s4_6) rfl <| ar (ro_geq up_h ev_c) rfl <| ar (ro_move up_h) rfl <| al_case up_h (fun hb_8 hq_8 => ?_) (fun hb_8 hq_8 => ?_)
    ·replace hq_8 := bt hq_8
     refine al_ro' (ro_move (up_m rfl (u2 rfl s4_6))) ⟨_, rfl, hb_8⟩ rfl ?_
     refine al_ro' (ro_leq up_h ev_c) ⟨_, rfl, (up_m rfl hb_8)⟩ rfl ?_
     refine ar (ro_pickT (u2 rfl hb_8) up_h) rfl <| ar (ro_move up_h) rfl <| al_case up_h (fun hb_9 hq_9 => ?_) (fun hb_9 hq_9 => ?_)
     ·replace hq_9 := bt hq_9
      refine al_skip' ⟨_, rfl, .inl hb_9⟩ rfl ?_
      refine al_skip' ⟨_, rfl, .inl (up_m rfl hb_9)⟩ rfl ?_
      refine al_skip' ⟨_, rfl, .inl (u2 rfl hb_9)⟩ rfl ?_
      refine al_skip' ⟨_, rfl, .inr up_h⟩ rfl ?_
      refine al_skip' ⟨_, rfl, .inr (up_m rfl up_h)⟩ rfl ?_
      refine al_skip' ⟨_, rfl, .inl (up_m rfl (u4 rfl hb_9))⟩ rfl ?_
      refine ar (ro_pickT (u2 rfl (u4 rfl hb_9)) ev_c) rfl <| ar (ro_assign up_h) rfl <| ae7 (up_m rfl (u2 rfl (u4 rfl (u8 rfl s0_6)))) (up_m rfl (u2 rfl (u4 rfl (u8 rfl s3_6)))) (up_m rfl (u2 rfl (u4 rfl (u8 rfl s4_6)))) up_h (up_m rfl (u2 rfl (u4 rfl (u8 rfl s7_6)))) (up_m rfl (u2 rfl (u4 rfl (u8 rfl s8_6)))) (up_m rfl (u2 rfl (u4 rfl (u8 rfl s9_6)))) ?_; intro e_10 s0_10 s3_10 s4_10 s5_10 s7_10 s8_10 s9_10
      refine then_n ⟨(s5_10).trans (by (refine avb ?_; simp only [letB, decide_eq_true_eq, Bool.false_eq_true, true_iff, false_iff]; omega)), (s0_10).trans (s0_6).symm, (s3_10).trans (s3_6).symm, (s4_10).trans (s4_6).symm, (s7_10).trans (s7_6).symm, (s8_10).trans (s8_6).symm, (s9_10).trans (s9_6).symm, rfl⟩
     replace hq_9 := bf hq_9
     refine al_ro' (ro_move (up_m rfl (u2 rfl (u4 rfl s4_6)))) ⟨_, rfl, hb_9⟩ rfl ?_
     refine al_ro' (ro_geq up_h ev_c) ⟨_, rfl, (up_m rfl hb_9)⟩ rfl ?_
     refine al_ro' (ro_move up_h) ⟨_, rfl, (u2 rfl hb_9)⟩ rfl ?_
     refine al_case up_h (fun hb_11 hq_11 => ?_) (fun hb_11 hq_11 => ?_)
     ·replace hq_11 := bt hq_11
      refine al_ro' (ro_move (u2 rfl (u8 rfl s4_6))) ⟨_, rfl, hb_11⟩ rfl ?_
      refine al_ro' (ro_leq up_h ev_c) ⟨_, rfl, (up_m rfl hb_11)⟩ rfl ?_
      refine al_ro' (ro_pickT (u2 rfl hb_11) up_h) ⟨_, rfl, (up_m rfl (u4 rfl hb_9))⟩ rfl ?_
      refine ar (ro_pickF (u2 rfl (u4 rfl hb_9)) up_h) rfl <| ar (ro_assign up_h) rfl <| ae7 (up_m rfl (u2 rfl (u4 rfl (u8 rfl s0_6)))) (up_m rfl (u2 rfl (u4 rfl (u8 rfl s3_6)))) (up_m rfl (u2 rfl (u4 rfl (u8 rfl s4_6)))) up_h (up_m rfl (u2 rfl (u4 rfl (u8 rfl s7_6)))) (up_m rfl (u2 rfl (u4 rfl (u8 rfl s8_6)))) (up_m rfl (u2 rfl (u4 rfl (u8 rfl s9_6)))) ?_; intro e_12 s0_12 s3_12 s4_12 s5_12 s7_12 s8_12 s9_12
      refine then_n ⟨(s5_12).trans (by (refine avb ?_; simp only [letB, decide_eq_true_eq, Bool.false_eq_true, true_iff, false_iff]; omega)), (s0_12).trans (s0_6).symm, (s3_12).trans (s3_6).symm, (s4_12).trans (s4_6).symm, (s7_12).trans (s7_6).symm, (s8_12).trans (s8_6).symm, (s9_12).trans (s9_6).symm, rfl⟩
     ·replace hq_11 := bf hq_11; exfalso; omega
    replace hq_8 := bf hq_8
    refine al_skip' ⟨_, rfl, .inl hb_8⟩ rfl ?_
    refine al_skip' ⟨_, rfl, .inl (up_m rfl hb_8)⟩ rfl ?_
    refine ar (ro_pickF (u2 rfl hb_8) ev_c) rfl <| ar (ro_move up_h) rfl <| al_ro' (ro_move (up_m rfl (u2 rfl (u4 rfl s4_6)))) ⟨_, rfl, up_h⟩ rfl ?_
    refine al_ro' (ro_geq up_h ev_c) ⟨_, rfl, (up_m rfl up_h)⟩ rfl ?_
    refine al_ro' (ro_move up_h) ⟨_, rfl, (u2 rfl up_h)⟩ rfl ?_
    refine al_case up_h (fun hb_14 hq_14 => ?_) (fun hb_14 hq_14 => ?_)
    ·replace hq_14 := bt hq_14
     refine al_ro' (ro_move (u2 rfl (u8 rfl s4_6))) ⟨_, rfl, hb_14⟩ rfl ?_
     refine al_ro' (ro_leq up_h ev_c) ⟨_, rfl, (up_m rfl hb_14)⟩ rfl ?_
     refine al_ro' (ro_pickT (u2 rfl hb_14) up_h) ⟨_, rfl, (up_m rfl (u4 rfl up_h))⟩ rfl ?_
     refine ar (ro_pickF (u2 rfl (u4 rfl up_h)) up_h) rfl <| ar (ro_assign up_h) rfl <| ae7 (up_m rfl (u2 rfl (u4 rfl (u8 rfl s0_6)))) (up_m rfl (u2 rfl (u4 rfl (u8 rfl s3_6)))) (up_m rfl (u2 rfl (u4 rfl (u8 rfl s4_6)))) up_h (up_m rfl (u2 rfl (u4 rfl (u8 rfl s7_6)))) (up_m rfl (u2 rfl (u4 rfl (u8 rfl s8_6)))) (up_m rfl (u2 rfl (u4 rfl (u8 rfl s9_6)))) ?_; intro e_15 s0_15 s3_15 s4_15 s5_15 s7_15 s8_15 s9_15
     refine then_n ⟨(s5_15).trans (by (refine avb ?_; simp only [letB, decide_eq_true_eq, Bool.false_eq_true, true_iff, false_iff]; omega)), (s0_15).trans (s0_6).symm, (s3_15).trans (s3_6).symm, (s4_15).trans (s4_6).symm, (s7_15).trans (s7_6).symm, (s8_15).trans (s8_6).symm, (s9_15).trans (s9_6).symm, rfl⟩
    replace hq_14 := bf hq_14
    refine al_skip' ⟨_, rfl, .inl hb_14⟩ rfl ?_
    refine al_skip' ⟨_, rfl, .inl (up_m rfl hb_14)⟩ rfl ?_
    refine al_ro' (ro_pickF (u2 rfl hb_14) ev_c) ⟨_, rfl, (up_m rfl (u4 rfl up_h))⟩ rfl ?_
    refine ar (ro_pickF (u2 rfl (u4 rfl up_h)) up_h) rfl <| ar (ro_assign up_h) rfl <| ae7 (up_m rfl (u2 rfl (u4 rfl (u8 rfl s0_6)))) (up_m rfl (u2 rfl (u4 rfl (u8 rfl s3_6)))) (up_m rfl (u2 rfl (u4 rfl (u8 rfl s4_6)))) up_h (up_m rfl (u2 rfl (u4 rfl (u8 rfl s7_6)))) (up_m rfl (u2 rfl (u4 rfl (u8 rfl s8_6)))) (up_m rfl (u2 rfl (u4 rfl (u8 rfl s9_6)))) ?_; intro e_16 s0_16 s3_16 s4_16 s5_16 s7_16 s8_16 s9_16
    refine then_n ⟨(s5_16).trans (by (refine avb ?_; simp only [letB, decide_eq_true_eq, Bool.false_eq_true, true_iff, false_iff]; omega)), (s0_16).trans (s0_6).symm, (s3_16).trans (s3_6).symm, (s4_16).trans (s4_6).symm, (s7_16).trans (s7_6).symm, (s8_16).trans (s8_6).symm, (s9_16).trans (s9_6).symm, rfl⟩
   ·rintro e_7 _ ⟨s5_7, k0_7, k3_7, k4_7, k7_7, k8_7, k9_7, rfl⟩
    have s0_7 := k0_7.trans s0_6
    have s3_7 := k3_7.trans s3_6
    have s4_7 := k4_7.trans s4_6
    have s7_7 := k7_7.trans s7_6
    have s8_7 := k8_7.trans s8_6
    have s9_7 := k9_7.trans s9_6
    refine aw_seq <| aw_cut (fun e mem => (evA e (.tmp 45) = .v (.bool (!okB i.toNat (s.data.toList.getD i.toNat default)))) ∧ (evA e (.tmp 0) = evA e_7 (.tmp 0)) ∧ (evA e (.tmp 7) = evA e_7 (.tmp 7)) ∧ (evA e (.tmp 8) = evA e_7 (.tmp 8)) ∧ (evA e (.tmp 9) = evA e_7 (.tmp 9)) ∧ m_3 = mem) ?_ ?_
    ·
     refine at_ <| ar (ro_move s5_7) rfl <| ar (ro_not up_h) rfl <| ar (ro_move up_h) rfl <| al_case up_h (fun hb_18 hq_18 => ?_) (fun hb_18 hq_18 => ?_)
     ·replace hq_18 := bnt hq_18
      refine al_ro' (ro_move (up_m rfl (u2 rfl s3_7))) ⟨_, rfl, hb_18⟩ rfl ?_
      refine al_ro' (ro_eql up_h ev_c) ⟨_, rfl, (up_m rfl hb_18)⟩ rfl ?_
      refine al_ro' (ro_move up_h) ⟨_, rfl, (u2 rfl hb_18)⟩ rfl ?_
      refine al_case up_h (fun hb_19 hq_19 => ?_) (fun hb_19 hq_19 => ?_)
      ·replace hq_19 := bt hq_19
       refine al_skip' ⟨_, rfl, .inl hb_19⟩ rfl ?_
       refine al_skip' ⟨_, rfl, .inl (up_m rfl hb_19)⟩ rfl ?_
       refine al_skip' ⟨_, rfl, .inl (u2 rfl hb_19)⟩ rfl ?_
       refine al_skip' ⟨_, rfl, .inr up_h⟩ rfl ?_
       refine al_skip' ⟨_, rfl, .inr (up_m rfl up_h)⟩ rfl ?_
       refine al_skip' ⟨_, rfl, .inr (u2 rfl up_h)⟩ rfl ?_
       refine al_skip' ⟨_, rfl, .inr up_h⟩ rfl ?_
       refine al_skip' ⟨_, rfl, .inr (up_m rfl up_h)⟩ rfl ?_
       refine al_skip' ⟨_, rfl, .inr (up_m rfl (u4 rfl up_h))⟩ rfl ?_
       refine al_skip' ⟨_, rfl, .inl (up_m rfl (u8 rfl hb_19))⟩ rfl ?_
       refine al_ro' (ro_pickT (u2 rfl (u8 rfl hb_19)) ev_c) ⟨_, rfl, (up_m rfl (u4 rfl (u8 rfl hb_18)))⟩ rfl ?_
       refine ar (ro_pickT (u2 rfl (u4 rfl (u8 rfl hb_18))) up_h) rfl <| ae5 (u2 rfl (u16 rfl s0_7)) (u2 rfl (u16 rfl s7_7)) (u2 rfl (u16 rfl s8_7)) (u2 rfl (u16 rfl s9_7)) up_h ?_; intro e_20 s0_20 s7_20 s8_20 s9_20 s45_20
       refine then_n ⟨(s45_20).trans (by (refine avb ?_; simp only [letB, okB, decide_eq_true_eq, decide_eq_false_iff_not, Bool.false_eq_true, true_iff, false_iff, Bool.not_eq_true'] at *; omega)), (s0_20).trans (s0_7).symm, (s7_20).trans (s7_7).symm, (s8_20).trans (s8_7).symm, (s9_20).trans (s9_7).symm, rfl⟩
      replace hq_19 := bf hq_19
      refine al_ro' (ro_move (u2 rfl (u4 rfl s4_7))) ⟨_, rfl, hb_19⟩ rfl ?_
      refine al_ro' (ro_neq up_h ev_c) ⟨_, rfl, (up_m rfl hb_19)⟩ rfl ?_
      refine al_ro' (ro_move up_h) ⟨_, rfl, (u2 rfl hb_19)⟩ rfl ?_
      refine al_case up_h (fun hb_21 hq_21 => ?_) (fun hb_21 hq_21 => ?_)
      ·replace hq_21 := bnt hq_21
       refine al_ro' (ro_move (up_m rfl (u8 rfl s4_7))) ⟨_, rfl, hb_21⟩ rfl ?_
       refine al_ro' (ro_lss up_h ev_c) ⟨_, rfl, (up_m rfl hb_21)⟩ rfl ?_
       refine al_ro' (ro_move up_h) ⟨_, rfl, (u2 rfl hb_21)⟩ rfl ?_
       refine al_case up_h (fun hb_22 hq_22 => ?_) (fun hb_22 hq_22 => ?_)
       ·replace hq_22 := bt hq_22
        refine al_skip' ⟨_, rfl, .inl hb_22⟩ rfl ?_
        refine al_skip' ⟨_, rfl, .inl (up_m rfl hb_22)⟩ rfl ?_
        refine al_ro' (ro_pickT (u2 rfl hb_22) ev_c) ⟨_, rfl, (up_m rfl (u4 rfl hb_21))⟩ rfl ?_
        refine al_ro' (ro_pickT (u2 rfl (u4 rfl hb_21)) up_h) ⟨_, rfl, (up_m rfl (u8 rfl hb_19))⟩ rfl ?_
        refine al_ro' (ro_pickF (u2 rfl (u8 rfl hb_19)) up_h) ⟨_, rfl, (up_m rfl (u4 rfl (u8 rfl hb_18)))⟩ rfl ?_
        refine ar (ro_pickT (u2 rfl (u4 rfl (u8 rfl hb_18))) up_h) rfl <| ae5 (u2 rfl (u16 rfl s0_7)) (u2 rfl (u16 rfl s7_7)) (u2 rfl (u16 rfl s8_7)) (u2 rfl (u16 rfl s9_7)) up_h ?_; intro e_23 s0_23 s7_23 s8_23 s9_23 s45_23
        refine then_n ⟨(s45_23).trans (by (refine avb ?_; simp only [letB, okB, decide_eq_true_eq, decide_eq_false_iff_not, Bool.false_eq_true, true_iff, false_iff, Bool.not_eq_true'] at *; omega)), (s0_23).trans (s0_7).symm, (s7_23).trans (s7_7).symm, (s8_23).trans (s8_7).symm, (s9_23).trans (s9_7).symm, rfl⟩
       replace hq_22 := bf hq_22
       refine al_ro' (ro_move (u4 rfl (u8 rfl s4_7))) ⟨_, rfl, hb_22⟩ rfl ?_
       refine al_ro' (ro_gtr up_h ev_c) ⟨_, rfl, (up_m rfl hb_22)⟩ rfl ?_
       refine al_ro' (ro_pickF (u2 rfl hb_22) up_h) ⟨_, rfl, (up_m rfl (u4 rfl hb_21))⟩ rfl ?_
       refine al_ro' (ro_pickT (u2 rfl (u4 rfl hb_21)) up_h) ⟨_, rfl, (up_m rfl (u8 rfl hb_19))⟩ rfl ?_
       refine al_ro' (ro_pickF (u2 rfl (u8 rfl hb_19)) up_h) ⟨_, rfl, (up_m rfl (u4 rfl (u8 rfl hb_18)))⟩ rfl ?_
       refine ar (ro_pickT (u2 rfl (u4 rfl (u8 rfl hb_18))) up_h) rfl <| ae5 (u2 rfl (u16 rfl s0_7)) (u2 rfl (u16 rfl s7_7)) (u2 rfl (u16 rfl s8_7)) (u2 rfl (u16 rfl s9_7)) up_h ?_; intro e_24 s0_24 s7_24 s8_24 s9_24 s45_24
       refine then_n ⟨(s45_24).trans (by (refine avb ?_; simp only [letB, okB, decide_eq_true_eq, decide_eq_false_iff_not, Bool.false_eq_true, true_iff, false_iff, Bool.not_eq_true'] at *; omega)), (s0_24).trans (s0_7).symm, (s7_24).trans (s7_7).symm, (s8_24).trans (s8_7).symm, (s9_24).trans (s9_7).symm, rfl⟩
      replace hq_21 := bnf hq_21
      refine al_skip' ⟨_, rfl, .inl hb_21⟩ rfl ?_
      refine al_skip' ⟨_, rfl, .inl (up_m rfl hb_21)⟩ rfl ?_
      refine al_skip' ⟨_, rfl, .inl (u2 rfl hb_21)⟩ rfl ?_
      refine al_skip' ⟨_, rfl, .inr up_h⟩ rfl ?_
      refine al_skip' ⟨_, rfl, .inr (up_m rfl up_h)⟩ rfl ?_
      refine al_skip' ⟨_, rfl, .inl (up_m rfl (u4 rfl hb_21))⟩ rfl ?_
      refine al_ro' (ro_pickF (u2 rfl (u4 rfl hb_21)) ev_c) ⟨_, rfl, (up_m rfl (u8 rfl hb_19))⟩ rfl ?_
      refine al_ro' (ro_pickF (u2 rfl (u8 rfl hb_19)) up_h) ⟨_, rfl, (up_m rfl (u4 rfl (u8 rfl hb_18)))⟩ rfl ?_
      refine ar (ro_pickT (u2 rfl (u4 rfl (u8 rfl hb_18))) up_h) rfl <| ae5 (u2 rfl (u16 rfl s0_7)) (u2 rfl (u16 rfl s7_7)) (u2 rfl (u16 rfl s8_7)) (u2 rfl (u16 rfl s9_7)) up_h ?_; intro e_25 s0_25 s7_25 s8_25 s9_25 s45_25
      refine then_n ⟨(s45_25).trans (by (refine avb ?_; simp only [letB, okB, decide_eq_true_eq, decide_eq_false_iff_not, Bool.false_eq_true, true_iff, false_iff, Bool.not_eq_true'] at *; omega)), (s0_25).trans (s0_7).symm, (s7_25).trans (s7_7).symm, (s8_25).trans (s8_7).symm, (s9_25).trans (s9_7).symm, rfl⟩
     replace hq_18 := bnf hq_18
     refine al_skip' ⟨_, rfl, .inl hb_18⟩ rfl ?_
     refine al_skip' ⟨_, rfl, .inl (up_m rfl hb_18)⟩ rfl ?_
     refine al_skip' ⟨_, rfl, .inl (u2 rfl hb_18)⟩ rfl ?_
     refine al_skip' ⟨_, rfl, .inr up_h⟩ rfl ?_
     refine al_skip' ⟨_, rfl, .inr (up_m rfl up_h)⟩ rfl ?_
     refine al_skip' ⟨_, rfl, .inr (u2 rfl up_h)⟩ rfl ?_
     refine al_skip' ⟨_, rfl, .inr up_h⟩ rfl ?_
     refine al_skip' ⟨_, rfl, .inr (up_m rfl up_h)⟩ rfl ?_
     refine al_skip' ⟨_, rfl, .inr (u2 rfl up_h)⟩ rfl ?_
     refine al_skip' ⟨_, rfl, .inr up_h⟩ rfl ?_
     refine al_skip' ⟨_, rfl, .inr (up_m rfl up_h)⟩ rfl ?_
     refine al_skip' ⟨_, rfl, .inr (up_m rfl (u4 rfl up_h))⟩ rfl ?_
     refine al_skip' ⟨_, rfl, .inr (up_m rfl (u8 rfl up_h))⟩ rfl ?_
     refine al_skip' ⟨_, rfl, .inl (up_m rfl (u4 rfl (u8 rfl hb_18)))⟩ rfl ?_
     refine ar (ro_pickF (u2 rfl (u4 rfl (u8 rfl hb_18))) ev_c) rfl <| ae5 (u2 rfl (u16 rfl s0_7)) (u2 rfl (u16 rfl s7_7)) (u2 rfl (u16 rfl s8_7)) (u2 rfl (u16 rfl s9_7)) up_h ?_; intro e_26 s0_26 s7_26 s8_26 s9_26 s45_26
     refine then_n ⟨(s45_26).trans (by (refine avb ?_; simp only [letB, okB, decide_eq_true_eq, decide_eq_false_iff_not, Bool.false_eq_true, true_iff, false_iff, Bool.not_eq_true'] at *; omega)), (s0_26).trans (s0_7).symm, (s7_26).trans (s7_7).symm, (s8_26).trans (s8_7).symm, (s9_26).trans (s9_7).symm, rfl⟩
    ·rintro e_17 _ ⟨s45_17, k0_17, k7_17, k8_17, k9_17, rfl⟩
     have s0_17 := k0_17.trans s0_7
     have s7_17 := k7_17.trans s7_7
     have s8_17 := k8_17.trans s8_7
     have s9_17 := k9_17.trans s9_7
     refine aw_case s45_17 (fun hq_27 => ?_) (fun hq_27 => ?_)
     ·replace hq_27 := bnt hq_27
      refine aw_seq <| at_ <| ar (ro_assign ev_c) rfl <| ae1 up_h ?_; clear s0_17 s45_17 s7_17 s8_17 s9_17; intro e_28 s2_28
      refine then_n <| aw_ret <| block_r <| then_r <| then_r <| block_r <| then_r <| ret1 (.inr rfl) (by kernel_rfl) (resV_tmp s2_28) (.ro _ rfl) ?_
      clear s2_28 ml_3
      (obtain ⟨h1, h2, h3⟩ := hinv; have hn : namB s.data.toList = false := namB_f (i := i.toNat) (by omega) (by first | assumption | exact okB_f (by assumption)); simp [isNameB, hn])
     replace hq_27 := bnf hq_27
     refine aw_skip <| block_n <| then_n <| at_ ?_
     (refine ar (ro_add' s9_17 ev_c ?_) rfl ?_; · (unfold In64; omega))
     refine ar (ro_move up_h) rfl <| ae4 (u2 rfl s0_17) (u2 rfl s7_17) (u2 rfl s8_17) up_h ?_; clear s0_17 s45_17 s7_17 s8_17 s9_17; intro e_29 s0_29 s7_29 s8_29 s9_29
     refine then_n <| ⟨_, ⟨s9_29, (s0_29.trans s0_2.symm), (s7_29.trans s7_2.symm), (s8_29.trans s8_2.symm), ml_3, ?_⟩, ?_⟩
     ·(obtain ⟨h1, h2, h3⟩ := hinv; refine ⟨by omega, by omega, fun j hj => ?_⟩; by_cases hj' : j < i.toNat; exact h3 j hj'; have hji : j = i.toNat := (by omega); rw [hji]; first | assumption | exact okB_t (by omega))
     ·((try dsimp only); omega)
  replace hq_5 := bf hq_5
  refine aw_exit <| then_x <| then_x <| block_hit <| then_n <| aw_seq <| at_ <| ar (ro_move s0_4) rfl <| ar (ro_sneq up_h ev_c) rfl <| ar (ro_move up_h) rfl <| al_case up_h (fun hb_30 hq_30 => ?_) (fun hb_30 hq_30 => ?_)
  ·replace hq_30 := bt' hq_30
   refine al_ro' (ro_move (up_m rfl (u2 rfl s0_4))) ⟨_, rfl, hb_30⟩ rfl ?_
   refine al_ro' (ro_len_str up_h rfl qun9) ⟨_, rfl, (up_m rfl hb_30)⟩ rfl ?_
   refine al_ro' (ro_leq up_h ev_c) ⟨_, rfl, (u2 rfl hb_30)⟩ rfl ?_
   refine ar (ro_pickT (up_m rfl (u2 rfl hb_30)) up_h) rfl <| ar (ro_assign up_h) rfl <| ae1 up_h ?_; clear hb_30 s0_4 s10_4 s7_4 s8_4 s9_4; intro e_31 s2_31
   refine then_n <| aw_ret <| ret1 (.inr rfl) (by kernel_rfl) (resV_tmp s2_31) (.ro _ rfl) ?_
   clear s2_31 ml_3
   (obtain ⟨h1, h2, h3⟩ := hinv; have hn : namB s.data.toList = true := (namB_t fun j hj => h3 j (by omega)); refine avb ?_; simp only [empty_size, isNameB, hn, Bool.true_and, Bool.and_eq_true, decide_eq_true_eq, Bool.not_eq_true', decide_eq_false_iff_not, Bool.false_eq_true, false_iff, true_iff, Bool.not_eq_false'] at *; omega)
  replace hq_30 := bf' hq_30
  refine al_skip' ⟨_, rfl, .inl hb_30⟩ rfl ?_
  refine al_skip' ⟨_, rfl, .inl (up_m rfl hb_30)⟩ rfl ?_
  refine al_skip' ⟨_, rfl, .inl (u2 rfl hb_30)⟩ rfl ?_
  refine ar (ro_pickF (up_m rfl (u2 rfl hb_30)) ev_c) rfl <| ar (ro_assign up_h) rfl <| ae1 up_h ?_; clear hb_30 s0_4 s10_4 s7_4 s8_4 s9_4; intro e_32 s2_32
  refine then_n <| aw_ret <| ret1 (.inr rfl) (by kernel_rfl) (resV_tmp s2_32) (.ro _ rfl) ?_
  clear s2_32 ml_3
  (obtain ⟨h1, h2, h3⟩ := hinv; have hn : namB s.data.toList = true := (namB_t fun j hj => h3 j (by omega)); refine avb ?_; simp only [empty_size, isNameB, hn, Bool.true_and, Bool.and_eq_true, decide_eq_true_eq, Bool.not_eq_true', decide_eq_false_iff_not, Bool.false_eq_true, false_iff, true_iff, Bool.not_eq_false'] at *; omega)
set_option maxRecDepth 100000 in
set_option maxHeartbeats 4000000 in
theorem bIsName_ok (s : ByteArray) (hs : s.size ≤ 1000000000) : FnOk Tryz.prog 111 [.v (.string s)] (fun q => q = .v (.bool (isNameB s))) := by
 refine fnOk_of (fn := Tryz.f111) 55 (by kernel_rfl) rfl (by kernel_rfl) (Nat.le_of_ble_eq_true rfl) ?_
 intro e_0 m_0 hA hm_0
 have s0_0 : evA e_0 (.tmp 0) = _ := hA 0 _ rfl
 have ml_0 : m_0.length = 0 := by rw [hm_0]; rfl
 clear hA hm_0
 have hsl := sz_list s
 refine aw_seq <| at_ <| ar (ro_assign ev_c) rfl <| ae1 (up_m rfl s0_0) ?_; clear s0_0; intro e_1 s0_1
 refine then_n <| aw_seq <| aw_seq <| aw_cut (fun e mem => (evA e (.tmp 13) = .v (.bool (decide (s.size < 1 ∨ 12 < s.size)))) ∧ (evA e (.tmp 0) = evA e_1 (.tmp 0)) ∧ m_0 = mem) ?_ ?_
 ·
  refine at_ <| ar (ro_move s0_1) rfl <| ar (ro_len_str up_h rfl qun9) rfl <| ar (ro_lss up_h ev_c) rfl <| ar (ro_move up_h) rfl <| al_case up_h (fun hb_3 hq_3 => ?_) (fun hb_3 hq_3 => ?_)
  ·replace hq_3 := bt hq_3
   refine al_skip' ⟨_, rfl, .inl hb_3⟩ rfl ?_
   refine al_skip' ⟨_, rfl, .inl (up_m rfl hb_3)⟩ rfl ?_
   refine al_skip' ⟨_, rfl, .inl (u2 rfl hb_3)⟩ rfl ?_
   refine ar (ro_pickT (up_m rfl (u2 rfl hb_3)) ev_c) rfl <| ae2 (u8 rfl s0_1) up_h ?_; intro e_4 s0_4 s13_4
   refine then_n ⟨(s13_4).trans (by (refine avb ?_; simp only [decide_eq_true_eq, Bool.false_eq_true, true_iff, false_iff]; omega)), (s0_4).trans (s0_1).symm, rfl⟩
  replace hq_3 := bf hq_3
  refine al_ro' (ro_move (u4 rfl s0_1)) ⟨_, rfl, hb_3⟩ rfl ?_
  refine al_ro' (ro_len_str up_h rfl qun9) ⟨_, rfl, (up_m rfl hb_3)⟩ rfl ?_
  refine al_ro' (ro_gtr up_h ev_c) ⟨_, rfl, (u2 rfl hb_3)⟩ rfl ?_
  refine ar (ro_pickF (up_m rfl (u2 rfl hb_3)) up_h) rfl <| ae2 (u8 rfl s0_1) up_h ?_; intro e_5 s0_5 s13_5
  refine then_n ⟨(s13_5).trans (by (refine avb ?_; simp only [decide_eq_true_eq, Bool.false_eq_true, true_iff, false_iff]; omega)), (s0_5).trans (s0_1).symm, rfl⟩
 ·rintro e_2 _ ⟨s13_2, k0_2, rfl⟩
  have s0_2 := k0_2.trans s0_1
  refine aw_case s13_2 (fun hq_6 => ?_) (fun hq_6 => ?_)
  ·replace hq_6 := bt hq_6
   refine aw_seq <| at_ <| ar (ro_assign ev_c) rfl <| ae1 up_h ?_; clear s0_2 s13_2; intro e_7 s2_7
   refine then_n <| aw_ret <| then_r <| ret1 (.inr rfl) (by kernel_rfl) (resV_tmp s2_7) (.ro _ rfl) ?_
   clear s2_7 ml_0
   (simp only [isNameB]; refine avb ?_; simp only [Bool.and_eq_true, decide_eq_true_eq, Bool.false_eq_true, false_iff]; omega)
  replace hq_6 := bf hq_6
  refine aw_skip <| then_n <| aw_seq <| aw_seq <| at_ <| ar (ro_assign ev_c) rfl <| ae2 (up_m rfl s0_2) up_h ?_; clear s0_2 s13_2; intro e_8 s0_8 s3_8
  refine then_n <| aw_block <| aw_loop (S := Int) (fun i e mem => (evA e (.tmp 3) = .v (.int .i64 i)) ∧ (evA e (.tmp 0) = evA e_8 (.tmp 0)) ∧ (mem.length = 0) ∧ ((0 ≤ i ∧ i ≤ s.data.toList.length ∧ ∀ j : Nat, j < i.toNat → okB j (s.data.toList.getD j default) = true))) (fun i => (s.data.toList.length - i).toNat) _ ⟨s3_8, rfl, ml_0, ?_⟩ ?_
  ·exact ⟨by omega, by omega, fun j hj => by omega⟩
  ·rintro i e_9 m_9 ⟨s3_9, k0_9, ml_9, hinv⟩
   have s0_9 := k0_9.trans s0_8
   refine aw_seq <| aw_seq <| at_ <| ar (ro_move s3_9) rfl <| ar (ro_move (up_m rfl s0_9)) rfl <| ar (ro_len_str up_h rfl qun9) rfl <| ar (ro_lss (u2 rfl up_h) up_h) rfl <| ae3 (u4 rfl s0_9) (u4 rfl s3_9) up_h ?_; clear s0_9 s3_9; intro e_10 s0_10 s3_10 s17_10
   refine then_n <| aw_case s17_10 (fun hq_11 => ?_) (fun hq_11 => ?_)
   ·replace hq_11 := bt hq_11
    refine aw_skip <| then_n <| aw_seq <| aw_block <| aw_seq <| at_ <| ar (ro_move s0_10) rfl <| ar (ro_move (up_m rfl s3_10)) rfl <| ar (ro_sindex (up_m rfl up_h) up_h qun9 (by omega) (by refine idx_str ?_; first | omega | (simp <;> omega; done) | (refine Nat.lt_of_lt_of_le (m := 256) ?_ (by decide +kernel); omega))) rfl ?_
    refine ar (ro_assign up_h) rfl <| ae3 (u4 rfl s0_10) (u4 rfl s3_10) up_h ?_; clear s0_10 s17_10 s3_10; intro e_12 s0_12 s3_12 s4_12
    refine then_n <| aw_seq <| aw_cut (fun e mem => (evA e (.tmp 5) = .v (.bool (letB (s.data.toList.getD i.toNat default).toNat))) ∧ (evA e (.tmp 0) = evA e_12 (.tmp 0)) ∧ (evA e (.tmp 3) = evA e_12 (.tmp 3)) ∧ (evA e (.tmp 4) = evA e_12 (.tmp 4)) ∧ m_9 = mem) ?_ ?_
    ·
     refine at_ <| ar (ro_move s4_12) rfl <| ar (ro_geq up_h ev_c) rfl <| ar (ro_move up_h) rfl <| al_case up_h (fun hb_14 hq_14 => ?_) (fun hb_14 hq_14 => ?_)
     ·replace hq_14 := bt hq_14
      refine al_ro' (ro_move (up_m rfl (u2 rfl s4_12))) ⟨_, rfl, hb_14⟩ rfl ?_
      refine al_ro' (ro_leq up_h ev_c) ⟨_, rfl, (up_m rfl hb_14)⟩ rfl ?_
      refine ar (ro_pickT (u2 rfl hb_14) up_h) rfl <| ar (ro_move up_h) rfl <| al_case up_h (fun hb_15 hq_15 => ?_) (fun hb_15 hq_15 => ?_)
      ·replace hq_15 := bt hq_15
       refine al_skip' ⟨_, rfl, .inl hb_15⟩ rfl ?_
       refine al_skip' ⟨_, rfl, .inl (up_m rfl hb_15)⟩ rfl ?_
       refine al_skip' ⟨_, rfl, .inl (u2 rfl hb_15)⟩ rfl ?_
       refine al_skip' ⟨_, rfl, .inr up_h⟩ rfl ?_
       refine al_skip' ⟨_, rfl, .inr (up_m rfl up_h)⟩ rfl ?_
       refine al_skip' ⟨_, rfl, .inl (up_m rfl (u4 rfl hb_15))⟩ rfl ?_
       refine ar (ro_pickT (u2 rfl (u4 rfl hb_15)) ev_c) rfl <| ar (ro_assign up_h) rfl <| ae4 (up_m rfl (u2 rfl (u4 rfl (u8 rfl s0_12)))) (up_m rfl (u2 rfl (u4 rfl (u8 rfl s3_12)))) (up_m rfl (u2 rfl (u4 rfl (u8 rfl s4_12)))) up_h ?_; intro e_16 s0_16 s3_16 s4_16 s5_16
       refine then_n ⟨(s5_16).trans (by (refine avb ?_; simp only [letB, decide_eq_true_eq, Bool.false_eq_true, true_iff, false_iff]; omega)), (s0_16).trans (s0_12).symm, (s3_16).trans (s3_12).symm, (s4_16).trans (s4_12).symm, rfl⟩
      replace hq_15 := bf hq_15
      refine al_ro' (ro_move (up_m rfl (u2 rfl (u4 rfl s4_12)))) ⟨_, rfl, hb_15⟩ rfl ?_
      refine al_ro' (ro_geq up_h ev_c) ⟨_, rfl, (up_m rfl hb_15)⟩ rfl ?_
      refine al_ro' (ro_move up_h) ⟨_, rfl, (u2 rfl hb_15)⟩ rfl ?_
      refine al_case up_h (fun hb_17 hq_17 => ?_) (fun hb_17 hq_17 => ?_)
      ·replace hq_17 := bt hq_17
       refine al_ro' (ro_move (u2 rfl (u8 rfl s4_12))) ⟨_, rfl, hb_17⟩ rfl ?_
       refine al_ro' (ro_leq up_h ev_c) ⟨_, rfl, (up_m rfl hb_17)⟩ rfl ?_
       refine al_ro' (ro_pickT (u2 rfl hb_17) up_h) ⟨_, rfl, (up_m rfl (u4 rfl hb_15))⟩ rfl ?_
       refine ar (ro_pickF (u2 rfl (u4 rfl hb_15)) up_h) rfl <| ar (ro_assign up_h) rfl <| ae4 (up_m rfl (u2 rfl (u4 rfl (u8 rfl s0_12)))) (up_m rfl (u2 rfl (u4 rfl (u8 rfl s3_12)))) (up_m rfl (u2 rfl (u4 rfl (u8 rfl s4_12)))) up_h ?_; intro e_18 s0_18 s3_18 s4_18 s5_18
       refine then_n ⟨(s5_18).trans (by (refine avb ?_; simp only [letB, decide_eq_true_eq, Bool.false_eq_true, true_iff, false_iff]; omega)), (s0_18).trans (s0_12).symm, (s3_18).trans (s3_12).symm, (s4_18).trans (s4_12).symm, rfl⟩
      ·replace hq_17 := bf hq_17; exfalso; omega
     replace hq_14 := bf hq_14
     refine al_skip' ⟨_, rfl, .inl hb_14⟩ rfl ?_
     refine al_skip' ⟨_, rfl, .inl (up_m rfl hb_14)⟩ rfl ?_
     refine ar (ro_pickF (u2 rfl hb_14) ev_c) rfl <| ar (ro_move up_h) rfl <| al_ro' (ro_move (up_m rfl (u2 rfl (u4 rfl s4_12)))) ⟨_, rfl, up_h⟩ rfl ?_
     refine al_ro' (ro_geq up_h ev_c) ⟨_, rfl, (up_m rfl up_h)⟩ rfl ?_
     refine al_ro' (ro_move up_h) ⟨_, rfl, (u2 rfl up_h)⟩ rfl ?_
     refine al_case up_h (fun hb_20 hq_20 => ?_) (fun hb_20 hq_20 => ?_)
     ·replace hq_20 := bt hq_20
      refine al_ro' (ro_move (u2 rfl (u8 rfl s4_12))) ⟨_, rfl, hb_20⟩ rfl ?_
      refine al_ro' (ro_leq up_h ev_c) ⟨_, rfl, (up_m rfl hb_20)⟩ rfl ?_
      refine al_ro' (ro_pickT (u2 rfl hb_20) up_h) ⟨_, rfl, (up_m rfl (u4 rfl up_h))⟩ rfl ?_
      refine ar (ro_pickF (u2 rfl (u4 rfl up_h)) up_h) rfl <| ar (ro_assign up_h) rfl <| ae4 (up_m rfl (u2 rfl (u4 rfl (u8 rfl s0_12)))) (up_m rfl (u2 rfl (u4 rfl (u8 rfl s3_12)))) (up_m rfl (u2 rfl (u4 rfl (u8 rfl s4_12)))) up_h ?_; intro e_21 s0_21 s3_21 s4_21 s5_21
      refine then_n ⟨(s5_21).trans (by (refine avb ?_; simp only [letB, decide_eq_true_eq, Bool.false_eq_true, true_iff, false_iff]; omega)), (s0_21).trans (s0_12).symm, (s3_21).trans (s3_12).symm, (s4_21).trans (s4_12).symm, rfl⟩
     replace hq_20 := bf hq_20
     refine al_skip' ⟨_, rfl, .inl hb_20⟩ rfl ?_
     refine al_skip' ⟨_, rfl, .inl (up_m rfl hb_20)⟩ rfl ?_
     refine al_ro' (ro_pickF (u2 rfl hb_20) ev_c) ⟨_, rfl, (up_m rfl (u4 rfl up_h))⟩ rfl ?_
     refine ar (ro_pickF (u2 rfl (u4 rfl up_h)) up_h) rfl <| ar (ro_assign up_h) rfl <| ae4 (up_m rfl (u2 rfl (u4 rfl (u8 rfl s0_12)))) (up_m rfl (u2 rfl (u4 rfl (u8 rfl s3_12)))) (up_m rfl (u2 rfl (u4 rfl (u8 rfl s4_12)))) up_h ?_; intro e_22 s0_22 s3_22 s4_22 s5_22
     refine then_n ⟨(s5_22).trans (by (refine avb ?_; simp only [letB, decide_eq_true_eq, Bool.false_eq_true, true_iff, false_iff]; omega)), (s0_22).trans (s0_12).symm, (s3_22).trans (s3_12).symm, (s4_22).trans (s4_12).symm, rfl⟩
    ·rintro e_13 _ ⟨s5_13, k0_13, k3_13, k4_13, rfl⟩
     have s0_13 := k0_13.trans s0_12
     have s3_13 := k3_13.trans s3_12
     have s4_13 := k4_13.trans s4_12
     refine aw_seq <| aw_cut (fun e mem => (evA e (.tmp 54) = .v (.bool (!okB i.toNat (s.data.toList.getD i.toNat default)))) ∧ (evA e (.tmp 0) = evA e_13 (.tmp 0)) ∧ (evA e (.tmp 3) = evA e_13 (.tmp 3)) ∧ m_9 = mem) ?_ ?_
     ·
      refine at_ <| ar (ro_move s5_13) rfl <| ar (ro_not up_h) rfl <| ar (ro_move up_h) rfl <| al_case up_h (fun hb_24 hq_24 => ?_) (fun hb_24 hq_24 => ?_)
      ·replace hq_24 := bnt hq_24
       refine al_ro' (ro_move (up_m rfl (u2 rfl s3_13))) ⟨_, rfl, hb_24⟩ rfl ?_
       refine al_ro' (ro_eql up_h ev_c) ⟨_, rfl, (up_m rfl hb_24)⟩ rfl ?_
       refine al_ro' (ro_move up_h) ⟨_, rfl, (u2 rfl hb_24)⟩ rfl ?_
       refine al_case up_h (fun hb_25 hq_25 => ?_) (fun hb_25 hq_25 => ?_)
       ·replace hq_25 := bt hq_25
        refine al_skip' ⟨_, rfl, .inl hb_25⟩ rfl ?_
        refine al_skip' ⟨_, rfl, .inl (up_m rfl hb_25)⟩ rfl ?_
        refine al_skip' ⟨_, rfl, .inl (u2 rfl hb_25)⟩ rfl ?_
        refine al_skip' ⟨_, rfl, .inr up_h⟩ rfl ?_
        refine al_skip' ⟨_, rfl, .inr (up_m rfl up_h)⟩ rfl ?_
        refine al_skip' ⟨_, rfl, .inr (u2 rfl up_h)⟩ rfl ?_
        refine al_skip' ⟨_, rfl, .inr up_h⟩ rfl ?_
        refine al_skip' ⟨_, rfl, .inr (up_m rfl up_h)⟩ rfl ?_
        refine al_skip' ⟨_, rfl, .inr (up_m rfl (u4 rfl up_h))⟩ rfl ?_
        refine al_skip' ⟨_, rfl, .inl (up_m rfl (u8 rfl hb_25))⟩ rfl ?_
        refine al_ro' (ro_pickT (u2 rfl (u8 rfl hb_25)) ev_c) ⟨_, rfl, (up_m rfl (u4 rfl (u8 rfl hb_24)))⟩ rfl ?_
        refine ar (ro_pickT (u2 rfl (u4 rfl (u8 rfl hb_24))) up_h) rfl <| ae3 (u2 rfl (u16 rfl s0_13)) (u2 rfl (u16 rfl s3_13)) up_h ?_; intro e_26 s0_26 s3_26 s54_26
        refine then_n ⟨(s54_26).trans (by (refine avb ?_; simp only [letB, okB, decide_eq_true_eq, decide_eq_false_iff_not, Bool.false_eq_true, true_iff, false_iff, Bool.not_eq_true'] at *; omega)), (s0_26).trans (s0_13).symm, (s3_26).trans (s3_13).symm, rfl⟩
       replace hq_25 := bf hq_25
       refine al_ro' (ro_move (u2 rfl (u4 rfl s4_13))) ⟨_, rfl, hb_25⟩ rfl ?_
       refine al_ro' (ro_neq up_h ev_c) ⟨_, rfl, (up_m rfl hb_25)⟩ rfl ?_
       refine al_ro' (ro_move up_h) ⟨_, rfl, (u2 rfl hb_25)⟩ rfl ?_
       refine al_case up_h (fun hb_27 hq_27 => ?_) (fun hb_27 hq_27 => ?_)
       ·replace hq_27 := bnt hq_27
        refine al_ro' (ro_move (up_m rfl (u8 rfl s4_13))) ⟨_, rfl, hb_27⟩ rfl ?_
        refine al_ro' (ro_lss up_h ev_c) ⟨_, rfl, (up_m rfl hb_27)⟩ rfl ?_
        refine al_ro' (ro_move up_h) ⟨_, rfl, (u2 rfl hb_27)⟩ rfl ?_
        refine al_case up_h (fun hb_28 hq_28 => ?_) (fun hb_28 hq_28 => ?_)
        ·replace hq_28 := bt hq_28
         refine al_skip' ⟨_, rfl, .inl hb_28⟩ rfl ?_
         refine al_skip' ⟨_, rfl, .inl (up_m rfl hb_28)⟩ rfl ?_
         refine al_ro' (ro_pickT (u2 rfl hb_28) ev_c) ⟨_, rfl, (up_m rfl (u4 rfl hb_27))⟩ rfl ?_
         refine al_ro' (ro_pickT (u2 rfl (u4 rfl hb_27)) up_h) ⟨_, rfl, (up_m rfl (u8 rfl hb_25))⟩ rfl ?_
         refine al_ro' (ro_pickF (u2 rfl (u8 rfl hb_25)) up_h) ⟨_, rfl, (up_m rfl (u4 rfl (u8 rfl hb_24)))⟩ rfl ?_
         refine ar (ro_pickT (u2 rfl (u4 rfl (u8 rfl hb_24))) up_h) rfl <| ae3 (u2 rfl (u16 rfl s0_13)) (u2 rfl (u16 rfl s3_13)) up_h ?_; intro e_29 s0_29 s3_29 s54_29
         refine then_n ⟨(s54_29).trans (by (refine avb ?_; simp only [letB, okB, decide_eq_true_eq, decide_eq_false_iff_not, Bool.false_eq_true, true_iff, false_iff, Bool.not_eq_true'] at *; omega)), (s0_29).trans (s0_13).symm, (s3_29).trans (s3_13).symm, rfl⟩
        replace hq_28 := bf hq_28
        refine al_ro' (ro_move (u4 rfl (u8 rfl s4_13))) ⟨_, rfl, hb_28⟩ rfl ?_
        refine al_ro' (ro_gtr up_h ev_c) ⟨_, rfl, (up_m rfl hb_28)⟩ rfl ?_
        refine al_ro' (ro_pickF (u2 rfl hb_28) up_h) ⟨_, rfl, (up_m rfl (u4 rfl hb_27))⟩ rfl ?_
        refine al_ro' (ro_pickT (u2 rfl (u4 rfl hb_27)) up_h) ⟨_, rfl, (up_m rfl (u8 rfl hb_25))⟩ rfl ?_
        refine al_ro' (ro_pickF (u2 rfl (u8 rfl hb_25)) up_h) ⟨_, rfl, (up_m rfl (u4 rfl (u8 rfl hb_24)))⟩ rfl ?_
        refine ar (ro_pickT (u2 rfl (u4 rfl (u8 rfl hb_24))) up_h) rfl <| ae3 (u2 rfl (u16 rfl s0_13)) (u2 rfl (u16 rfl s3_13)) up_h ?_; intro e_30 s0_30 s3_30 s54_30
        refine then_n ⟨(s54_30).trans (by (refine avb ?_; simp only [letB, okB, decide_eq_true_eq, decide_eq_false_iff_not, Bool.false_eq_true, true_iff, false_iff, Bool.not_eq_true'] at *; omega)), (s0_30).trans (s0_13).symm, (s3_30).trans (s3_13).symm, rfl⟩
       replace hq_27 := bnf hq_27
       refine al_skip' ⟨_, rfl, .inl hb_27⟩ rfl ?_
       refine al_skip' ⟨_, rfl, .inl (up_m rfl hb_27)⟩ rfl ?_
       refine al_skip' ⟨_, rfl, .inl (u2 rfl hb_27)⟩ rfl ?_
       refine al_skip' ⟨_, rfl, .inr up_h⟩ rfl ?_
       refine al_skip' ⟨_, rfl, .inr (up_m rfl up_h)⟩ rfl ?_
       refine al_skip' ⟨_, rfl, .inl (up_m rfl (u4 rfl hb_27))⟩ rfl ?_
       refine al_ro' (ro_pickF (u2 rfl (u4 rfl hb_27)) ev_c) ⟨_, rfl, (up_m rfl (u8 rfl hb_25))⟩ rfl ?_
       refine al_ro' (ro_pickF (u2 rfl (u8 rfl hb_25)) up_h) ⟨_, rfl, (up_m rfl (u4 rfl (u8 rfl hb_24)))⟩ rfl ?_
       refine ar (ro_pickT (u2 rfl (u4 rfl (u8 rfl hb_24))) up_h) rfl <| ae3 (u2 rfl (u16 rfl s0_13)) (u2 rfl (u16 rfl s3_13)) up_h ?_; intro e_31 s0_31 s3_31 s54_31
       refine then_n ⟨(s54_31).trans (by (refine avb ?_; simp only [letB, okB, decide_eq_true_eq, decide_eq_false_iff_not, Bool.false_eq_true, true_iff, false_iff, Bool.not_eq_true'] at *; omega)), (s0_31).trans (s0_13).symm, (s3_31).trans (s3_13).symm, rfl⟩
      replace hq_24 := bnf hq_24
      refine al_skip' ⟨_, rfl, .inl hb_24⟩ rfl ?_
      refine al_skip' ⟨_, rfl, .inl (up_m rfl hb_24)⟩ rfl ?_
      refine al_skip' ⟨_, rfl, .inl (u2 rfl hb_24)⟩ rfl ?_
      refine al_skip' ⟨_, rfl, .inr up_h⟩ rfl ?_
      refine al_skip' ⟨_, rfl, .inr (up_m rfl up_h)⟩ rfl ?_
      refine al_skip' ⟨_, rfl, .inr (u2 rfl up_h)⟩ rfl ?_
      refine al_skip' ⟨_, rfl, .inr up_h⟩ rfl ?_
      refine al_skip' ⟨_, rfl, .inr (up_m rfl up_h)⟩ rfl ?_
      refine al_skip' ⟨_, rfl, .inr (u2 rfl up_h)⟩ rfl ?_
      refine al_skip' ⟨_, rfl, .inr up_h⟩ rfl ?_
      refine al_skip' ⟨_, rfl, .inr (up_m rfl up_h)⟩ rfl ?_
      refine al_skip' ⟨_, rfl, .inr (up_m rfl (u4 rfl up_h))⟩ rfl ?_
      refine al_skip' ⟨_, rfl, .inr (up_m rfl (u8 rfl up_h))⟩ rfl ?_
      refine al_skip' ⟨_, rfl, .inl (up_m rfl (u4 rfl (u8 rfl hb_24)))⟩ rfl ?_
      refine ar (ro_pickF (u2 rfl (u4 rfl (u8 rfl hb_24))) ev_c) rfl <| ae3 (u2 rfl (u16 rfl s0_13)) (u2 rfl (u16 rfl s3_13)) up_h ?_; intro e_32 s0_32 s3_32 s54_32
      refine then_n ⟨(s54_32).trans (by (refine avb ?_; simp only [letB, okB, decide_eq_true_eq, decide_eq_false_iff_not, Bool.false_eq_true, true_iff, false_iff, Bool.not_eq_true'] at *; omega)), (s0_32).trans (s0_13).symm, (s3_32).trans (s3_13).symm, rfl⟩
     ·rintro e_23 _ ⟨s54_23, k0_23, k3_23, rfl⟩
      have s0_23 := k0_23.trans s0_13
      have s3_23 := k3_23.trans s3_13
      refine aw_case s54_23 (fun hq_33 => ?_) (fun hq_33 => ?_)
      ·replace hq_33 := bnt hq_33
       refine aw_seq <| at_ <| ar (ro_assign ev_c) rfl <| ae1 up_h ?_; clear s0_23 s3_23 s54_23; intro e_34 s2_34
       refine then_n <| aw_ret <| block_r <| then_r <| then_r <| block_r <| then_r <| ret1 (.inr rfl) (by kernel_rfl) (resV_tmp s2_34) (.ro _ rfl) ?_
       clear s2_34 ml_9
       (obtain ⟨h1, h2, h3⟩ := hinv; have hn : namB s.data.toList = false := namB_f (i := i.toNat) (by omega) (by first | assumption | exact okB_f (by assumption)); simp [isNameB, hn])
      replace hq_33 := bnf hq_33
      refine aw_skip <| block_n <| then_n <| at_ <| ar (ro_move s3_23) rfl ?_
      (refine ar (ro_add' up_h ev_c ?_) rfl ?_; · (unfold In64; omega))
      refine ar (ro_assign up_h) rfl <| ae2 (up_m rfl (u2 rfl s0_23)) up_h ?_; clear s0_23 s3_23 s54_23; intro e_35 s0_35 s3_35
      refine then_n <| ⟨_, ⟨s3_35, (s0_35.trans s0_8.symm), ml_9, ?_⟩, ?_⟩
      ·(obtain ⟨h1, h2, h3⟩ := hinv; refine ⟨by omega, by omega, fun j hj => ?_⟩; by_cases hj' : j < i.toNat; exact h3 j hj'; have hji : j = i.toNat := (by omega); rw [hji]; first | assumption | exact okB_t (by omega))
      ·((try dsimp only); omega)
   replace hq_11 := bf hq_11
   refine aw_exit <| then_x <| then_x <| block_hit <| then_n <| aw_seq <| at_ <| ar (ro_assign ev_c) rfl <| ae1 up_h ?_; clear s0_10 s17_10 s3_10; intro e_36 s2_36
   refine then_n <| aw_ret <| ret1 (.inr rfl) (by kernel_rfl) (resV_tmp s2_36) (.ro _ rfl) ?_
   clear s2_36 ml_9
   (obtain ⟨h1, h2, h3⟩ := hinv; have hn : namB s.data.toList = true := (namB_t fun j hj => h3 j (by omega)); refine avb ?_; simp only [isNameB, hn, Bool.true_and, Bool.and_eq_true, decide_eq_true_eq, true_iff]; omega)
theorem k3_hcf30 : ∀ args w, (callFunc 30 args).run Tryz.prog w = .ok (.enter 30 args) w := fun _ _ => by kernel_rfl
theorem k3_sl219 : SlIs Tryz.prog 219 29 1 8 (.int .i64 0) := ⟨by kernel_rfl, by kernel_rfl, by kernel_rfl⟩
theorem k3_sl22 : SlIs Tryz.prog 22 111 4 32 (.agg #[.int .i64 0, .int .i64 0, .int .i64 0, .bool false]) := ⟨by kernel_rfl, by kernel_rfl, by kernel_rfl⟩
theorem k3_ty111 : TyIs Tryz.prog 111 true 4 := ⟨by kernel_rfl, by kernel_rfl⟩
theorem k3_ty22 : TyIs Tryz.prog 22 false 1 := ⟨by kernel_rfl, by kernel_rfl⟩
theorem k3_ty3 : TyIs Tryz.prog 3 false 1 := ⟨by kernel_rfl, by kernel_rfl⟩
theorem k3_ty9 : TyIs Tryz.prog 9 false 1 := ⟨by kernel_rfl, by kernel_rfl⟩
structure Piece where
 len : Int
 grad : Int
 lim : Int
 leave : Bool
 deriving Inhabited
def pE (p : Piece) : List AV := [.v (.int .i64 p.len), .v (.int .i64 p.grad), .v (.int .i64 p.lim), .v (.bool p.leave)]
abbrev trA (nm : ByteArray) (ps : List Piece) : AV := .agg [.v (.string nm), .row 4 (ps.map pE)]
abbrev syA (b d v : Int) : AV := .agg [.v (.int .i64 b), .v (.int .i64 d), .v (.int .i64 v)]
abbrev riA (nm : ByteArray) (ps : List Piece) (b d v : Int) : AV := .agg [.v (.string nm), .row 4 (ps.map pE), .v (.int .i64 b), .v (.int .i64 d), .v (.int .i64 v)]
abbrev iA (n : Int) : AV := .v (.int .i64 n)
abbrev bA (b : Bool) : AV := .v (.bool b)
def pieceB (p : Piece) : Bool := withinB p.len 1 10000000 && withinB p.grad (-100) 100 && withinB p.lim 0 20000000000
def err0 (nm : ByteArray) (ps : List Piece) : Int := firstE [unlessE (isNameB nm) 4, unlessE (decide ((0 : Int) < ps.length)) 10, unlessE (decide ((ps.length : Int) ≤ 12)) 8]
def chk (nm : ByteArray) (ps : List Piece) : Int × Int :=
 if err0 nm ps ≠ 0 then (0, err0 nm ps) else match ps.findIdx? fun p => !pieceB p with
  | some i => ((i : Int), 2)
  | none => (0, 0)
theorem chk_err {nm : ByteArray} {ps : List Piece} (h : err0 nm ps ≠ 0) : chk nm ps = (0, err0 nm ps) := by unfold chk; rw [if_pos h]
theorem chk_bad {nm : ByteArray} {ps : List Piece} {i : Nat} (h : err0 nm ps = 0) (hi : i < ps.length) (hok : ∀ j : Nat, j < i → pieceB (ps.getD j default) = true) (hb : pieceB (ps.getD i default) = false) : chk nm ps = ((i : Int), 2) := by
 unfold chk
 rw [if_neg (by simpa using h)]
 have : ps.findIdx? (fun p => !pieceB p) = some i := by
  rw [List.findIdx?_eq_some_iff_getElem]
  refine ⟨hi, ?_, fun j hj => ?_⟩
  ·simp only [List.getD_eq_getElem?_getD, List.getElem?_eq_getElem hi, Option.getD_some] at hb; simp [hb]
  ·have := hok j hj
   simp only [List.getD_eq_getElem?_getD, List.getElem?_eq_getElem (Nat.lt_trans hj hi), Option.getD_some] at this; simp [this]
 rw [this]
theorem chk_ok {nm : ByteArray} {ps : List Piece} (h : err0 nm ps = 0) (hok : ∀ j : Nat, j < ps.length → pieceB (ps.getD j default) = true) : chk nm ps = (0, 0) := by
 unfold chk
 rw [if_neg (by simpa using h)]
 have : ps.findIdx? (fun p => !pieceB p) = none := by
  rw [List.findIdx?_eq_none_iff]
  intro p hp
  obtain ⟨j, hj, rfl⟩ := List.getElem_of_mem hp
  have := hok j hj
  simp only [List.getD_eq_getElem?_getD, List.getElem?_eq_getElem hj, Option.getD_some] at this; simp [this]
 rw [this]
set_option maxRecDepth 100000 in
set_option maxHeartbeats 4000000 in
theorem checkTrack_ok (nm : ByteArray) (ps : List Piece) (hs : nm.size ≤ 1000000000) (hp : ps.length ≤ 1000000000) : FnOk Tryz.prog 44 [trA nm ps] (fun q => q = .tuple [iA (chk nm ps).1, iA (chk nm ps).2]) := by
 refine fnOk_of (fn := Tryz.f44) 52 (by kernel_rfl) rfl (by kernel_rfl) (Nat.le_of_ble_eq_true rfl) ?_
 intro e_0 m_0 hA hm_0
 have s0_0 : evA e_0 (.tmp 0) = _ := hA 0 _ rfl
 have ml_0 : m_0.length = 0 := by rw [hm_0]; rfl
 clear hA hm_0
 refine aw_seq <| at_ <| al_stm (st_box s0_0 rfl ml_0) trivial rfl (fun m_1 hm_1 => ?_)
 have mo0_1 := m_push hm_1 ml_0
 have ml_1 := m_push_l hm_1 ml_0
 have ml_1 : _ = 1 := ml_1
 clear hm_1
 refine ar (ro_assign ev_c) rfl <| ar (ro_assign ev_c) rfl <| ae1 (u2 rfl up_h) ?_; clear s0_0; intro e_2 s1_2
 refine then_n <| aw_seq <| aw_seq <| aw_draw 17 (by kernel_rfl) (by kernel_rfl) (by kernel_rfl) (by kernel_rfl) ?_
 refine dr (ro_fld_ptr qfl24_0 rfl s1_2) rfl <| dr (ro_eq (ro_ld_ptr k3_ty9 rfl mo0_1 up_h (nle rfl)) (by simp only [pS, Value.cells, Nat.reduceAdd, pE] <;> rfl)) rfl ?_
 refine dr (ro_call (evL_cons up_h evL_nil) rfl (isName_ok nm hs) qhcf101) rfl <| dr (ro_call (evL_cons up_h (evL_cons ev_c evL_nil)) rfl (unless_ok _ _) qhcf93) rfl <| dr (ro_fld_ptr qfl24_1 rfl (u4 rfl s1_2)) rfl <| dr (ro_eq (ro_ld_ptr k3_ty22 rfl mo0_1 up_h (nle rfl)) (by simp only [pS, Value.cells, Nat.reduceAdd, pE] <;> rfl)) rfl ?_
 refine dr (ro_eq (ro_len_row up_h rfl k3_sl22.1) (by simp only [lnS] <;> rfl)) rfl ?_
 refine dr (ro_gtr up_h ev_c) rfl <| dr (ro_call (evL_cons up_h (evL_cons ev_c evL_nil)) rfl (unless_ok _ _) qhcf93) rfl <| dr (ro_fld_ptr qfl24_1 rfl (up_m rfl (u8 rfl s1_2))) rfl <| dr (ro_eq (ro_ld_ptr k3_ty22 rfl mo0_1 up_h (nle rfl)) (by simp only [pS, Value.cells, Nat.reduceAdd, pE] <;> rfl)) rfl ?_
 refine dr (ro_eq (ro_len_row up_h rfl k3_sl22.1) (by simp only [lnS] <;> rfl)) rfl ?_
 refine dr (ro_leq up_h ev_c) rfl <| dr (ro_call (evL_cons up_h (evL_cons ev_c evL_nil)) rfl (unless_ok _ _) qhcf93) rfl <| dr (ro_lit k3_sl219 (evP_cons (u2 rfl (u8 rfl up_h)) (evP_cons (up_m rfl (u4 rfl up_h)) (evP_cons up_h evP_nil))) rfl rfl rfl rfl) rfl <| dr (ro_call (evL_cons up_h evL_nil) rfl (first_ok [_, _, _] (by simp)) qhcf85) rfl ?_
 refine dr (ro_assign up_h) rfl <| ds_nil <| ae2 (up_m rfl (u16 rfl s1_2)) up_h ?_; clear s1_2; intro e_3 s1_3 s4_3
 refine then_n <| aw_seq <| at_ <| ar (ro_move s4_3) rfl <| ar (ro_neq up_h ev_c) rfl <| ae3 (u2 rfl s1_3) (u2 rfl s4_3) up_h ?_; clear s1_3 s4_3; intro e_4 s1_4 s4_4 s24_4
 refine then_n <| aw_case s24_4 (fun hq_5 => ?_) (fun hq_5 => ?_)
 ·replace hq_5 := bnt hq_5
  refine aw_seq <| at_ <| ar (ro_move s4_4) rfl <| ar (ro_assign ev_c) rfl <| ar (ro_assign (up_m rfl up_h)) rfl <| ae2 (up_m rfl up_h) up_h ?_; clear s1_4 s24_4 s4_4; intro e_6 s2_6 s3_6
  refine then_n <| aw_ret <| then_r <| ret2 (.inr rfl) (by kernel_rfl) (resV_tmp s2_6) (resV_tmp s3_6) (.ro _ rfl) (.ro _ rfl) ?_
  clear s2_6 s3_6 mo0_1 ml_1
  (rw [chk_err (show err0 nm ps ≠ 0 by assumption)]; rfl)
 replace hq_5 := bnf hq_5
 refine aw_skip <| then_n <| aw_seq <| aw_seq <| at_ <| ar (ro_fld_ptr qfl24_1 rfl s1_4) rfl <| ar (ro_eq (ro_ld_ptr k3_ty22 rfl mo0_1 up_h (nle rfl)) (by simp only [pS, Value.cells, Nat.reduceAdd, pE] <;> rfl)) rfl ?_
 refine ar (ro_eq (ro_len_row up_h rfl k3_sl22.1) (by simp only [lnS] <;> rfl)) rfl ?_
 refine ar (ro_move ev_c) rfl <| ae3 (u2 rfl up_h) (up_m rfl up_h) up_h ?_; clear s1_4 s24_4 s4_4; intro e_7 s27_7 s28_7 s29_7
 refine then_n <| aw_block <| aw_loop (S := Int) (fun i e mem => (evA e (.tmp 29) = .v (.int .i64 i)) ∧ (evA e (.tmp 27) = evA e_7 (.tmp 27)) ∧ (evA e (.tmp 28) = evA e_7 (.tmp 28)) ∧ (mem[0]? = m_1[0]?) ∧ (∃ n, mem.length = n ∧ 1 ≤ n) ∧ ((0 ≤ i ∧ i ≤ ps.length ∧ ∀ j : Nat, j < i.toNat → pieceB (ps.getD j default) = true))) (fun i => (ps.length - i).toNat) _ ⟨s29_7, rfl, rfl, rfl, ⟨_, ml_1, Nat.le_refl _⟩, ?_⟩ ?_
 ·exact ⟨by omega, by omega, fun j hj => by omega⟩
 ·rintro i e_8 m_8 ⟨s29_8, k27_8, k28_8, mk0_8, ⟨n_8, ml_8, hn_8⟩, hinv⟩
  have s27_8 := k27_8.trans s27_7
  have s28_8 := k28_8.trans s28_7
  have mo0_8 := mk0_8.trans mo0_1
  refine aw_seq <| at_ <| ar (ro_lss s29_8 s28_8) rfl <| ae4 (up_m rfl s27_8) (up_m rfl s28_8) (up_m rfl s29_8) up_h ?_; clear s27_8 s28_8 s29_8; intro e_9 s27_9 s28_9 s29_9 s30_9
  refine then_n <| aw_seq <| aw_case s30_9 (fun hq_10 => ?_) (fun hq_10 => ?_)
  ·replace hq_10 := bt hq_10
   refine aw_skip <| then_n <| aw_seq <| aw_block <| aw_seq <| at_ <| ar (ro_move s29_9) rfl <| ar (ro_eq (ro_ix k3_sl22 (up_m rfl s27_9) (up_m rfl s29_9) (by omega) (by first | (refine idx_map ?_; first | omega | (simp only [lnS]; omega)) | (refine idx_mapI ?_; first | omega | (simp only [lnS]; omega)) | (refine idx_mapN ?_; first | omega | (simp only [lnS]; omega)) | rfl)) (by simp only [pS, Value.cells, Nat.reduceAdd, pE] <;> rfl)) rfl ?_
   refine ar (ro_eq (ro_ld_ref k3_ty111 rfl up_h (nle rfl)) (by simp only [pS, Value.cells, Nat.reduceAdd, pE] <;> rfl)) rfl ?_
   refine al_stm (st_alloc qaz111 rfl ml_8) trivial rfl (fun m_11 hm_11 => ?_)
   have mon_8_11 := m_push hm_11 ml_8
   simp only [pS, Value.cells, Nat.reduceAdd, pE] at mon_8_11
   have mo0_11 := m_push_o hm_11 mo0_8
   have ml_11 := m_push_l hm_11 ml_8
   clear hm_11 mo0_8
   refine ar (ro_assign (up_m rfl (u2 rfl up_h))) rfl <| al_stm (st_store (up_m rfl up_h) (u2 rfl up_h) rfl rfl mon_8_11 qsz111 rfl (nle rfl)) trivial rfl (fun m_12 hm_12 => ?_)
   have mon_8_12 := m_set hm_12 mon_8_11
   simp only [pS, Value.cells, Nat.reduceAdd, pE] at mon_8_12
   have mo0_12 := m_set_o hm_12 mo0_11 (by omega)
   have ml_12 := m_set_l hm_12 ml_11
   clear hm_12 mon_8_11 mo0_11
   refine ae5 (up_n up_h) (up_n (up_m rfl up_h)) (up_n (up_m rfl (u4 rfl s27_9))) (up_n (up_m rfl (u4 rfl s28_9))) (up_n (up_m rfl (u4 rfl s29_9))) ?_; clear s27_9 s28_9 s29_9 s30_9; intro e_13 s5_13 s6_13 s27_13 s28_13 s29_13
   refine then_n <| aw_seq <| aw_cut (fun e mem => (evA e (.tmp 49) = .v (.bool (!pieceB (ps.getD i.toNat default)))) ∧ (evA e (.tmp 5) = evA e_13 (.tmp 5)) ∧ (evA e (.tmp 27) = evA e_13 (.tmp 27)) ∧ (evA e (.tmp 28) = evA e_13 (.tmp 28)) ∧ (evA e (.tmp 29) = evA e_13 (.tmp 29)) ∧ m_12 = mem) ?_ ?_
   ·
    refine at_ <| ar (ro_fld_ptr qfl111_0 rfl s6_13) rfl <| ar (ro_eq (ro_ld_ptr k3_ty3 rfl mon_8_12 up_h (nle rfl)) (by simp only [pS, Value.cells, Nat.reduceAdd, pE] <;> rfl)) rfl ?_
    refine ar (ro_call (evL_cons up_h (evL_cons ev_c (evL_cons ev_c evL_nil))) rfl (within_ok _ _ _) qhcf110) rfl <| ar (ro_not up_h) rfl <| ar (ro_move up_h) rfl <| al_case up_h (fun hb_15 hq_15 => ?_) (fun hb_15 hq_15 => ?_)
    ·replace hq_15 := bt' hq_15
     refine al_skip' ⟨_, rfl, .inl hb_15⟩ rfl ?_
     refine al_skip' ⟨_, rfl, .inl (up_m rfl hb_15)⟩ rfl ?_
     refine al_skip' ⟨_, rfl, .inl (u2 rfl hb_15)⟩ rfl ?_
     refine al_skip' ⟨_, rfl, .inl (up_m rfl (u2 rfl hb_15))⟩ rfl ?_
     refine ar (ro_pickT (u4 rfl hb_15) ev_c) rfl <| ar (ro_move up_h) rfl <| al_skip' ⟨_, rfl, .inl up_h⟩ rfl ?_
     refine al_skip' ⟨_, rfl, .inl (up_m rfl up_h)⟩ rfl ?_
     refine al_skip' ⟨_, rfl, .inl (u2 rfl up_h)⟩ rfl ?_
     refine al_skip' ⟨_, rfl, .inl (up_m rfl (u2 rfl up_h))⟩ rfl ?_
     refine ar (ro_pickT (u4 rfl up_h) ev_c) rfl <| ae5 (u16 rfl s5_13) (u16 rfl s27_13) (u16 rfl s28_13) (u16 rfl s29_13) up_h ?_; intro e_16 s5_16 s27_16 s28_16 s29_16 s49_16
     refine then_n ⟨(s49_16).trans (by (refine avb ?_; simp_all [pieceB])), (s5_16).trans (s5_13).symm, (s27_16).trans (s27_13).symm, (s28_16).trans (s28_13).symm, (s29_16).trans (s29_13).symm, rfl⟩
    replace hq_15 := bf' hq_15
    refine al_ro' (ro_fld_ptr qfl111_1 rfl (up_m rfl (u4 rfl s6_13))) ⟨_, rfl, hb_15⟩ rfl ?_
    refine al_ro' (ro_eq (ro_ld_ptr k3_ty3 rfl mon_8_12 up_h (nle rfl)) (by simp only [pS, Value.cells, Nat.reduceAdd, pE] <;> rfl)) ⟨_, rfl, (up_m rfl hb_15)⟩ rfl ?_
    refine al_ro' (ro_call (evL_cons up_h (evL_cons ev_c (evL_cons ev_c evL_nil))) rfl (within_ok _ _ _) qhcf110) ⟨_, rfl, (u2 rfl hb_15)⟩ rfl ?_
    refine al_ro' (ro_not up_h) ⟨_, rfl, (up_m rfl (u2 rfl hb_15))⟩ rfl ?_
    refine ar (ro_pickF (u4 rfl hb_15) up_h) rfl <| ar (ro_move up_h) rfl <| al_case up_h (fun hb_17 hq_17 => ?_) (fun hb_17 hq_17 => ?_)
    ·replace hq_17 := bt' hq_17
     refine al_skip' ⟨_, rfl, .inl hb_17⟩ rfl ?_
     refine al_skip' ⟨_, rfl, .inl (up_m rfl hb_17)⟩ rfl ?_
     refine al_skip' ⟨_, rfl, .inl (u2 rfl hb_17)⟩ rfl ?_
     refine al_skip' ⟨_, rfl, .inl (up_m rfl (u2 rfl hb_17))⟩ rfl ?_
     refine ar (ro_pickT (u4 rfl hb_17) ev_c) rfl <| ae5 (u16 rfl s5_13) (u16 rfl s27_13) (u16 rfl s28_13) (u16 rfl s29_13) up_h ?_; intro e_18 s5_18 s27_18 s28_18 s29_18 s49_18
     refine then_n ⟨(s49_18).trans (by (refine avb ?_; simp_all [pieceB])), (s5_18).trans (s5_13).symm, (s27_18).trans (s27_13).symm, (s28_18).trans (s28_13).symm, (s29_18).trans (s29_13).symm, rfl⟩
    replace hq_17 := bf' hq_17
    refine al_ro' (ro_fld_ptr qfl111_2 rfl (up_m rfl (u2 rfl (u8 rfl s6_13)))) ⟨_, rfl, hb_17⟩ rfl ?_
    refine al_ro' (ro_eq (ro_ld_ptr k3_ty3 rfl mon_8_12 up_h (nle rfl)) (by simp only [pS, Value.cells, Nat.reduceAdd, pE] <;> rfl)) ⟨_, rfl, (up_m rfl hb_17)⟩ rfl ?_
    refine al_ro' (ro_call (evL_cons up_h evL_nil) rfl (isSquare_ok _) qhcf94) ⟨_, rfl, (u2 rfl hb_17)⟩ rfl ?_
    refine al_ro' (ro_not up_h) ⟨_, rfl, (up_m rfl (u2 rfl hb_17))⟩ rfl ?_
    refine ar (ro_pickF (u4 rfl hb_17) up_h) rfl <| ae5 (u16 rfl s5_13) (u16 rfl s27_13) (u16 rfl s28_13) (u16 rfl s29_13) up_h ?_; intro e_19 s5_19 s27_19 s28_19 s29_19 s49_19
    refine then_n ⟨(s49_19).trans (by (refine avb ?_; simp_all [pieceB])), (s5_19).trans (s5_13).symm, (s27_19).trans (s27_13).symm, (s28_19).trans (s28_13).symm, (s29_19).trans (s29_13).symm, rfl⟩
   ·rintro e_14 _ ⟨s49_14, k5_14, k27_14, k28_14, k29_14, rfl⟩
    have s5_14 := k5_14.trans s5_13
    have s27_14 := k27_14.trans s27_13
    have s28_14 := k28_14.trans s28_13
    have s29_14 := k29_14.trans s29_13
    refine aw_case s49_14 (fun hq_20 => ?_) (fun hq_20 => ?_)
    ·replace hq_20 := bt' hq_20
     refine aw_seq <| at_ <| ar (ro_move s5_14) rfl <| ar (ro_assign up_h) rfl <| ar (ro_assign ev_c) rfl <| ae2 (up_m rfl up_h) up_h ?_; clear s27_14 s28_14 s29_14 s49_14 s5_14; intro e_21 s2_21 s3_21
     refine then_n <| aw_ret <| block_r <| then_r <| then_r <| block_r <| then_r <| ret2 (.inr rfl) (by kernel_rfl) (resV_tmp s2_21) (resV_tmp s3_21) (.ro _ rfl) (.ro _ rfl) ?_
     clear s2_21 s3_21 mon_8_12 mo0_12 ml_12
     (obtain ⟨h1, h2, h3⟩ := hinv; rw [chk_bad (i := i.toNat) (show err0 nm ps = 0 by assumption) (by omega) h3 (by assumption), Int.toNat_of_nonneg h1])
    replace hq_20 := bf' hq_20
    refine aw_skip <| block_n <| then_n <| at_ ?_
    (refine ar (ro_add' s29_14 ev_c ?_) rfl ?_; · (unfold In64; omega))
    refine ar (ro_move up_h) rfl <| ae3 (u2 rfl s27_14) (u2 rfl s28_14) up_h ?_; clear s27_14 s28_14 s29_14 s49_14 s5_14; intro e_22 s27_22 s28_22 s29_22
    refine then_n <| ⟨_, ⟨s29_22, (s27_22.trans s27_7.symm), (s28_22.trans s28_7.symm), (mo0_12.trans mo0_1.symm), ⟨_, ml_12, by omega⟩, ?_⟩, ?_⟩
    ·(obtain ⟨h1, h2, h3⟩ := hinv; refine ⟨by omega, by omega, fun j hj => ?_⟩; by_cases hj' : j < i.toNat; exact h3 j hj'; have hji : j = i.toNat := (by omega); rw [hji]; assumption)
    ·((try dsimp only); omega)
  replace hq_10 := bf hq_10
  refine aw_exit <| then_x <| then_x <| block_hit <| then_n <| aw_seq <| at_ <| ar (ro_assign ev_c) rfl <| ar (ro_assign ev_c) rfl <| ae2 (up_m rfl up_h) up_h ?_; clear s27_9 s28_9 s29_9 s30_9; intro e_23 s2_23 s3_23
  refine then_n <| aw_ret <| ret2 (.inr rfl) (by kernel_rfl) (resV_tmp s2_23) (resV_tmp s3_23) (.ro _ rfl) (.ro _ rfl) ?_
  clear s2_23 s3_23 mo0_8 ml_8
  (obtain ⟨h1, h2, h3⟩ := hinv; rw [chk_ok (show err0 nm ps = 0 by assumption) (fun j hj => h3 j (by omega))])
set_option maxRecDepth 100000 in
set_option maxHeartbeats 4000000 in
theorem rCheckTrack_ok (nm : ByteArray) (ps : List Piece) (hs : nm.size ≤ 1000000000) (hp : ps.length ≤ 1000000000) : FnOk Tryz.prog 48 [trA nm ps] (fun q => q = .tuple [iA (chk nm ps).1, iA (chk nm ps).2]) := by
 refine fnOk_of (fn := Tryz.f48) 47 (by kernel_rfl) rfl (by kernel_rfl) (Nat.le_of_ble_eq_true rfl) ?_
 intro e_0 m_0 hA hm_0
 have s0_0 : evA e_0 (.tmp 0) = _ := hA 0 _ rfl
 have ml_0 : m_0.length = 0 := by rw [hm_0]; rfl
 clear hA hm_0
 refine aw_seq <| at_ <| al_stm (st_box s0_0 rfl ml_0) trivial rfl (fun m_1 hm_1 => ?_)
 have mo0_1 := m_push hm_1 ml_0
 have ml_1 := m_push_l hm_1 ml_0
 have ml_1 : _ = 1 := ml_1
 clear hm_1
 refine ar (ro_assign ev_c) rfl <| ar (ro_assign ev_c) rfl <| ae1 (u2 rfl up_h) ?_; clear s0_0; intro e_2 s1_2
 refine then_n <| aw_seq <| aw_seq <| at_ <| ar (ro_fld_ptr qfl24_0 rfl s1_2) rfl <| ar (ro_eq (ro_ld_ptr k3_ty9 rfl mo0_1 up_h (nle rfl)) (by simp only [pS, Value.cells, Nat.reduceAdd, pE] <;> rfl)) rfl ?_
 refine ar (ro_call (evL_cons up_h evL_nil) rfl (bIsName_ok nm hs) qhcf111) rfl <| ar (ro_not up_h) rfl <| ae2 (u4 rfl s1_2) up_h ?_; clear s1_2; intro e_3 s1_3 s9_3
 refine then_n <| aw_case s9_3 (fun hq_4 => ?_) (fun hq_4 => ?_)
 ·replace hq_4 := bt' hq_4
  refine aw_seq <| at_ <| ar (ro_assign ev_c) rfl <| ar (ro_assign ev_c) rfl <| ae2 (up_m rfl up_h) up_h ?_; clear s1_3 s9_3; intro e_5 s2_5 s3_5
  refine then_n <| aw_ret <| then_r <| ret2 (.inr rfl) (by kernel_rfl) (resV_tmp s2_5) (resV_tmp s3_5) (.ro _ rfl) (.ro _ rfl) ?_
  clear s2_5 s3_5 mo0_1 ml_1
  first | (rw [chk_err] <;> simp_all [err0, unlessE, firstE] <;> omega) | (obtain ⟨h1, h2, h3⟩ := hinv; have he : err0 nm ps = 0 := (by simp_all [err0, unlessE, firstE] <;> omega); first | (rw [chk_bad (i := i.toNat) he (by omega) h3 (by assumption), Int.toNat_of_nonneg h1]) | (rw [chk_ok he (fun j hj => h3 j (by omega))]))
 replace hq_4 := bf' hq_4
 refine aw_skip <| then_n <| aw_seq <| aw_seq <| at_ <| ar (ro_fld_ptr qfl24_1 rfl s1_3) rfl <| ar (ro_eq (ro_ld_ptr k3_ty22 rfl mo0_1 up_h (nle rfl)) (by simp only [pS, Value.cells, Nat.reduceAdd, pE] <;> rfl)) rfl ?_
 refine ar (ro_eq (ro_len_row up_h rfl k3_sl22.1) (by simp only [lnS] <;> rfl)) rfl ?_
 refine ar (ro_eql up_h ev_c) rfl ?_
 refine ae2 (u4 rfl s1_3) up_h ?_; clear s1_3 s9_3; intro e_6 s1_6 s13_6
 refine then_n <| aw_case s13_6 (fun hq_7 => ?_) (fun hq_7 => ?_)
 ·replace hq_7 := bt hq_7
  refine aw_seq <| at_ <| ar (ro_assign ev_c) rfl <| ar (ro_assign ev_c) rfl <| ae2 (up_m rfl up_h) up_h ?_; clear s13_6 s1_6; intro e_8 s2_8 s3_8
  refine then_n <| aw_ret <| then_r <| ret2 (.inr rfl) (by kernel_rfl) (resV_tmp s2_8) (resV_tmp s3_8) (.ro _ rfl) (.ro _ rfl) ?_
  clear s2_8 s3_8 mo0_1 ml_1
  first | (rw [chk_err] <;> simp_all [err0, unlessE, firstE] <;> omega) | (obtain ⟨h1, h2, h3⟩ := hinv; have he : err0 nm ps = 0 := (by simp_all [err0, unlessE, firstE] <;> omega); first | (rw [chk_bad (i := i.toNat) he (by omega) h3 (by assumption), Int.toNat_of_nonneg h1]) | (rw [chk_ok he (fun j hj => h3 j (by omega))]))
 replace hq_7 := bf hq_7
 refine aw_skip <| then_n <| aw_seq <| aw_seq <| at_ <| ar (ro_fld_ptr qfl24_1 rfl s1_6) rfl <| ar (ro_eq (ro_ld_ptr k3_ty22 rfl mo0_1 up_h (nle rfl)) (by simp only [pS, Value.cells, Nat.reduceAdd, pE] <;> rfl)) rfl ?_
 refine ar (ro_eq (ro_len_row up_h rfl k3_sl22.1) (by simp only [lnS] <;> rfl)) rfl ?_
 refine ar (ro_gtr up_h ev_c) rfl <| ae2 (u4 rfl s1_6) up_h ?_; clear s13_6 s1_6; intro e_9 s1_9 s17_9
 refine then_n <| aw_case s17_9 (fun hq_10 => ?_) (fun hq_10 => ?_)
 ·replace hq_10 := bt hq_10
  refine aw_seq <| at_ <| ar (ro_assign ev_c) rfl <| ar (ro_assign ev_c) rfl <| ae2 (up_m rfl up_h) up_h ?_; clear s17_9 s1_9; intro e_11 s2_11 s3_11
  refine then_n <| aw_ret <| then_r <| ret2 (.inr rfl) (by kernel_rfl) (resV_tmp s2_11) (resV_tmp s3_11) (.ro _ rfl) (.ro _ rfl) ?_
  clear s2_11 s3_11 mo0_1 ml_1
  first | (rw [chk_err] <;> simp_all [err0, unlessE, firstE] <;> omega) | (obtain ⟨h1, h2, h3⟩ := hinv; have he : err0 nm ps = 0 := (by simp_all [err0, unlessE, firstE] <;> omega); first | (rw [chk_bad (i := i.toNat) he (by omega) h3 (by assumption), Int.toNat_of_nonneg h1]) | (rw [chk_ok he (fun j hj => h3 j (by omega))]))
 replace hq_10 := bf hq_10
 refine aw_skip <| then_n <| aw_seq <| aw_seq <| at_ <| ar (ro_assign ev_c) rfl <| ae2 (up_m rfl s1_9) up_h ?_; clear s17_9 s1_9; intro e_12 s1_12 s4_12
 refine then_n <| aw_block <| aw_loop (S := Int) (fun i e mem => (evA e (.tmp 4) = .v (.int .i64 i)) ∧ (evA e (.tmp 1) = evA e_12 (.tmp 1)) ∧ (mem[0]? = m_1[0]?) ∧ (∃ n, mem.length = n ∧ 1 ≤ n) ∧ ((0 ≤ i ∧ i ≤ ps.length ∧ ∀ j : Nat, j < i.toNat → pieceB (ps.getD j default) = true))) (fun i => (ps.length - i).toNat) _ ⟨s4_12, rfl, rfl, ⟨_, ml_1, Nat.le_refl _⟩, ?_⟩ ?_
 ·exact ⟨by omega, by omega, fun j hj => by omega⟩
 ·rintro i e_13 m_13 ⟨s4_13, k1_13, mk0_13, ⟨n_13, ml_13, hn_13⟩, hinv⟩
  have s1_13 := k1_13.trans s1_12
  have mo0_13 := mk0_13.trans mo0_1
  refine aw_seq <| aw_seq <| at_ <| ar (ro_move s4_13) rfl <| ar (ro_fld_ptr qfl24_1 rfl (up_m rfl s1_13)) rfl <| ar (ro_eq (ro_ld_ptr k3_ty22 rfl mo0_13 up_h (nle rfl)) (by simp only [pS, Value.cells, Nat.reduceAdd, pE] <;> rfl)) rfl ?_
  refine ar (ro_eq (ro_len_row up_h rfl k3_sl22.1) (by simp only [lnS] <;> rfl)) rfl ?_
  refine ar (ro_lss (up_m rfl (u2 rfl up_h)) up_h) rfl <| ae3 (up_m rfl (u4 rfl s1_13)) (up_m rfl (u4 rfl s4_13)) up_h ?_; clear s1_13 s4_13; intro e_14 s1_14 s4_14 s22_14
  refine then_n <| aw_case s22_14 (fun hq_15 => ?_) (fun hq_15 => ?_)
  ·replace hq_15 := bt hq_15
   refine aw_skip <| then_n <| aw_seq <| aw_block <| aw_seq <| at_ <| ar (ro_fld_ptr qfl24_1 rfl s1_14) rfl <| ar (ro_eq (ro_ld_ptr k3_ty22 rfl mo0_13 up_h (nle rfl)) (by simp only [pS, Value.cells, Nat.reduceAdd, pE] <;> rfl)) rfl ?_
   refine ar (ro_move (u2 rfl s4_14)) rfl <| ar (ro_eq (ro_ix k3_sl22 (up_m rfl up_h) up_h (by omega) (by first | (refine idx_map ?_; first | omega | (simp only [lnS]; omega)) | (refine idx_mapI ?_; first | omega | (simp only [lnS]; omega)) | (refine idx_mapN ?_; first | omega | (simp only [lnS]; omega)) | rfl)) (by simp only [pS, Value.cells, Nat.reduceAdd, pE] <;> rfl)) rfl ?_
   refine ar (ro_eq (ro_ld_ref k3_ty111 rfl up_h (nle rfl)) (by simp only [pS, Value.cells, Nat.reduceAdd, pE] <;> rfl)) rfl ?_
   refine al_stm (st_alloc qaz111 rfl ml_13) trivial rfl (fun m_16 hm_16 => ?_)
   have mon_13_16 := m_push hm_16 ml_13
   simp only [pS, Value.cells, Nat.reduceAdd, pE] at mon_13_16
   have mo0_16 := m_push_o hm_16 mo0_13
   have ml_16 := m_push_l hm_16 ml_13
   clear hm_16 mo0_13
   refine al_stm (st_store up_h (up_m rfl up_h) rfl rfl mon_13_16 qsz111 rfl (nle rfl)) trivial rfl (fun m_17 hm_17 => ?_)
   have mon_13_17 := m_set hm_17 mon_13_16
   simp only [pS, Value.cells, Nat.reduceAdd, pE] at mon_13_17
   have mo0_17 := m_set_o hm_17 mo0_16 (by omega)
   have ml_17 := m_set_l hm_17 ml_16
   clear hm_17 mon_13_16 mo0_16
   refine ae3 (up_n (u2 rfl (u4 rfl s1_14))) (up_n (u2 rfl (u4 rfl s4_14))) (up_n up_h) ?_; clear s1_14 s22_14 s4_14; intro e_18 s1_18 s4_18 s5_18
   refine then_n <| aw_seq <| aw_cut (fun e mem => (evA e (.tmp 45) = .v (.bool (!pieceB (ps.getD i.toNat default)))) ∧ (evA e (.tmp 1) = evA e_18 (.tmp 1)) ∧ (evA e (.tmp 4) = evA e_18 (.tmp 4)) ∧ m_17 = mem) ?_ ?_
   ·
    refine at_ <| ar (ro_fld_ptr qfl111_0 rfl s5_18) rfl <| ar (ro_eq (ro_ld_ptr k3_ty3 rfl mon_13_17 up_h (nle rfl)) (by simp only [pS, Value.cells, Nat.reduceAdd, pE] <;> rfl)) rfl ?_
    refine ar (ro_call (evL_cons up_h (evL_cons ev_c (evL_cons ev_c evL_nil))) rfl (bWithin_ok _ _ _) k3_hcf30) rfl <| ar (ro_not up_h) rfl <| ar (ro_move up_h) rfl <| al_case up_h (fun hb_20 hq_20 => ?_) (fun hb_20 hq_20 => ?_)
    ·replace hq_20 := bt' hq_20
     refine al_skip' ⟨_, rfl, .inl hb_20⟩ rfl ?_
     refine al_skip' ⟨_, rfl, .inl (up_m rfl hb_20)⟩ rfl ?_
     refine al_skip' ⟨_, rfl, .inl (u2 rfl hb_20)⟩ rfl ?_
     refine al_skip' ⟨_, rfl, .inl (up_m rfl (u2 rfl hb_20))⟩ rfl ?_
     refine ar (ro_pickT (u4 rfl hb_20) ev_c) rfl <| ar (ro_move up_h) rfl <| al_skip' ⟨_, rfl, .inl up_h⟩ rfl ?_
     refine al_skip' ⟨_, rfl, .inl (up_m rfl up_h)⟩ rfl ?_
     refine al_skip' ⟨_, rfl, .inl (u2 rfl up_h)⟩ rfl ?_
     refine al_skip' ⟨_, rfl, .inl (up_m rfl (u2 rfl up_h))⟩ rfl ?_
     refine ar (ro_pickT (u4 rfl up_h) ev_c) rfl <| ae3 (u16 rfl s1_18) (u16 rfl s4_18) up_h ?_; intro e_21 s1_21 s4_21 s45_21
     refine then_n ⟨(s45_21).trans (by (refine avb ?_; simp_all [pieceB])), (s1_21).trans (s1_18).symm, (s4_21).trans (s4_18).symm, rfl⟩
    replace hq_20 := bf' hq_20
    refine al_ro' (ro_fld_ptr qfl111_1 rfl (up_m rfl (u4 rfl s5_18))) ⟨_, rfl, hb_20⟩ rfl ?_
    refine al_ro' (ro_eq (ro_ld_ptr k3_ty3 rfl mon_13_17 up_h (nle rfl)) (by simp only [pS, Value.cells, Nat.reduceAdd, pE] <;> rfl)) ⟨_, rfl, (up_m rfl hb_20)⟩ rfl ?_
    refine al_ro' (ro_call (evL_cons up_h (evL_cons ev_c (evL_cons ev_c evL_nil))) rfl (bWithin_ok _ _ _) k3_hcf30) ⟨_, rfl, (u2 rfl hb_20)⟩ rfl ?_
    refine al_ro' (ro_not up_h) ⟨_, rfl, (up_m rfl (u2 rfl hb_20))⟩ rfl ?_
    refine ar (ro_pickF (u4 rfl hb_20) up_h) rfl <| ar (ro_move up_h) rfl <| al_case up_h (fun hb_22 hq_22 => ?_) (fun hb_22 hq_22 => ?_)
    ·replace hq_22 := bt' hq_22
     refine al_skip' ⟨_, rfl, .inl hb_22⟩ rfl ?_
     refine al_skip' ⟨_, rfl, .inl (up_m rfl hb_22)⟩ rfl ?_
     refine al_skip' ⟨_, rfl, .inl (u2 rfl hb_22)⟩ rfl ?_
     refine al_skip' ⟨_, rfl, .inl (up_m rfl (u2 rfl hb_22))⟩ rfl ?_
     refine ar (ro_pickT (u4 rfl hb_22) ev_c) rfl <| ae3 (u16 rfl s1_18) (u16 rfl s4_18) up_h ?_; intro e_23 s1_23 s4_23 s45_23
     refine then_n ⟨(s45_23).trans (by (refine avb ?_; simp_all [pieceB])), (s1_23).trans (s1_18).symm, (s4_23).trans (s4_18).symm, rfl⟩
    replace hq_22 := bf' hq_22
    refine al_ro' (ro_fld_ptr qfl111_2 rfl (up_m rfl (u2 rfl (u8 rfl s5_18)))) ⟨_, rfl, hb_22⟩ rfl ?_
    refine al_ro' (ro_eq (ro_ld_ptr k3_ty3 rfl mon_13_17 up_h (nle rfl)) (by simp only [pS, Value.cells, Nat.reduceAdd, pE] <;> rfl)) ⟨_, rfl, (up_m rfl hb_22)⟩ rfl ?_
    refine al_ro' (ro_call (evL_cons up_h (evL_cons ev_c (evL_cons ev_c evL_nil))) rfl (bWithin_ok _ _ _) k3_hcf30) ⟨_, rfl, (u2 rfl hb_22)⟩ rfl ?_
    refine al_ro' (ro_not up_h) ⟨_, rfl, (up_m rfl (u2 rfl hb_22))⟩ rfl ?_
    refine ar (ro_pickF (u4 rfl hb_22) up_h) rfl <| ae3 (u16 rfl s1_18) (u16 rfl s4_18) up_h ?_; intro e_24 s1_24 s4_24 s45_24
    refine then_n ⟨(s45_24).trans (by (refine avb ?_; simp_all [pieceB])), (s1_24).trans (s1_18).symm, (s4_24).trans (s4_18).symm, rfl⟩
   ·rintro e_19 _ ⟨s45_19, k1_19, k4_19, rfl⟩
    have s1_19 := k1_19.trans s1_18
    have s4_19 := k4_19.trans s4_18
    refine aw_case s45_19 (fun hq_25 => ?_) (fun hq_25 => ?_)
    ·replace hq_25 := bt' hq_25
     refine aw_seq <| at_ <| ar (ro_move s4_19) rfl <| ar (ro_assign up_h) rfl <| ar (ro_assign ev_c) rfl <| ae2 (up_m rfl up_h) up_h ?_; clear s1_19 s45_19 s4_19; intro e_26 s2_26 s3_26
     refine then_n <| aw_ret <| block_r <| then_r <| then_r <| block_r <| then_r <| ret2 (.inr rfl) (by kernel_rfl) (resV_tmp s2_26) (resV_tmp s3_26) (.ro _ rfl) (.ro _ rfl) ?_
     clear s2_26 s3_26 mon_13_17 mo0_17 ml_17
     first | (rw [chk_err] <;> simp_all [err0, unlessE, firstE] <;> omega) | (obtain ⟨h1, h2, h3⟩ := hinv; have he : err0 nm ps = 0 := (by simp_all [err0, unlessE, firstE] <;> omega); first | (rw [chk_bad (i := i.toNat) he (by omega) h3 (by assumption), Int.toNat_of_nonneg h1]) | (rw [chk_ok he (fun j hj => h3 j (by omega))]))
    replace hq_25 := bf' hq_25
    refine aw_skip <| block_n <| then_n <| at_ <| ar (ro_move s4_19) rfl ?_
    (refine ar (ro_add' up_h ev_c ?_) rfl ?_; · (unfold In64; omega))
    refine ar (ro_assign up_h) rfl <| ae2 (up_m rfl (u2 rfl s1_19)) up_h ?_; clear s1_19 s45_19 s4_19; intro e_27 s1_27 s4_27
    refine then_n <| ⟨_, ⟨s4_27, (s1_27.trans s1_12.symm), (mo0_17.trans mo0_1.symm), ⟨_, ml_17, by omega⟩, ?_⟩, ?_⟩
    ·(obtain ⟨h1, h2, h3⟩ := hinv; refine ⟨by omega, by omega, fun j hj => ?_⟩; by_cases hj' : j < i.toNat; exact h3 j hj'; have hji : j = i.toNat := (by omega); rw [hji]; assumption)
    ·((try dsimp only); omega)
  replace hq_15 := bf hq_15
  refine aw_exit <| then_x <| then_x <| block_hit <| then_n <| aw_seq <| at_ <| ar (ro_assign ev_c) rfl <| ar (ro_assign ev_c) rfl <| ae2 (up_m rfl up_h) up_h ?_; clear s1_14 s22_14 s4_14; intro e_28 s2_28 s3_28
  refine then_n <| aw_ret <| ret2 (.inr rfl) (by kernel_rfl) (resV_tmp s2_28) (resV_tmp s3_28) (.ro _ rfl) (.ro _ rfl) ?_
  clear s2_28 s3_28 mo0_13 ml_13
  first | (rw [chk_err] <;> simp_all [err0, unlessE, firstE] <;> omega) | (obtain ⟨h1, h2, h3⟩ := hinv; have he : err0 nm ps = 0 := (by simp_all [err0, unlessE, firstE] <;> omega); first | (rw [chk_bad (i := i.toNat) he (by omega) h3 (by assumption), Int.toNat_of_nonneg h1]) | (rw [chk_ok he (fun j hj => h3 j (by omega))]))
end Go.Proofs.YtjhcfpdgldpicaaGreatDoor
namespace Go.Proofs.YtjhcfpdgldpicaaGreatDoor
open Go Go.RowKit
def cellsF {α : Type} (f : α → List Value) (l : List α) : List Value := l.flatMap f
theorem cellsF_length {α : Type} {f : α → List Value} {k : Nat} (hf : ∀ x, (f x).length = k) : ∀ l : List α, (cellsF f l).length = l.length * k
 | [] => by simp [cellsF]
 | x :: l => by
  have := cellsF_length hf l
  simp only [cellsF, List.flatMap_cons, List.length_append, hf, List.length_cons, Nat.add_mul] at this ⊢
  omega
theorem cellsF_get {α : Type} {f : α → List Value} {k : Nat} (hf : ∀ x, (f x).length = k) : ∀ {l : List α} {i j : Nat} (h : i < l.length) (hj : j < k), (cellsF f l)[i * k + j]? = (f l[i])[j]?
 | [], i, j, h, _ => by simp at h
 | x :: l, 0, j, _, hj => by
  have := hf x
  simp only [cellsF, List.flatMap_cons, Nat.zero_mul, Nat.zero_add, List.getElem_cons_zero]
  rw [List.getElem?_append_left (by omega)]
 | x :: l, i + 1, j, h, hj => by
  have h1 := cellsF_get hf (l := l) (i := i) (j := j) (by simpa using h) hj
  have := hf x
  simp only [cellsF, List.flatMap_cons, List.getElem_cons_succ] at h1 ⊢
  rw [List.getElem?_append_right (by rw [Nat.add_mul]; omega), ← h1]
  congr 1
  rw [Nat.add_mul]; omega
theorem Bx.part {w : World} {B : Nat} {t : TypeId} {cs : Array Value} (h : Bx w B t cs) (k n o : Nat) (xs : List Value) (hx : ∀ j u, xs[j]? = some u → cs[o + j]? = some u) (hn : xs.length = n * k) : Rd w k (some ⟨B, o, none⟩) n xs :=
 ⟨hn, fun _ => ⟨B, o, rfl, h.lt, fun j u hu => (h.cell (o + j)).trans (hx j u hu)⟩⟩
end Go.Proofs.YtjhcfpdgldpicaaGreatDoor
