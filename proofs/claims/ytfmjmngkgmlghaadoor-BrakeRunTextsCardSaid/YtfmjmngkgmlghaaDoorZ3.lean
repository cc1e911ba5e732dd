/- A text cut at a byte: the library's functions. No conditions on a program. -/
import Derived.Test.YtfmjmngkgmlghaaDoorT0
import Derived.Test.YtfmjmngkgmlghaaDoorZ2
namespace Go.Proofs.YtfmjmngkgmlghaaDoor
open Go Go.RowKit Go.Proofs Go.Lib
set_option linter.unusedSimpArgs false
set_option linter.unusedVariables false
theorem z3_hcf102 : ∀ args w, (callFunc 102 args).run Tryd.prog w = .ok (.enter 102 args) w := fun _ _ => by kernel_rfl
theorem z3_hcf51 : ∀ args w, (callFunc 51 args).run Tryd.prog w = .ok (.enter 51 args) w := fun _ _ => by kernel_rfl
theorem z3_hcf81 : ∀ args w, (callFunc 81 args).run Tryd.prog w = .ok (.enter 81 args) w := fun _ _ => by kernel_rfl

/-- The text of these bytes. -/
def bs (l : List UInt8) : ByteArray := ⟨l.toArray⟩
theorem bs_app (a b : List UInt8) : bs a ++ bs b = bs (a ++ b) := by
  apply ByteArray.ext
  rw [ByteArray.data_append]
  simp [bs]
theorem bs_size (l : List UInt8) : (bs l).size = l.length := rfl
theorem bs_list (l : List UInt8) : (bs l).data.toList = l := rfl
theorem bs_toList (l : List UInt8) : (bs l).toList = l := by
  have := extract_toList (bs l) 0 (bs l).size
  rw [ByteArray.extract_zero_size] at this
  rw [this, bs_list, bs_size]; simp
theorem bs_self (s : ByteArray) : bs s.data.toList = s := rfl
theorem bs_ext (l : List UInt8) (a b : Nat) : (bs l).extract a b = bs ((l.drop a).take (b - a)) := by
  have h := extract_data (bs l) a b
  rw [bs_list] at h
  rw [← bs_self ((bs l).extract a b), h]
theorem idx_ge (l : List UInt8) (c : UInt8) : -1 ≤ indexByte l c ∧ indexByte l c < l.length := by
  induction l with
  | nil => simp [indexByte]
  | cons a l ih =>
    simp only [indexByte, List.length_cons]
    split
    · omega
    · split
      · omega
      · omega
theorem idx_self (c : UInt8) : indexByte [c] c = 0 := by simp [indexByte]
set_option maxRecDepth 100000 in
set_option maxHeartbeats 4000000 in
theorem index1_ok (l : List UInt8) (c : UInt8) (hs : l.length ≤ 1000000000) : FnOk Tryd.prog 81 [.v (.string (bs l)), .v (.string (bs [c]))] (fun q => q = .v (.int .i64 (indexByte l c))) := by
  have hz : (bs [c]).size = 1 := rfl
  have hc : ((c.toNat : Int)).toNat.toUInt8 = c := by simp
  refine fnOk_of (fn := Tryd.f81) 143 (by kernel_rfl) rfl (by kernel_rfl) (Nat.le_of_ble_eq_true rfl) ?_
  intro e_0 m_0 hA hm_0
  have s0_0 : evA e_0 (.tmp 0) = _ := hA 0 _ rfl
  have s1_0 : evA e_0 (.tmp 1) = _ := hA 1 _ rfl
  have ml_0 : m_0.length = 0 := by rw [hm_0]; rfl
  clear hA hm_0
  refine aw_seq <| at_ <| ar (ro_assign ev_c) rfl <| ae2 (up_m rfl s0_0) (up_m rfl s1_0) ?_; clear s0_0 s1_0; intro e_1 s0_1 s1_1
  refine then_n <| aw_seq <| at_ <| ar (ro_move s1_1) rfl <| ar (ro_len_str up_h rfl qun9) rfl <| ar (ro_assign up_h) rfl <| ae3 (up_m rfl (u2 rfl s0_1)) (up_m rfl (u2 rfl s1_1)) up_h ?_; clear s0_1 s1_1; intro e_2 s0_2 s1_2 s5_2
  refine then_n <| aw_seq <| aw_block <| aw_seq <| at_ <| ar (ro_move s5_2) rfl <| ar (ro_eql up_h ev_c) rfl ?_
  refine ar (ro_move up_h) rfl <| al_case up_h (fun hb_3 hq_3 => ?_) (fun hb_3 hq_3 => ?_)
  · replace hq_3 := bt hq_3; cases hq_3
  replace hq_3 := bf hq_3
  refine al_ro' (ro_move (up_m rfl (u2 rfl s1_2))) ⟨_, rfl, hb_3⟩ rfl ?_
  refine al_ro' (ro_move (u4 rfl s0_2)) ⟨_, rfl, (up_m rfl hb_3)⟩ rfl ?_
  refine al_ro' (ro_seql (up_m rfl up_h) up_h) ⟨_, rfl, (u2 rfl hb_3)⟩ rfl ?_
  refine ar (ro_pickF (up_m rfl (u2 rfl hb_3)) up_h) rfl <| ar (ro_assign up_h) rfl <| ae4 (u8 rfl s0_2) (u8 rfl s1_2) (u8 rfl s5_2) up_h ?_; clear hb_3 s0_2 s1_2 s5_2; intro e_7 s0_7 s1_7 s5_7 s16_7
  refine then_n <| aw_case s16_7 (fun hq_8 => ?_) (fun hq_8 => ?_)
  ·skip
   refine aw_seq <| at_ <| ar (ro_assign ev_c) rfl <| ae1 up_h ?_; clear s0_7 s16_7 s1_7 s5_7; intro e_9 s4_9
   refine then_n <| aw_ret <| block_r <| then_r <| ret1 (.inr rfl) (by kernel_rfl) (resV_tmp s4_9) (.ro _ rfl) ?_
   clear s4_9  ml_0
   (first | rfl | (have hq := hq_8; rw [bs_toList, bs_toList] at hq; have hl : l = [c] := (beq_iff_eq.1 hq).symm; rw [hl, idx_self]; done) | (rw [bs_list, bs_list]; have hd : ([c] : List UInt8).getD (Int.toNat 0) default = c := rfl; rw [hd, hc]))
  refine aw_seq <| at_ <| ar (ro_move s5_7) rfl <| ar (ro_eql up_h ev_c) rfl ?_
  refine ar (ro_assign up_h) rfl <| ae4 (up_m rfl (u2 rfl s0_7)) (up_m rfl (u2 rfl s1_7)) (up_m rfl (u2 rfl s5_7)) up_h ?_; clear s0_7 s16_7 s1_7 s5_7; intro e_10 s0_10 s1_10 s5_10 s24_10
  refine then_n <| aw_case s24_10 (fun hq_11 => ?_) (fun hq_11 => ?_)
  ·replace hq_11 := bt hq_11
   refine aw_seq <| at_ <| ar (ro_move s0_10) rfl <| ar (ro_move (up_m rfl s1_10)) rfl <| ar (ro_sindex up_h ev_c qun9 (by decide) (by refine idx_str ?_; first | omega | (simp <;> omega; done) | (refine Nat.lt_of_lt_of_le (m := 256) ?_ (by decide +kernel); omega))) rfl ?_
   refine ar (ro_call (evL_cons (u2 rfl up_h) (evL_cons up_h evL_nil)) rfl (indexByte_ok (bs l) _) z3_hcf102) rfl <| ar (ro_assign up_h) rfl <| ae1 up_h ?_; clear s0_10 s1_10 s24_10 s5_10; intro e_12 s4_12
   refine then_n <| aw_ret <| block_r <| then_r <| ret1 (.inr rfl) (by kernel_rfl) (resV_tmp s4_12) (.ro _ rfl) ?_
   clear s4_12  ml_0
   (first | rfl | (have hq := hq_8; rw [bs_toList, bs_toList] at hq; have hl : l = [c] := (beq_iff_eq.1 hq).symm; rw [hl, idx_self]; done) | (rw [bs_list, bs_list]; have hd : ([c] : List UInt8).getD (Int.toNat 0) default = c := rfl; rw [hd, hc]))
  · replace hq_11 := bf hq_11; exfalso; omega
/-- A text before and behind the first such byte. -/
def cutA (l : List UInt8) (c : UInt8) : List UInt8 := if 0 ≤ indexByte l c then l.take (indexByte l c).toNat else l
def cutB (l : List UInt8) (c : UInt8) : List UInt8 := if 0 ≤ indexByte l c then l.drop ((indexByte l c).toNat + 1) else []
set_option maxRecDepth 100000 in
set_option maxHeartbeats 4000000 in
theorem cutL_ok (l : List UInt8) (c : UInt8) (hs : l.length ≤ 1000000000) : FnOk Tryd.prog 51 [.v (.string (bs l)), .v (.string (bs [c]))] (fun q => q = .tuple [.v (.string (bs (cutA l c))), .v (.string (bs (cutB l c))), .v (.bool (decide (0 ≤ indexByte l c)))]) := by
  have hz : (bs [c]).size = 1 := rfl
  have hl : (bs l).size = l.length := rfl
  obtain ⟨i1, i2⟩ := idx_ge l c
  refine fnOk_of (fn := Tryd.f51) 23 (by kernel_rfl) rfl (by kernel_rfl) (Nat.le_of_ble_eq_true rfl) ?_
  intro e_0 m_0 hA hm_0
  have s0_0 : evA e_0 (.tmp 0) = _ := hA 0 _ rfl
  have s1_0 : evA e_0 (.tmp 1) = _ := hA 1 _ rfl
  have ml_0 : m_0.length = 0 := by rw [hm_0]; rfl
  clear hA hm_0
  refine aw_seq <| at_ <| ar (ro_assign ev_c) rfl <| ar (ro_assign ev_c) rfl <| ar (ro_assign ev_c) rfl <| ae2 (up_m rfl (u2 rfl s0_0)) (up_m rfl (u2 rfl s1_0)) ?_; clear s0_0 s1_0; intro e_1 s0_1 s1_1
  refine then_n <| aw_seq <| aw_seq <| at_ <| ar (ro_move s0_1) rfl <| ar (ro_move (up_m rfl s1_1)) rfl <| ar (ro_call (evL_cons (up_m rfl up_h) (evL_cons up_h evL_nil)) rfl (index1_ok l c hs) z3_hcf81) rfl <| ar (ro_assign up_h) rfl <| ae3 (u4 rfl s0_1) (u4 rfl s1_1) up_h ?_; clear s0_1 s1_1; intro e_2 s0_2 s1_2 s7_2
  refine then_n <| aw_seq <| at_ <| ar (ro_move s7_2) rfl <| ar (ro_geq up_h ev_c) rfl <| ae4 (u2 rfl s0_2) (u2 rfl s1_2) (u2 rfl s7_2) up_h ?_; clear s0_2 s1_2 s7_2; intro e_3 s0_3 s1_3 s7_3 s12_3
  refine then_n <| aw_case s12_3 (fun hq_4 => ?_) (fun hq_4 => ?_)
  ·replace hq_4 := bt hq_4
   refine aw_seq <| aw_draw 12 (by kernel_rfl) (by kernel_rfl) (by kernel_rfl) (by kernel_rfl) ?_
   refine dr (ro_move s0_3) rfl <| dr (ro_move (up_m rfl s7_3)) rfl <| dr (ro_sshi (up_m rfl up_h) up_h qun9 (by omega) (by omega)) rfl ?_
   refine dr (ro_move (up_m rfl (u2 rfl s0_3))) rfl <| dr (ro_move (u4 rfl s7_3)) rfl <| dr (ro_move (up_m rfl (u4 rfl s1_3))) rfl <| dr (ro_len_str up_h rfl qun9) rfl ?_
   (refine dr (ro_add' (u2 rfl up_h) up_h ?_) rfl ?_; · (unfold In64; omega))
   refine dr (ro_sslo (u4 rfl up_h) up_h qun9 (by omega) (by omega)) rfl ?_
   refine dr (ro_assign (u2 rfl (u4 rfl up_h))) rfl <| dr (ro_assign (up_m rfl up_h)) rfl <| dr (ro_assign ev_c) rfl <| ds_nil <| ae3 (u2 rfl up_h) (up_m rfl up_h) up_h ?_; clear s0_3 s12_3 s1_3 s7_3; intro e_5 s4_5 s5_5 s6_5
   refine then_n <| aw_ret <| then_r <| ret3 (.inr rfl) (by kernel_rfl) (resV_tmp s4_5) (resV_tmp s5_5) (resV_tmp s6_5) (.ro _ rfl) (.ro _ rfl) (.ro _ rfl) ?_
   clear s4_5 s5_5 s6_5  ml_0
   (have hq : 0 ≤ indexByte l c := (by assumption); rw [hz, hl, bs_ext, bs_ext]; unfold cutA cutB; rw [if_pos hq, if_pos hq, decide_eq_true hq]; have e1 : (indexByte l c + ((1 : Nat) : Int)).toNat = (indexByte l c).toNat + 1 := (by omega); have e2 : ∀ k : Nat, (l.drop k).take (l.length - k) = l.drop k := (fun k => List.take_of_length_le (by simp)); rw [e1, e2]; simp)
  replace hq_4 := bf hq_4
  refine aw_skip <| then_n <| aw_seq <| at_ <| ar (ro_move s0_3) rfl <| ar (ro_assign up_h) rfl <| ar (ro_assign ev_c) rfl <| ar (ro_assign ev_c) rfl <| ae3 (u2 rfl up_h) (up_m rfl up_h) up_h ?_; clear s0_3 s12_3 s1_3 s7_3; intro e_6 s4_6 s5_6 s6_6
  refine then_n <| aw_ret <| ret3 (.inr rfl) (by kernel_rfl) (resV_tmp s4_6) (resV_tmp s5_6) (resV_tmp s6_6) (.ro _ rfl) (.ro _ rfl) (.ro _ rfl) ?_
  clear s4_6 s5_6 s6_6  ml_0
  (have hq : ¬ 0 ≤ indexByte l c := (by assumption); unfold cutA cutB; rw [if_neg hq, if_neg hq, decide_eq_false hq]; rfl)
set_option maxRecDepth 100000 in
set_option maxHeartbeats 4000000 in
theorem cut_ok (l : List UInt8) (c : UInt8) (hs : l.length ≤ 1000000000) : FnOk Tryd.prog 25 [.v (.string (bs l)), .v (.string (bs [c]))] (fun q => q = .tuple [.v (.string (bs (cutA l c))), .v (.string (bs (cutB l c))), .v (.bool (decide (0 ≤ indexByte l c)))]) := by
  refine fnOk_of (fn := Tryd.f25) 13 (by kernel_rfl) rfl (by kernel_rfl) (Nat.le_of_ble_eq_true rfl) ?_
  intro e_0 m_0 hA hm_0
  have s0_0 : evA e_0 (.tmp 0) = _ := hA 0 _ rfl
  have s1_0 : evA e_0 (.tmp 1) = _ := hA 1 _ rfl
  have ml_0 : m_0.length = 0 := by rw [hm_0]; rfl
  clear hA hm_0
  refine aw_seq <| at_ <| ar (ro_assign ev_c) rfl <| ar (ro_assign ev_c) rfl <| ar (ro_assign ev_c) rfl <| ae2 (up_m rfl (u2 rfl s0_0)) (up_m rfl (u2 rfl s1_0)) ?_; clear s0_0 s1_0; intro e_1 s0_1 s1_1
  refine then_n <| aw_seq <| at_ <| ar (ro_move s0_1) rfl <| ar (ro_move (up_m rfl s1_1)) rfl <| ar (ro_call (evL_cons (up_m rfl up_h) (evL_cons up_h evL_nil)) rfl (cutL_ok l c hs) z3_hcf51) rfl <| ar (ro_extract up_h rfl) rfl <| ar (ro_extract (up_m rfl up_h) rfl) rfl <| ar (ro_extract (u2 rfl up_h) rfl) rfl <| ar (ro_assign (u2 rfl up_h)) rfl <| ar (ro_assign (u2 rfl up_h)) rfl <| ar (ro_assign (u2 rfl up_h)) rfl <| ae3 (u2 rfl up_h) (up_m rfl up_h) up_h ?_; clear s0_1 s1_1; intro e_2 s4_2 s5_2 s6_2
  refine then_n <| aw_ret <| ret3 (.inr rfl) (by kernel_rfl) (resV_tmp s4_2) (resV_tmp s5_2) (resV_tmp s6_2) (.ro _ rfl) (.ro _ rfl) (.ro _ rfl) ?_
  clear s4_2 s5_2 s6_2  ml_0
  rfl
end Go.Proofs.YtfmjmngkgmlghaaDoor
