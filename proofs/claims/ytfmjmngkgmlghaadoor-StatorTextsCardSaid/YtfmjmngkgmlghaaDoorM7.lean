/- Texts of this claim, one behind the other: lemmas for the statement. -/
import Derived.Test.YtfmjmngkgmlghaaDoorT0
import Derived.Test.YtfmjmngkgmlghaaDoorM6
import Derived.Test.YtfmjmngkgmlghaaDoorM1
import Derived.Lib.IndexLaws
import Derived.Test.YtfmjmngkgmlghaaDoorM4
/- A text cut at a byte: the library's functions. No conditions on a program. -/
namespace Go.Proofs.YtfmjmngkgmlghaaDoor
open Go Go.RowKit Go.Proofs Go.Lib
set_option linter.unusedSimpArgs false
set_option linter.unusedVariables false
theorem z3_hcf102 : ∀ args w, (callFunc 102 args).run Tryd.prog w = .ok (.enter 102 args) w := fun _ _ => by kernel_rfl
theorem z3_hcf51 : ∀ args w, (callFunc 51 args).run Tryd.prog w = .ok (.enter 51 args) w := fun _ _ => by kernel_rfl
theorem z3_hcf81 : ∀ args w, (callFunc 81 args).run Tryd.prog w = .ok (.enter 81 args) w := fun _ _ => by kernel_rfl

/-- The text of these bytes. -/
def bs (l : List UInt8) : ByteArray := ⟨l.toArray⟩
theorem bs_app (a b : List UInt8) : bs a ++ bs b = bs (a ++ b) := by
  apply ByteArray.ext
  rw [ByteArray.data_append]
  simp [bs]
theorem bs_size (l : List UInt8) : (bs l).size = l.length := rfl
theorem bs_list (l : List UInt8) : (bs l).data.toList = l := rfl
theorem bs_toList (l : List UInt8) : (bs l).toList = l := by
  have := extract_toList (bs l) 0 (bs l).size
  rw [ByteArray.extract_zero_size] at this
  rw [this, bs_list, bs_size]; simp
theorem bs_self (s : ByteArray) : bs s.data.toList = s := rfl
theorem bs_ext (l : List UInt8) (a b : Nat) : (bs l).extract a b = bs ((l.drop a).take (b - a)) := by
  have h := extract_data (bs l) a b
  rw [bs_list] at h
  rw [← bs_self ((bs l).extract a b), h]
theorem idx_ge (l : List UInt8) (c : UInt8) : -1 ≤ indexByte l c ∧ indexByte l c < l.length := by
  induction l with
  | nil => simp [indexByte]
  | cons a l ih =>
    simp only [indexByte, List.length_cons]
    split
    · omega
    · split
      · omega
      · omega
theorem idx_self (c : UInt8) : indexByte [c] c = 0 := by simp [indexByte]
set_option maxRecDepth 100000 in
set_option maxHeartbeats 4000000 in
theorem index1_ok (l : List UInt8) (c : UInt8) (hs : l.length ≤ 1000000000) : FnOk Tryd.prog 81 [.v (.string (bs l)), .v (.string (bs [c]))] (fun q => q = .v (.int .i64 (indexByte l c))) := by
  have hz : (bs [c]).size = 1 := rfl
  have hc : ((c.toNat : Int)).toNat.toUInt8 = c := by simp
  refine fnOk_of (fn := Tryd.f81) 143 (by kernel_rfl) rfl (by kernel_rfl) (Nat.le_of_ble_eq_true rfl) ?_
  intro e_0 m_0 hA hm_0
  have s0_0 : evA e_0 (.tmp 0) = _ := hA 0 _ rfl
  have s1_0 : evA e_0 (.tmp 1) = _ := hA 1 _ rfl
  have ml_0 : m_0.length = 0 := by rw [hm_0]; rfl
  clear hA hm_0
  refine aw_seq <| at_ <| ar (ro_assign ev_c) rfl <| ae2 (up_m rfl s0_0) (up_m rfl s1_0) ?_; clear s0_0 s1_0; intro e_1 s0_1 s1_1
  refine then_n <| aw_seq <| at_ <| ar (ro_move s1_1) rfl <| ar (ro_len_str up_h rfl qun9) rfl <| ar (ro_assign up_h) rfl <| ae3 (up_m rfl (u2 rfl s0_1)) (up_m rfl (u2 rfl s1_1)) up_h ?_; clear s0_1 s1_1; intro e_2 s0_2 s1_2 s5_2
  refine then_n <| aw_seq <| aw_block <| aw_seq <| at_ <| ar (ro_move s5_2) rfl <| ar (ro_eql up_h ev_c) rfl ?_
  refine ar (ro_move up_h) rfl <| al_case up_h (fun hb_3 hq_3 => ?_) (fun hb_3 hq_3 => ?_)
  · replace hq_3 := bt hq_3; cases hq_3
  replace hq_3 := bf hq_3
  refine al_ro' (ro_move (up_m rfl (u2 rfl s1_2))) ⟨_, rfl, hb_3⟩ rfl ?_
  refine al_ro' (ro_move (u4 rfl s0_2)) ⟨_, rfl, (up_m rfl hb_3)⟩ rfl ?_
  refine al_ro' (ro_seql (up_m rfl up_h) up_h) ⟨_, rfl, (u2 rfl hb_3)⟩ rfl ?_
  refine ar (ro_pickF (up_m rfl (u2 rfl hb_3)) up_h) rfl <| ar (ro_assign up_h) rfl <| ae4 (u8 rfl s0_2) (u8 rfl s1_2) (u8 rfl s5_2) up_h ?_; clear hb_3 s0_2 s1_2 s5_2; intro e_7 s0_7 s1_7 s5_7 s16_7
  refine then_n <| aw_case s16_7 (fun hq_8 => ?_) (fun hq_8 => ?_)
  ·skip
   refine aw_seq <| at_ <| ar (ro_assign ev_c) rfl <| ae1 up_h ?_; clear s0_7 s16_7 s1_7 s5_7; intro e_9 s4_9
   refine then_n <| aw_ret <| block_r <| then_r <| ret1 (.inr rfl) (by kernel_rfl) (resV_tmp s4_9) (.ro _ rfl) ?_
   clear s4_9  ml_0
   (first | rfl | (have hq := hq_8; rw [bs_toList, bs_toList] at hq; have hl : l = [c] := (beq_iff_eq.1 hq).symm; rw [hl, idx_self]; done) | (rw [bs_list, bs_list]; have hd : ([c] : List UInt8).getD (Int.toNat 0) default = c := rfl; rw [hd, hc]))
  refine aw_seq <| at_ <| ar (ro_move s5_7) rfl <| ar (ro_eql up_h ev_c) rfl ?_
  refine ar (ro_assign up_h) rfl <| ae4 (up_m rfl (u2 rfl s0_7)) (up_m rfl (u2 rfl s1_7)) (up_m rfl (u2 rfl s5_7)) up_h ?_; clear s0_7 s16_7 s1_7 s5_7; intro e_10 s0_10 s1_10 s5_10 s24_10
  refine then_n <| aw_case s24_10 (fun hq_11 => ?_) (fun hq_11 => ?_)
  ·replace hq_11 := bt hq_11
   refine aw_seq <| at_ <| ar (ro_move s0_10) rfl <| ar (ro_move (up_m rfl s1_10)) rfl <| ar (ro_sindex up_h ev_c qun9 (by decide) (by refine idx_str ?_; first | omega | (simp <;> omega; done) | (refine Nat.lt_of_lt_of_le (m := 256) ?_ (by decide +kernel); omega))) rfl ?_
   refine ar (ro_call (evL_cons (u2 rfl up_h) (evL_cons up_h evL_nil)) rfl (indexByte_ok (bs l) _) z3_hcf102) rfl <| ar (ro_assign up_h) rfl <| ae1 up_h ?_; clear s0_10 s1_10 s24_10 s5_10; intro e_12 s4_12
   refine then_n <| aw_ret <| block_r <| then_r <| ret1 (.inr rfl) (by kernel_rfl) (resV_tmp s4_12) (.ro _ rfl) ?_
   clear s4_12  ml_0
   (first | rfl | (have hq := hq_8; rw [bs_toList, bs_toList] at hq; have hl : l = [c] := (beq_iff_eq.1 hq).symm; rw [hl, idx_self]; done) | (rw [bs_list, bs_list]; have hd : ([c] : List UInt8).getD (Int.toNat 0) default = c := rfl; rw [hd, hc]))
  · replace hq_11 := bf hq_11; exfalso; omega
/-- A text before and behind the first such byte. -/
def cutA (l : List UInt8) (c : UInt8) : List UInt8 := if 0 ≤ indexByte l c then l.take (indexByte l c).toNat else l
def cutB (l : List UInt8) (c : UInt8) : List UInt8 := if 0 ≤ indexByte l c then l.drop ((indexByte l c).toNat + 1) else []
set_option maxRecDepth 100000 in
set_option maxHeartbeats 4000000 in
theorem cutL_ok (l : List UInt8) (c : UInt8) (hs : l.length ≤ 1000000000) : FnOk Tryd.prog 51 [.v (.string (bs l)), .v (.string (bs [c]))] (fun q => q = .tuple [.v (.string (bs (cutA l c))), .v (.string (bs (cutB l c))), .v (.bool (decide (0 ≤ indexByte l c)))]) := by
  have hz : (bs [c]).size = 1 := rfl
  have hl : (bs l).size = l.length := rfl
  obtain ⟨i1, i2⟩ := idx_ge l c
  refine fnOk_of (fn := Tryd.f51) 23 (by kernel_rfl) rfl (by kernel_rfl) (Nat.le_of_ble_eq_true rfl) ?_
  intro e_0 m_0 hA hm_0
  have s0_0 : evA e_0 (.tmp 0) = _ := hA 0 _ rfl
  have s1_0 : evA e_0 (.tmp 1) = _ := hA 1 _ rfl
  have ml_0 : m_0.length = 0 := by rw [hm_0]; rfl
  clear hA hm_0
  refine aw_seq <| at_ <| ar (ro_assign ev_c) rfl <| ar (ro_assign ev_c) rfl <| ar (ro_assign ev_c) rfl <| ae2 (up_m rfl (u2 rfl s0_0)) (up_m rfl (u2 rfl s1_0)) ?_; clear s0_0 s1_0; intro e_1 s0_1 s1_1
  refine then_n <| aw_seq <| aw_seq <| at_ <| ar (ro_move s0_1) rfl <| ar (ro_move (up_m rfl s1_1)) rfl <| ar (ro_call (evL_cons (up_m rfl up_h) (evL_cons up_h evL_nil)) rfl (index1_ok l c hs) z3_hcf81) rfl <| ar (ro_assign up_h) rfl <| ae3 (u4 rfl s0_1) (u4 rfl s1_1) up_h ?_; clear s0_1 s1_1; intro e_2 s0_2 s1_2 s7_2
  refine then_n <| aw_seq <| at_ <| ar (ro_move s7_2) rfl <| ar (ro_geq up_h ev_c) rfl <| ae4 (u2 rfl s0_2) (u2 rfl s1_2) (u2 rfl s7_2) up_h ?_; clear s0_2 s1_2 s7_2; intro e_3 s0_3 s1_3 s7_3 s12_3
  refine then_n <| aw_case s12_3 (fun hq_4 => ?_) (fun hq_4 => ?_)
  ·replace hq_4 := bt hq_4
   refine aw_seq <| aw_draw 12 (by kernel_rfl) (by kernel_rfl) (by kernel_rfl) (by kernel_rfl) ?_
   refine dr (ro_move s0_3) rfl <| dr (ro_move (up_m rfl s7_3)) rfl <| dr (ro_sshi (up_m rfl up_h) up_h qun9 (by omega) (by omega)) rfl ?_
   refine dr (ro_move (up_m rfl (u2 rfl s0_3))) rfl <| dr (ro_move (u4 rfl s7_3)) rfl <| dr (ro_move (up_m rfl (u4 rfl s1_3))) rfl <| dr (ro_len_str up_h rfl qun9) rfl ?_
   (refine dr (ro_add' (u2 rfl up_h) up_h ?_) rfl ?_; · (unfold In64; omega))
   refine dr (ro_sslo (u4 rfl up_h) up_h qun9 (by omega) (by omega)) rfl ?_
   refine dr (ro_assign (u2 rfl (u4 rfl up_h))) rfl <| dr (ro_assign (up_m rfl up_h)) rfl <| dr (ro_assign ev_c) rfl <| ds_nil <| ae3 (u2 rfl up_h) (up_m rfl up_h) up_h ?_; clear s0_3 s12_3 s1_3 s7_3; intro e_5 s4_5 s5_5 s6_5
   refine then_n <| aw_ret <| then_r <| ret3 (.inr rfl) (by kernel_rfl) (resV_tmp s4_5) (resV_tmp s5_5) (resV_tmp s6_5) (.ro _ rfl) (.ro _ rfl) (.ro _ rfl) ?_
   clear s4_5 s5_5 s6_5  ml_0
   (have hq : 0 ≤ indexByte l c := (by assumption); rw [hz, hl, bs_ext, bs_ext]; unfold cutA cutB; rw [if_pos hq, if_pos hq, decide_eq_true hq]; have e1 : (indexByte l c + ((1 : Nat) : Int)).toNat = (indexByte l c).toNat + 1 := (by omega); have e2 : ∀ k : Nat, (l.drop k).take (l.length - k) = l.drop k := (fun k => List.take_of_length_le (by simp)); rw [e1, e2]; simp)
  replace hq_4 := bf hq_4
  refine aw_skip <| then_n <| aw_seq <| at_ <| ar (ro_move s0_3) rfl <| ar (ro_assign up_h) rfl <| ar (ro_assign ev_c) rfl <| ar (ro_assign ev_c) rfl <| ae3 (u2 rfl up_h) (up_m rfl up_h) up_h ?_; clear s0_3 s12_3 s1_3 s7_3; intro e_6 s4_6 s5_6 s6_6
  refine then_n <| aw_ret <| ret3 (.inr rfl) (by kernel_rfl) (resV_tmp s4_6) (resV_tmp s5_6) (resV_tmp s6_6) (.ro _ rfl) (.ro _ rfl) (.ro _ rfl) ?_
  clear s4_6 s5_6 s6_6  ml_0
  (have hq : ¬ 0 ≤ indexByte l c := (by assumption); unfold cutA cutB; rw [if_neg hq, if_neg hq, decide_eq_false hq]; rfl)
set_option maxRecDepth 100000 in
set_option maxHeartbeats 4000000 in
theorem cut_ok (l : List UInt8) (c : UInt8) (hs : l.length ≤ 1000000000) : FnOk Tryd.prog 25 [.v (.string (bs l)), .v (.string (bs [c]))] (fun q => q = .tuple [.v (.string (bs (cutA l c))), .v (.string (bs (cutB l c))), .v (.bool (decide (0 ≤ indexByte l c)))]) := by
  refine fnOk_of (fn := Tryd.f25) 13 (by kernel_rfl) rfl (by kernel_rfl) (Nat.le_of_ble_eq_true rfl) ?_
  intro e_0 m_0 hA hm_0
  have s0_0 : evA e_0 (.tmp 0) = _ := hA 0 _ rfl
  have s1_0 : evA e_0 (.tmp 1) = _ := hA 1 _ rfl
  have ml_0 : m_0.length = 0 := by rw [hm_0]; rfl
  clear hA hm_0
  refine aw_seq <| at_ <| ar (ro_assign ev_c) rfl <| ar (ro_assign ev_c) rfl <| ar (ro_assign ev_c) rfl <| ae2 (up_m rfl (u2 rfl s0_0)) (up_m rfl (u2 rfl s1_0)) ?_; clear s0_0 s1_0; intro e_1 s0_1 s1_1
  refine then_n <| aw_seq <| at_ <| ar (ro_move s0_1) rfl <| ar (ro_move (up_m rfl s1_1)) rfl <| ar (ro_call (evL_cons (up_m rfl up_h) (evL_cons up_h evL_nil)) rfl (cutL_ok l c hs) z3_hcf51) rfl <| ar (ro_extract up_h rfl) rfl <| ar (ro_extract (up_m rfl up_h) rfl) rfl <| ar (ro_extract (u2 rfl up_h) rfl) rfl <| ar (ro_assign (u2 rfl up_h)) rfl <| ar (ro_assign (u2 rfl up_h)) rfl <| ar (ro_assign (u2 rfl up_h)) rfl <| ae3 (u2 rfl up_h) (up_m rfl up_h) up_h ?_; clear s0_1 s1_1; intro e_2 s4_2 s5_2 s6_2
  refine then_n <| aw_ret <| ret3 (.inr rfl) (by kernel_rfl) (resV_tmp s4_2) (resV_tmp s5_2) (resV_tmp s6_2) (.ro _ rfl) (.ro _ rfl) (.ro _ rfl) ?_
  clear s4_2 s5_2 s6_2  ml_0
  rfl
end Go.Proofs.YtfmjmngkgmlghaaDoor

/- The reference's numerals: written. No conditions on a program. -/
namespace Go.Proofs.YtfmjmngkgmlghaaDoor
open Go Go.RowKit Go.Proofs Go.Lib
set_option linter.unusedSimpArgs false
set_option linter.unusedVariables false
theorem z4_hcf56 : ∀ args w, (callFunc 56 args).run Tryd.prog w = .ok (.enter 56 args) w := fun _ _ => by kernel_rfl
theorem z4_sl113 : SlIs Tryd.prog 113 5 1 1 (.int .u8 0) := ⟨by kernel_rfl, by kernel_rfl, by kernel_rfl⟩
theorem z4_u85 : Tryd.prog.underlying 5 = some (.int .u8) := by kernel_rfl
theorem z4_us113 : Tryd.prog.underlying 113 = some (.slice 5) := by kernel_rfl

/-- What is written, and what is left to write. -/
def decI (n m : Int) (l : List UInt8) : Prop := (m = 0 ∧ l = decDigits n.natAbs) ∨ (m ≠ 0 ∧ decDigits m.natAbs ++ l = decDigits n.natAbs)
theorem decI_step {n m : Int} {l : List UInt8} (hm : m ≠ 0) (h : decI n m l) {x : UInt8} (hx : x = UInt8.ofNat (48 + (m.tmod 10).natAbs)) : decI n (m.tdiv 10) ([x] ++ l) := by
  have hd : (m.tdiv 10).natAbs = m.natAbs / 10 := by rw [Int.natAbs_tdiv]; rfl
  have hr : (m.tmod 10).natAbs = m.natAbs % 10 := by rw [Int.natAbs_tmod]; rfl
  subst hx
  rw [hr]
  rcases h with ⟨h0, _⟩ | ⟨_, h1⟩
  · exact absurd h0 hm
  · by_cases h2 : m.natAbs < 10
    · left
      refine ⟨by omega, ?_⟩
      rw [← h1, dec_small h2, Nat.mod_eq_of_lt h2]
    · right
      refine ⟨by omega, ?_⟩
      rw [← h1, dec_big h2, hd]; simp
theorem decI_len {n m : Int} {l : List UInt8} (hn : In64 n) (h : decI n m l) : l.length ≤ 25 := by
  have := itoa_length_le n (by unfold In64 at hn; omega) (by unfold In64 at hn; omega)
  have h2 : (decDigits n.natAbs).length ≤ (itoa n).length := by
    unfold itoa
    split
    · simp
    · rw [show n.toNat = n.natAbs by omega]; exact Nat.le_refl _
  rcases h with ⟨_, h1⟩ | ⟨_, h1⟩
  · rw [h1]; omega
  · have := congrArg List.length h1
    rw [List.length_append] at this
    omega
theorem tdm (m : Int) : (m.tmod 10).natAbs ≤ 9 ∧ (m.tdiv 10).natAbs = m.natAbs / 10 := by
  have hd : (m.tdiv 10).natAbs = m.natAbs / 10 := by rw [Int.natAbs_tdiv]; rfl
  have hr : (m.tmod 10).natAbs = m.natAbs % 10 := by rw [Int.natAbs_tmod]; rfl
  omega
theorem sizeW_abs (m : Int) : sizeW m = m.natAbs := by unfold sizeW; omega
set_option maxRecDepth 100000 in
set_option maxHeartbeats 4000000 in
theorem decimal_ok (n : Int) (hn : In64 n) : FnOk Tryd.prog 32 [.v (.int .i64 n)] (fun q => q = .v (.string (bs (itoa n)))) := by
  have hn' := hn
  unfold In64 at hn'
  refine fnOk_of (fn := Tryd.f32) 27 (by kernel_rfl) rfl (by kernel_rfl) (Nat.le_of_ble_eq_true rfl) ?_
  intro e_0 m_0 hA hm_0
  have s0_0 : evA e_0 (.tmp 0) = _ := hA 0 _ rfl
  have ml_0 : m_0.length = 0 := by rw [hm_0]; rfl
  clear hA hm_0
  refine aw_seq <| at_ <| ar (ro_assign ev_c) rfl <| ae1 (up_m rfl s0_0) ?_; clear s0_0; intro e_1 s0_1
  refine then_n <| aw_seq <| aw_seq <| at_ <| ar (ro_move s0_1) rfl <| ar (ro_eql up_h ev_c) rfl ?_
  refine ae2 (u2 rfl s0_1) up_h ?_; clear s0_1; intro e_2 s0_2 s7_2
  refine then_n <| aw_case s7_2 (fun hq_3 => ?_) (fun hq_3 => ?_)
  · (first | replace hq_3 := bnt hq_3 | replace hq_3 := bnf hq_3 | replace hq_3 := bt hq_3 | replace hq_3 := bf hq_3 | replace hq_3 := bt' hq_3 | replace hq_3 := bf' hq_3 | skip)
    first
    | (cases hq_3; done) | (exfalso; omega)
    | (
       refine aw_seq <| at_ <| ar (ro_assign ev_c) rfl <| ae1 up_h ?_; clear s0_2 s7_2; intro e_4 s2_4
       refine then_n <| aw_ret <| then_r <| ret1 (.inr rfl) (by kernel_rfl) (resV_tmp s2_4) (.ro _ rfl) ?_
       clear s2_4  ml_0
       (have h0 : n = 0 := (by omega); rw [h0]; unfold itoa; rw [if_neg (by decide), show (0 : Int).toNat = 0 from rfl, dec_small (by decide)]; rfl))
  · (first | replace hq_3 := bnt hq_3 | replace hq_3 := bnf hq_3 | replace hq_3 := bt hq_3 | replace hq_3 := bf hq_3 | replace hq_3 := bt' hq_3 | replace hq_3 := bf' hq_3 | skip)
    first
    | (cases hq_3; done) | (exfalso; omega)
    | (
       refine aw_skip <| then_n <| aw_seq <| at_ <| ar (ro_assign ev_c) rfl <| ar (ro_assign ev_c) rfl <| ae3 (u2 rfl s0_2) (up_m rfl up_h) up_h ?_; clear s0_2 s7_2; intro e_5 s0_5 s3_5 s4_5
       refine then_n <| aw_seq <| aw_seq <| at_ <| ar (ro_move s0_5) rfl <| ar (ro_lss up_h ev_c) rfl <| ae4 (u2 rfl s0_5) (u2 rfl s3_5) (u2 rfl s4_5) up_h ?_; clear s0_5 s3_5 s4_5; intro e_6 s0_6 s3_6 s4_6 s9_6
       refine then_n <| aw_case s9_6 (fun hq_7 => ?_) (fun hq_7 => ?_)
       · (first | replace hq_7 := bnt hq_7 | replace hq_7 := bnf hq_7 | replace hq_7 := bt hq_7 | replace hq_7 := bf hq_7 | replace hq_7 := bt' hq_7 | replace hq_7 := bf' hq_7 | skip)
         first
         | (cases hq_7; done) | (exfalso; omega)
         | (
            refine at_ <| ar (ro_assign ev_c) rfl <| ae3 (up_m rfl s0_6) (up_m rfl s3_6) up_h ?_; clear s0_6 s3_6 s4_6 s9_6; intro e_8 s0_8 s3_8 s4_8
            refine then_n <| aw_seq <| aw_block <| aw_loop (S := (Int × List UInt8)) (fun s e mem => match s with | ⟨m, l⟩ => (evA e (.tmp 0) = .v (.int .i64 m)) ∧ (evA e (.tmp 3) = .v (.string (bs l))) ∧ (evA e (.tmp 4) = evA e_8 (.tmp 4)) ∧ (mem.length = 0) ∧ ((m.natAbs ≤ n.natAbs ∧ decI n m l))) (fun s => match s with | ⟨m, l⟩ => m.natAbs) ⟨_, []⟩ ⟨s0_8, s3_8, rfl, ml_0, ?_⟩ ?_
            · (exact ⟨by omega, .inr ⟨by omega, by simp⟩⟩)
            · rintro ⟨m, l⟩ e_9 m_9 ⟨s0_9, s3_9, k4_9, ml_9, hinv⟩
              have s4_9 := k4_9.trans s4_8
              (obtain ⟨p1, p2⟩ := hinv; obtain ⟨t1, t2⟩ := tdm m; have hsz := sizeW_abs (m.tmod 10); have hll := decI_len hn p2; have hbl := bs_size l)
              refine aw_seq <| aw_seq <| at_ <| ar (ro_move s0_9) rfl <| ar (ro_neq up_h ev_c) rfl <| ae4 (u2 rfl s0_9) (u2 rfl s3_9) (u2 rfl s4_9) up_h ?_; clear s0_9 s3_9 s4_9; intro e_10 s0_10 s3_10 s4_10 s11_10
              refine then_n <| aw_case s11_10 (fun hq_11 => ?_) (fun hq_11 => ?_)
              · (first | replace hq_11 := bnt hq_11 | replace hq_11 := bnf hq_11 | replace hq_11 := bt hq_11 | replace hq_11 := bf hq_11 | replace hq_11 := bt' hq_11 | replace hq_11 := bf' hq_11 | skip)
                first
                | (cases hq_11; done) | (exfalso; omega)
                | (
                   refine aw_skip <| then_n <| aw_block <| aw_seq <| at_ <| ar (ro_move s0_10) rfl <| ar (ro_rem up_h ev_c (by first | decide | omega)) rfl ?_
                   refine ar (ro_assign up_h) rfl <| ae4 (up_m rfl (u2 rfl s0_10)) (up_m rfl (u2 rfl s3_10)) (up_m rfl (u2 rfl s4_10)) up_h ?_; clear s0_10 s11_10 s3_10 s4_10; intro e_12 s0_12 s3_12 s4_12 s5_12
                   refine then_n <| aw_seq <| at_ <| ar (ro_move s5_12) rfl <| ar (ro_call (evL_cons up_h evL_nil) rfl (bSize_ok _ (by omega)) z4_hcf56) rfl ?_
                   first | (refine ar (ro_add' ev_c up_h ?_) rfl ?_; · (first | ((first | unfold In64 | unfold InU64 | unfold InU8); omega) | (simp only [ByteArray.size_append, size_mk, List.length_cons, List.length_nil] <;> omega) | omega)) | (refine ar (ro_add ev_c up_h) rfl ?_)
                   first | (refine ar (ro_cvB up_h (by kernel_rfl) (by kernel_rfl) ?_) rfl ?_; · (first | ((first | unfold In64 | unfold InU64 | unfold InU8); omega) | (simp only [ByteArray.size_append, size_mk, List.length_cons, List.length_nil] <;> omega) | omega)) | (refine ar (ro_cv (k' := .u8) up_h (by kernel_rfl) (by kernel_rfl)) rfl ?_)
                   refine ar (ro_lit z4_sl113 (evP_cons up_h evP_nil) rfl rfl rfl rfl) rfl <| ar (ro_b2s z4_us113 qun9 z4_u85 up_h (by unfold InU8; omega)) rfl ?_
                   refine ar (ro_move (u2 rfl (u4 rfl s3_12))) rfl ?_
                   (refine ar (ro_sadd (up_m rfl up_h) up_h ?_) rfl ?_; · (first | ((first | unfold In64 | unfold InU64 | unfold InU8); omega) | (simp only [ByteArray.size_append, size_mk, List.length_cons, List.length_nil] <;> omega) | omega))
                   refine ar (ro_assign up_h) rfl <| ae3 (up_m rfl (u8 rfl s0_12)) up_h (up_m rfl (u8 rfl s4_12)) ?_; clear s0_12 s3_12 s4_12 s5_12; intro e_13 s0_13 s3_13 s4_13
                   refine then_n <| at_ <| ar (ro_move s0_13) rfl ?_
                   first | (refine ar (ro_quo' up_h ev_c (by first | decide | omega) ?_) rfl ?_; · (first | ((first | unfold In64 | unfold InU64 | unfold InU8); omega) | (simp only [ByteArray.size_append, size_mk, List.length_cons, List.length_nil] <;> omega) | omega)) | (refine ar (ro_quo up_h ev_c (by first | decide | omega)) rfl ?_)
                   refine ar (ro_assign up_h) rfl <| ae3 up_h (up_m rfl (u2 rfl s3_13)) (up_m rfl (u2 rfl s4_13)) ?_; clear s0_13 s3_13 s4_13; intro e_14 s0_14 s3_14 s4_14
                   refine block_n <| then_n <| ⟨⟨_, _⟩, ⟨s0_14, s3_14, (s4_14.trans s4_8.symm), ml_9, ?_⟩, ?_⟩
                   · (exact ⟨by omega, decI_step (by assumption) p2 (by congr 1; omega)⟩)
                   · ((try dsimp only); omega))
              · (first | replace hq_11 := bnt hq_11 | replace hq_11 := bnf hq_11 | replace hq_11 := bt hq_11 | replace hq_11 := bf hq_11 | replace hq_11 := bt' hq_11 | replace hq_11 := bf' hq_11 | skip)
                first
                | (cases hq_11; done) | (exfalso; omega)
                | (
                   refine aw_exit <| then_x <| then_x <| block_hit <| then_n <| aw_seq <| at_ <| ar (ro_move s4_10) rfl <| ar (ro_move (up_m rfl s3_10)) rfl ?_
                   (refine ar (ro_sadd (up_m rfl up_h) up_h ?_) rfl ?_; · (first | ((first | unfold In64 | unfold InU64 | unfold InU8); omega) | (simp only [ByteArray.size_append, size_mk, List.length_cons, List.length_nil] <;> omega) | omega))
                   refine ar (ro_assign up_h) rfl <| ae1 up_h ?_; clear s0_10 s11_10 s3_10 s4_10; intro e_15 s2_15
                   refine then_n <| aw_ret <| ret1 (.inr rfl) (by kernel_rfl) (resV_tmp s2_15) (.ro _ rfl) ?_
                   clear s2_15  ml_9
                   (rcases p2 with ⟨_, q2⟩ | ⟨q1, _⟩ <;> first | (exfalso; omega) | (unfold itoa; first | rw [if_pos (by omega), q2] | rw [if_neg (by omega), q2, show n.toNat = n.natAbs by omega]); rfl)))
       · (first | replace hq_7 := bnt hq_7 | replace hq_7 := bnf hq_7 | replace hq_7 := bt hq_7 | replace hq_7 := bf hq_7 | replace hq_7 := bt' hq_7 | replace hq_7 := bf' hq_7 | skip)
         first
         | (cases hq_7; done) | (exfalso; omega)
         | (
            refine aw_skip <| then_n <| aw_seq <| aw_block <| aw_loop (S := (Int × List UInt8)) (fun s e mem => match s with | ⟨m, l⟩ => (evA e (.tmp 0) = .v (.int .i64 m)) ∧ (evA e (.tmp 3) = .v (.string (bs l))) ∧ (evA e (.tmp 4) = evA e_6 (.tmp 4)) ∧ (mem.length = 0) ∧ ((m.natAbs ≤ n.natAbs ∧ decI n m l))) (fun s => match s with | ⟨m, l⟩ => m.natAbs) ⟨_, []⟩ ⟨s0_6, s3_6, rfl, ml_0, ?_⟩ ?_
            · (exact ⟨by omega, .inr ⟨by omega, by simp⟩⟩)
            · rintro ⟨m, l⟩ e_16 m_16 ⟨s0_16, s3_16, k4_16, ml_16, hinv⟩
              have s4_16 := k4_16.trans s4_6
              (obtain ⟨p1, p2⟩ := hinv; obtain ⟨t1, t2⟩ := tdm m; have hsz := sizeW_abs (m.tmod 10); have hll := decI_len hn p2; have hbl := bs_size l)
              refine aw_seq <| aw_seq <| at_ <| ar (ro_move s0_16) rfl <| ar (ro_neq up_h ev_c) rfl <| ae4 (u2 rfl s0_16) (u2 rfl s3_16) (u2 rfl s4_16) up_h ?_; clear s0_16 s3_16 s4_16; intro e_17 s0_17 s3_17 s4_17 s11_17
              refine then_n <| aw_case s11_17 (fun hq_18 => ?_) (fun hq_18 => ?_)
              · (first | replace hq_18 := bnt hq_18 | replace hq_18 := bnf hq_18 | replace hq_18 := bt hq_18 | replace hq_18 := bf hq_18 | replace hq_18 := bt' hq_18 | replace hq_18 := bf' hq_18 | skip)
                first
                | (cases hq_18; done) | (exfalso; omega)
                | (
                   refine aw_skip <| then_n <| aw_block <| aw_seq <| at_ <| ar (ro_move s0_17) rfl <| ar (ro_rem up_h ev_c (by first | decide | omega)) rfl ?_
                   refine ar (ro_assign up_h) rfl <| ae4 (up_m rfl (u2 rfl s0_17)) (up_m rfl (u2 rfl s3_17)) (up_m rfl (u2 rfl s4_17)) up_h ?_; clear s0_17 s11_17 s3_17 s4_17; intro e_19 s0_19 s3_19 s4_19 s5_19
                   refine then_n <| aw_seq <| at_ <| ar (ro_move s5_19) rfl <| ar (ro_call (evL_cons up_h evL_nil) rfl (bSize_ok _ (by omega)) z4_hcf56) rfl ?_
                   first | (refine ar (ro_add' ev_c up_h ?_) rfl ?_; · (first | ((first | unfold In64 | unfold InU64 | unfold InU8); omega) | (simp only [ByteArray.size_append, size_mk, List.length_cons, List.length_nil] <;> omega) | omega)) | (refine ar (ro_add ev_c up_h) rfl ?_)
                   first | (refine ar (ro_cvB up_h (by kernel_rfl) (by kernel_rfl) ?_) rfl ?_; · (first | ((first | unfold In64 | unfold InU64 | unfold InU8); omega) | (simp only [ByteArray.size_append, size_mk, List.length_cons, List.length_nil] <;> omega) | omega)) | (refine ar (ro_cv (k' := .u8) up_h (by kernel_rfl) (by kernel_rfl)) rfl ?_)
                   refine ar (ro_lit z4_sl113 (evP_cons up_h evP_nil) rfl rfl rfl rfl) rfl <| ar (ro_b2s z4_us113 qun9 z4_u85 up_h (by unfold InU8; omega)) rfl ?_
                   refine ar (ro_move (u2 rfl (u4 rfl s3_19))) rfl ?_
                   (refine ar (ro_sadd (up_m rfl up_h) up_h ?_) rfl ?_; · (first | ((first | unfold In64 | unfold InU64 | unfold InU8); omega) | (simp only [ByteArray.size_append, size_mk, List.length_cons, List.length_nil] <;> omega) | omega))
                   refine ar (ro_assign up_h) rfl <| ae3 (up_m rfl (u8 rfl s0_19)) up_h (up_m rfl (u8 rfl s4_19)) ?_; clear s0_19 s3_19 s4_19 s5_19; intro e_20 s0_20 s3_20 s4_20
                   refine then_n <| at_ <| ar (ro_move s0_20) rfl ?_
                   first | (refine ar (ro_quo' up_h ev_c (by first | decide | omega) ?_) rfl ?_; · (first | ((first | unfold In64 | unfold InU64 | unfold InU8); omega) | (simp only [ByteArray.size_append, size_mk, List.length_cons, List.length_nil] <;> omega) | omega)) | (refine ar (ro_quo up_h ev_c (by first | decide | omega)) rfl ?_)
                   refine ar (ro_assign up_h) rfl <| ae3 up_h (up_m rfl (u2 rfl s3_20)) (up_m rfl (u2 rfl s4_20)) ?_; clear s0_20 s3_20 s4_20; intro e_21 s0_21 s3_21 s4_21
                   refine block_n <| then_n <| ⟨⟨_, _⟩, ⟨s0_21, s3_21, (s4_21.trans s4_6.symm), ml_16, ?_⟩, ?_⟩
                   · (exact ⟨by omega, decI_step (by assumption) p2 (by congr 1; omega)⟩)
                   · ((try dsimp only); omega))
              · (first | replace hq_18 := bnt hq_18 | replace hq_18 := bnf hq_18 | replace hq_18 := bt hq_18 | replace hq_18 := bf hq_18 | replace hq_18 := bt' hq_18 | replace hq_18 := bf' hq_18 | skip)
                first
                | (cases hq_18; done) | (exfalso; omega)
                | (
                   refine aw_exit <| then_x <| then_x <| block_hit <| then_n <| aw_seq <| at_ <| ar (ro_move s4_17) rfl <| ar (ro_move (up_m rfl s3_17)) rfl ?_
                   (refine ar (ro_sadd (up_m rfl up_h) up_h ?_) rfl ?_; · (first | ((first | unfold In64 | unfold InU64 | unfold InU8); omega) | (simp only [ByteArray.size_append, size_mk, List.length_cons, List.length_nil] <;> omega) | omega))
                   refine ar (ro_assign up_h) rfl <| ae1 up_h ?_; clear s0_17 s11_17 s3_17 s4_17; intro e_22 s2_22
                   refine then_n <| aw_ret <| ret1 (.inr rfl) (by kernel_rfl) (resV_tmp s2_22) (.ro _ rfl) ?_
                   clear s2_22  ml_16
                   (rcases p2 with ⟨_, q2⟩ | ⟨q1, _⟩ <;> first | (exfalso; omega) | (unfold itoa; first | rw [if_pos (by omega), q2] | rw [if_neg (by omega), q2, show n.toNat = n.natAbs by omega]); rfl))))
end Go.Proofs.YtfmjmngkgmlghaaDoor

/- The reference's numerals: read. No conditions on a program. -/
namespace Go.Proofs.YtfmjmngkgmlghaaDoor
open Go Go.RowKit Go.Proofs Go.Lib
set_option linter.unusedSimpArgs false
set_option linter.unusedVariables false

theorem getD_some {l : List UInt8} {k : Nat} (h : k < l.length) : l[k]? = some (l.getD k default) := by
  rw [List.getElem?_eq_getElem h, List.getD_eq_getElem?_getD, List.getElem?_eq_getElem h]; rfl
theorem u8_eq {b : UInt8} {n : Nat} (h : b.toNat = n) (hn : n < 256) : b = UInt8.ofNat n := by
  apply UInt8.toNat_inj.1; rw [UInt8.toNat_ofNat']; omega
theorem numA_dec (l : List UInt8) : numA l = 1 ↔ 0 < l.length ∧ (l.getD 0 default).toNat = 45 := by
  unfold numA
  constructor
  · intro h
    split at h
    · rename_i hq
      have hl := (List.getElem?_eq_some_iff.1 hq).1
      rw [getD_some hl] at hq
      exact ⟨hl, by rw [Option.some.inj hq]; rfl⟩
    · cases h
  · rintro ⟨h1, h2⟩
    rw [if_pos]
    rw [getD_some h1, u8_eq h2 (by decide)]; rfl
theorem numA_two (l : List UInt8) : numA l = 0 ∨ numA l = 1 := by unfold numA; split <;> omega
theorem num_no2 {l : List UInt8} {D : Nat} (h : numK l D = true) : numA l < l.length ∧ l.length - numA l ≤ D ∧ ((l.getD (numA l) default).toNat = 48 → l.length ≤ 1) ∧ ∀ k : Nat, numA l ≤ k → k < l.length → 48 ≤ (l.getD k default).toNat ∧ (l.getD k default).toNat ≤ 57 := by
  obtain ⟨h1, h2, h3, h4, _⟩ := num_no h
  have hlt : numA l < l.length := by
    have := List.length_pos_iff.2 h1
    rw [List.length_drop] at this; omega
  refine ⟨hlt, h2, fun h5 => ?_, fun k h5 h6 => h4 k _ h5 (getD_some h6)⟩
  by_cases h6 : l.length ≤ 1
  · exact h6
  · exact absurd ⟨by rw [getD_some hlt, u8_eq h5 (by decide)]; rfl, by omega⟩ h3
/-- The digits so far. -/
def numI (l : List UInt8) (i n : Int) : Prop := 0 ≤ n ∧ decFrom 0 ((l.drop (numA l)).take (i - numA l).toNat) = some n.toNat
theorem numI_start (l : List UInt8) {i : Int} (hi : i = numA l) : numI l i 0 := by
  refine ⟨by omega, ?_⟩
  rw [show (i - numA l).toNat = 0 by omega]; rfl
theorem numI_step {l : List UInt8} {i n : Int} (h : numI l i n) (h0 : (numA l : Int) ≤ i) (h1 : i < l.length) (h2 : 48 ≤ (l.getD i.toNat default).toNat ∧ (l.getD i.toNat default).toNat ≤ 57) {m : Int} (hm : m = 10 * n + ((l.getD i.toNat default).toNat - 48)) : numI l (i + 1) m := by
  obtain ⟨p1, p2⟩ := h
  refine ⟨by omega, ?_⟩
  have hb : (l.drop (numA l))[(i - numA l).toNat]? = some (l.getD i.toNat default) := by
    rw [List.getElem?_drop, show numA l + (i - numA l).toNat = i.toNat by omega, getD_some (by omega)]
  have hd : digitVal (l.getD i.toNat default) = some ((l.getD i.toNat default).toNat - 48) := by
    unfold digitVal; rw [if_pos h2]
  have := decFrom_take _ _ _ _ _ _ p2 hb hd
  rw [show (i + 1 - (numA l : Int)).toNat = (i - numA l).toNat + 1 by omega, this]
  congr 1; omega
theorem numI_bd {l : List UInt8} {i n : Int} (h : numI l i n) (hl : l.length ≤ numA l + 17) : n < 100000000000000000 := by
  obtain ⟨p1, p2⟩ := h
  have h1 := decFrom_lt _ _ _ p2
  have h2 : ((l.drop (numA l)).take (i - numA l).toNat).length ≤ 17 := by
    have := List.length_take_le (i - numA l).toNat (l.drop (numA l))
    have h3 : (l.drop (numA l)).length = l.length - numA l := List.length_drop
    have := List.length_take_le' (i - numA l).toNat (l.drop (numA l))
    omega
  have h4 : 10 ^ ((l.drop (numA l)).take (i - numA l).toNat).length ≤ 10 ^ 17 := Nat.pow_le_pow_right (by decide) h2
  have e : (10 : Nat) ^ 17 = 100000000000000000 := by decide
  omega
theorem num_end {l : List UInt8} {D : Nat} {i n : Int} (hD : D ≤ 17) (h1 : numA l < l.length) (h2 : l.length - numA l ≤ D) (h3 : (l.getD (numA l) default).toNat = 48 → l.length ≤ 1) (hi : i = l.length) (h : numI l i n) :
    numK l D = true ∧ numN l = if numA l = 1 then -n else n := by
  obtain ⟨p1, p2⟩ := h
  have e : (l.drop (numA l)).take (i - numA l).toNat = l.drop (numA l) := List.take_of_length_le (by rw [List.length_drop]; omega)
  rw [e] at p2
  have := num_yes hD (fun h => by have := congrArg List.length h; rw [List.length_drop] at this; simp at this; omega) h2 (fun hh => by
    have := hh.1; rw [getD_some h1] at this
    have := h3 (by rw [Option.some.inj this]; rfl); omega) p2
  refine ⟨this.1, this.2.trans ?_⟩
  split <;> omega
/-- What the reference reads. -/
def numR (l : List UInt8) (D : Nat) : Int := if numK l D then numN l else 0
theorem num_bad {l : List UInt8} {D : Nat} (h : ¬ numK l D = true) : AV.tuple [.v (.int .i64 0), .v (.bool false)] = .tuple [.v (.int .i64 (numR l D)), .v (.bool (numK l D))] := by
  unfold numR
  rw [if_neg h, Bool.eq_false_iff.2 h]
set_option maxRecDepth 100000 in
set_option maxHeartbeats 4000000 in
theorem number_ok (tx : ByteArray) (D : Nat) (hD : D ≤ 17) (hl : tx.data.toList.length ≤ 1000000) : FnOk Tryd.prog 31 [.v (.string tx), .v (.int .i64 D)] (fun q => q = .tuple [.v (.int .i64 (numR tx.data.toList D)), .v (.bool (numK tx.data.toList D))]) := by
  have hsz : tx.size = tx.data.toList.length := size_eq tx
  have ha1 : 0 < tx.data.toList.length → (tx.data.toList.getD (Int.toNat 0) default).toNat = 45 → numA tx.data.toList = 1 := fun h1 h2 => (numA_dec _).2 ⟨h1, h2⟩
  have ha3 : numA tx.data.toList = 1 → 0 < tx.data.toList.length ∧ (tx.data.toList.getD (Int.toNat 0) default).toNat = 45 := (numA_dec _).1
  have ha2 := numA_two tx.data.toList
  have hu : ∀ k : Nat, (tx.data.toList.getD k default).toNat < 256 := fun k => UInt8.toNat_lt _
  refine fnOk_of (fn := Tryd.f31) 70 (by kernel_rfl) rfl (by kernel_rfl) (Nat.le_of_ble_eq_true rfl) ?_
  intro e_0 m_0 hA hm_0
  have s0_0 : evA e_0 (.tmp 0) = _ := hA 0 _ rfl
  have s1_0 : evA e_0 (.tmp 1) = _ := hA 1 _ rfl
  have ml_0 : m_0.length = 0 := by rw [hm_0]; rfl
  clear hA hm_0
  refine aw_seq <| at_ <| ar (ro_assign ev_c) rfl <| ar (ro_assign ev_c) rfl <| ae2 (u2 rfl s0_0) (u2 rfl s1_0) ?_; clear s0_0 s1_0; intro e_1 s0_1 s1_1
  refine then_n <| aw_seq <| at_ <| ar (ro_assign ev_c) rfl <| ae3 (up_m rfl s0_1) (up_m rfl s1_1) up_h ?_; clear s0_1 s1_1; intro e_2 s0_2 s1_2 s6_2
  refine then_n <| aw_seq <| aw_seq <| aw_cut (fun e mem => (evA e (.tmp 16) = .v (.bool (decide (numA tx.data.toList = 1)))) ∧ (evA e (.tmp 0) = evA e_2 (.tmp 0)) ∧ (evA e (.tmp 1) = evA e_2 (.tmp 1)) ∧ (evA e (.tmp 6) = evA e_2 (.tmp 6)) ∧ m_0 = mem) ?_ ?_
  ·
    refine at_ <| ar (ro_move s0_2) rfl <| ar (ro_len_str up_h rfl qun9) rfl <| ar (ro_gtr up_h ev_c) rfl <| ar (ro_move up_h) rfl <| al_case up_h (fun hb_4 hq_4 => ?_) (fun hb_4 hq_4 => ?_)
    ·replace hq_4 := bt hq_4
     refine al_ro' (ro_move (u4 rfl s0_2)) ⟨_, rfl, hb_4⟩ rfl ?_
     refine al_ro' (ro_sindex up_h ev_c qun9 (by decide) (by refine idx_str ?_; first | omega | (simp <;> omega; done) | (refine Nat.lt_of_lt_of_le (m := 256) ?_ (by decide +kernel); omega))) ⟨_, rfl, (up_m rfl hb_4)⟩ rfl ?_
     refine al_ro' (ro_eql up_h ev_c) ⟨_, rfl, (u2 rfl hb_4)⟩ rfl ?_
     refine ar (ro_pickT (up_m rfl (u2 rfl hb_4)) up_h) rfl <| ae4 (u8 rfl s0_2) (u8 rfl s1_2) (u8 rfl s6_2) up_h ?_; intro e_5 s0_5 s1_5 s6_5 s16_5
     refine then_n ⟨(s16_5).trans (by (refine avb ?_; simp only [decide_eq_true_eq, Bool.false_eq_true, true_iff, false_iff]; first | omega | (intro hh; have := ha3 hh; omega) | exact ⟨fun h => ha1 (by omega) (by omega), fun h => by have := ha3 h; omega⟩)), (s0_5).trans (s0_2).symm, (s1_5).trans (s1_2).symm, (s6_5).trans (s6_2).symm, rfl⟩
    replace hq_4 := bf hq_4
    refine al_skip' ⟨_, rfl, .inl hb_4⟩ rfl ?_
    refine al_skip' ⟨_, rfl, .inl (up_m rfl hb_4)⟩ rfl ?_
    refine al_skip' ⟨_, rfl, .inl (u2 rfl hb_4)⟩ rfl ?_
    refine ar (ro_pickF (up_m rfl (u2 rfl hb_4)) ev_c) rfl <| ae4 (u8 rfl s0_2) (u8 rfl s1_2) (u8 rfl s6_2) up_h ?_; intro e_6 s0_6 s1_6 s6_6 s16_6
    refine then_n ⟨(s16_6).trans (by (refine avb ?_; simp only [decide_eq_true_eq, Bool.false_eq_true, true_iff, false_iff]; first | omega | (intro hh; have := ha3 hh; omega) | exact ⟨fun h => ha1 (by omega) (by omega), fun h => by have := ha3 h; omega⟩)), (s0_6).trans (s0_2).symm, (s1_6).trans (s1_2).symm, (s6_6).trans (s6_2).symm, rfl⟩
  · rintro e_3 _ ⟨s16_3, k0_3, k1_3, k6_3, rfl⟩
    have s0_3 := k0_3.trans s0_2
    have s1_3 := k1_3.trans s1_2
    have s6_3 := k6_3.trans s6_2
    refine aw_case s16_3 (fun hq_7 => ?_) (fun hq_7 => ?_)
    ·replace hq_7 := bt hq_7
     (have hA : numA tx.data.toList = 1 := (by assumption); have hg : (tx.data.toList.getD (numA tx.data.toList) default).toNat = (tx.data.toList.getD (Int.toNat 1) default).toNat := (by rw [hA]; rfl))
     refine at_ <| ar (ro_assign ev_c) rfl <| ae3 (up_m rfl s0_3) (up_m rfl s1_3) up_h ?_; clear s0_3 s16_3 s1_3 s6_3; intro e_8 s0_8 s1_8 s6_8
     refine then_n <| aw_seq <| aw_seq <| aw_cut (fun e mem => (evA e (.tmp 39) = .v (.bool (decide (tx.data.toList.length = numA tx.data.toList ∨ D < tx.data.toList.length - numA tx.data.toList ∨ (tx.data.toList.getD (numA tx.data.toList) default).toNat = 48 ∧ 1 < tx.data.toList.length)))) ∧ (evA e (.tmp 0) = evA e_8 (.tmp 0)) ∧ (evA e (.tmp 6) = evA e_8 (.tmp 6)) ∧ m_0 = mem) ?_ ?_
     ·
       refine at_ <| ar (ro_move s0_8) rfl <| ar (ro_len_str up_h rfl qun9) rfl <| ar (ro_move (u2 rfl s6_8)) rfl <| ar (ro_eql (up_m rfl up_h) up_h) rfl ?_
       refine ar (ro_move up_h) rfl <| al_case up_h (fun hb_10 hq_10 => ?_) (fun hb_10 hq_10 => ?_)
       ·replace hq_10 := bt hq_10
        refine al_skip' ⟨_, rfl, .inl hb_10⟩ rfl ?_
        refine al_skip' ⟨_, rfl, .inl (up_m rfl hb_10)⟩ rfl ?_
        refine al_skip' ⟨_, rfl, .inl (u2 rfl hb_10)⟩ rfl ?_
        refine al_skip' ⟨_, rfl, .inl (up_m rfl (u2 rfl hb_10))⟩ rfl ?_
        refine al_skip' ⟨_, rfl, .inl (u4 rfl hb_10)⟩ rfl ?_
        refine al_skip' ⟨_, rfl, .inl (up_m rfl (u4 rfl hb_10))⟩ rfl ?_
        refine ar (ro_pickT (u2 rfl (u4 rfl hb_10)) ev_c) rfl <| ar (ro_move up_h) rfl <| al_skip' ⟨_, rfl, .inl up_h⟩ rfl ?_
        refine al_skip' ⟨_, rfl, .inl (up_m rfl up_h)⟩ rfl ?_
        refine al_skip' ⟨_, rfl, .inl (u2 rfl up_h)⟩ rfl ?_
        refine al_skip' ⟨_, rfl, .inl (up_m rfl (u2 rfl up_h))⟩ rfl ?_
        refine al_skip' ⟨_, rfl, .inl (u4 rfl up_h)⟩ rfl ?_
        refine al_skip' ⟨_, rfl, .inr up_h⟩ rfl ?_
        refine al_skip' ⟨_, rfl, .inr (up_m rfl up_h)⟩ rfl ?_
        refine al_skip' ⟨_, rfl, .inr (u2 rfl up_h)⟩ rfl ?_
        refine al_skip' ⟨_, rfl, .inl (u8 rfl up_h)⟩ rfl ?_
        refine ar (ro_pickT (up_m rfl (u8 rfl up_h)) ev_c) rfl <| ae3 (up_m rfl (u2 rfl (u4 rfl (u16 rfl s0_8)))) (up_m rfl (u2 rfl (u4 rfl (u16 rfl s6_8)))) up_h ?_; intro e_11 s0_11 s6_11 s39_11
        refine then_n ⟨(s39_11).trans (by (refine avb ?_; simp only [decide_eq_true_eq, Bool.false_eq_true, true_iff, false_iff]; omega)), (s0_11).trans (s0_8).symm, (s6_11).trans (s6_8).symm, rfl⟩
       replace hq_10 := bf hq_10
       refine al_ro' (ro_move (up_m rfl (u4 rfl s0_8))) ⟨_, rfl, hb_10⟩ rfl ?_
       refine al_ro' (ro_len_str up_h rfl qun9) ⟨_, rfl, (up_m rfl hb_10)⟩ rfl ?_
       refine al_ro' (ro_move (up_m rfl (u2 rfl (u4 rfl s6_8)))) ⟨_, rfl, (u2 rfl hb_10)⟩ rfl ?_
       (refine al_ro' (ro_sub' (up_m rfl up_h) up_h ?_) ⟨_, rfl, (up_m rfl (u2 rfl hb_10))⟩ rfl ?_; · (first | ((first | unfold In64 | unfold InU64 | unfold InU8); omega) | (simp only [ByteArray.size_append, size_mk, List.length_cons, List.length_nil] <;> omega) | omega))
       refine al_ro' (ro_move (up_m rfl (u8 rfl s1_8))) ⟨_, rfl, (u4 rfl hb_10)⟩ rfl ?_
       refine al_ro' (ro_gtr (up_m rfl up_h) up_h) ⟨_, rfl, (up_m rfl (u4 rfl hb_10))⟩ rfl ?_
       refine ar (ro_pickF (u2 rfl (u4 rfl hb_10)) up_h) rfl <| ar (ro_move up_h) rfl <| al_case up_h (fun hb_12 hq_12 => ?_) (fun hb_12 hq_12 => ?_)
       ·replace hq_12 := bt hq_12
        refine al_skip' ⟨_, rfl, .inl hb_12⟩ rfl ?_
        refine al_skip' ⟨_, rfl, .inl (up_m rfl hb_12)⟩ rfl ?_
        refine al_skip' ⟨_, rfl, .inl (u2 rfl hb_12)⟩ rfl ?_
        refine al_skip' ⟨_, rfl, .inl (up_m rfl (u2 rfl hb_12))⟩ rfl ?_
        refine al_skip' ⟨_, rfl, .inl (u4 rfl hb_12)⟩ rfl ?_
        refine al_skip' ⟨_, rfl, .inr up_h⟩ rfl ?_
        refine al_skip' ⟨_, rfl, .inr (up_m rfl up_h)⟩ rfl ?_
        refine al_skip' ⟨_, rfl, .inr (u2 rfl up_h)⟩ rfl ?_
        refine al_skip' ⟨_, rfl, .inl (u8 rfl hb_12)⟩ rfl ?_
        refine ar (ro_pickT (up_m rfl (u8 rfl hb_12)) ev_c) rfl <| ae3 (up_m rfl (u2 rfl (u4 rfl (u16 rfl s0_8)))) (up_m rfl (u2 rfl (u4 rfl (u16 rfl s6_8)))) up_h ?_; intro e_13 s0_13 s6_13 s39_13
        refine then_n ⟨(s39_13).trans (by (refine avb ?_; simp only [decide_eq_true_eq, Bool.false_eq_true, true_iff, false_iff]; omega)), (s0_13).trans (s0_8).symm, (s6_13).trans (s6_8).symm, rfl⟩
       replace hq_12 := bf hq_12
       refine al_ro' (ro_move (up_m rfl (u4 rfl (u8 rfl s0_8)))) ⟨_, rfl, hb_12⟩ rfl ?_
       refine al_ro' (ro_move (u2 rfl (u4 rfl (u8 rfl s6_8)))) ⟨_, rfl, (up_m rfl hb_12)⟩ rfl ?_
       refine al_ro' (ro_sindex (up_m rfl up_h) up_h qun9 (by decide) (by refine idx_str ?_; first | omega | (simp <;> omega; done) | (refine Nat.lt_of_lt_of_le (m := 256) ?_ (by decide +kernel); omega))) ⟨_, rfl, (u2 rfl hb_12)⟩ rfl ?_
       refine al_ro' (ro_eql up_h ev_c) ⟨_, rfl, (up_m rfl (u2 rfl hb_12))⟩ rfl ?_
       refine al_ro' (ro_move up_h) ⟨_, rfl, (u4 rfl hb_12)⟩ rfl ?_
       refine al_case up_h (fun hb_14 hq_14 => ?_) (fun hb_14 hq_14 => ?_)
       ·replace hq_14 := bt hq_14
        refine al_ro' (ro_move (u2 rfl (u16 rfl s0_8))) ⟨_, rfl, hb_14⟩ rfl ?_
        refine al_ro' (ro_len_str up_h rfl qun9) ⟨_, rfl, (up_m rfl hb_14)⟩ rfl ?_
        refine al_ro' (ro_gtr up_h ev_c) ⟨_, rfl, (u2 rfl hb_14)⟩ rfl ?_
        refine al_ro' (ro_pickT (up_m rfl (u2 rfl hb_14)) up_h) ⟨_, rfl, (u8 rfl hb_12)⟩ rfl ?_
        refine ar (ro_pickF (up_m rfl (u8 rfl hb_12)) up_h) rfl <| ae3 (up_m rfl (u2 rfl (u4 rfl (u16 rfl s0_8)))) (up_m rfl (u2 rfl (u4 rfl (u16 rfl s6_8)))) up_h ?_; intro e_15 s0_15 s6_15 s39_15
        refine then_n ⟨(s39_15).trans (by (refine avb ?_; simp only [decide_eq_true_eq, Bool.false_eq_true, true_iff, false_iff]; omega)), (s0_15).trans (s0_8).symm, (s6_15).trans (s6_8).symm, rfl⟩
       replace hq_14 := bf hq_14
       refine al_skip' ⟨_, rfl, .inl hb_14⟩ rfl ?_
       refine al_skip' ⟨_, rfl, .inl (up_m rfl hb_14)⟩ rfl ?_
       refine al_skip' ⟨_, rfl, .inl (u2 rfl hb_14)⟩ rfl ?_
       refine al_ro' (ro_pickF (up_m rfl (u2 rfl hb_14)) ev_c) ⟨_, rfl, (u8 rfl hb_12)⟩ rfl ?_
       refine ar (ro_pickF (up_m rfl (u8 rfl hb_12)) up_h) rfl <| ae3 (up_m rfl (u2 rfl (u4 rfl (u16 rfl s0_8)))) (up_m rfl (u2 rfl (u4 rfl (u16 rfl s6_8)))) up_h ?_; intro e_16 s0_16 s6_16 s39_16
       refine then_n ⟨(s39_16).trans (by (refine avb ?_; simp only [decide_eq_true_eq, Bool.false_eq_true, true_iff, false_iff]; omega)), (s0_16).trans (s0_8).symm, (s6_16).trans (s6_8).symm, rfl⟩
     · rintro e_9 _ ⟨s39_9, k0_9, k6_9, rfl⟩
       have s0_9 := k0_9.trans s0_8
       have s6_9 := k6_9.trans s6_8
       refine aw_case s39_9 (fun hq_17 => ?_) (fun hq_17 => ?_)
       ·replace hq_17 := bt hq_17
        refine aw_seq <| at_ <| ar (ro_assign ev_c) rfl <| ar (ro_assign ev_c) rfl <| ae2 (up_m rfl up_h) up_h ?_; clear s0_9 s39_9 s6_9; intro e_18 s4_18 s5_18
        refine then_n <| aw_ret <| then_r <| ret2 (.inr rfl) (by kernel_rfl) (resV_tmp s4_18) (resV_tmp s5_18) (.ro _ rfl) (.ro _ rfl) ?_
        clear s4_18 s5_18  ml_0
        (first | (refine num_bad fun hk => ?_; obtain ⟨n1, n2, n3, n4⟩ := num_no2 hk; first | omega | (have hz := n4 i.toNat (by omega) (by omega); omega)) | (have he := num_end (l := tx.data.toList) (D := D) (i := i) (n := n) hD (by omega) (by omega) (by omega) (by omega) p3; unfold numR; rw [he.1, if_pos rfl, he.2]; first | (rw [if_pos hA]; done) | (rw [if_neg (by omega)]; done)))
       replace hq_17 := bf hq_17
       refine aw_skip <| then_n <| aw_seq <| at_ <| ar (ro_assign ev_c) rfl <| ae3 (up_m rfl s0_9) (up_m rfl s6_9) up_h ?_; clear s0_9 s39_9 s6_9; intro e_19 s0_19 s6_19 s7_19
       refine then_n <| aw_seq <| aw_seq <| at_ <| ar (ro_move s6_19) rfl <| ar (ro_assign up_h) rfl <| ae4 (u2 rfl s0_19) (u2 rfl s6_19) (u2 rfl s7_19) up_h ?_; clear s0_19 s6_19 s7_19; intro e_20 s0_20 s6_20 s7_20 s8_20
       refine then_n <| aw_block <| aw_loop (S := (Int × Int)) (fun s e mem => match s with | ⟨i, n⟩ => (evA e (.tmp 8) = .v (.int .i64 i)) ∧ (evA e (.tmp 7) = .v (.int .i64 n)) ∧ (evA e (.tmp 0) = evA e_20 (.tmp 0)) ∧ (evA e (.tmp 6) = evA e_20 (.tmp 6)) ∧ (mem.length = 0) ∧ ((numA tx.data.toList ≤ i ∧ i ≤ tx.data.toList.length ∧ numI tx.data.toList i n))) (fun s => match s with | ⟨i, n⟩ => (tx.data.toList.length - i).toNat) ⟨_, _⟩ ⟨s8_20, s7_20, rfl, rfl, ml_0, ?_⟩ ?_
       · (exact ⟨by omega, by omega, numI_start tx.data.toList (by omega)⟩)
       · rintro ⟨i, n⟩ e_21 m_21 ⟨s8_21, s7_21, k0_21, k6_21, ml_21, hinv⟩
         have s0_21 := k0_21.trans s0_20
         have s6_21 := k6_21.trans s6_20
         (obtain ⟨p1, p2, p3⟩ := hinv; have hb := numI_bd p3 (by omega); have hn0 := p3.1; have hui := hu i.toNat)
         refine aw_seq <| aw_seq <| at_ <| ar (ro_move s8_21) rfl <| ar (ro_move (up_m rfl s0_21)) rfl <| ar (ro_len_str up_h rfl qun9) rfl <| ar (ro_lss (u2 rfl up_h) up_h) rfl <| ae5 (u4 rfl s0_21) (u4 rfl s6_21) (u4 rfl s7_21) (u4 rfl s8_21) up_h ?_; clear s0_21 s6_21 s7_21 s8_21; intro e_22 s0_22 s6_22 s7_22 s8_22 s44_22
         refine then_n <| aw_case s44_22 (fun hq_23 => ?_) (fun hq_23 => ?_)
         ·replace hq_23 := bt hq_23
          refine aw_skip <| then_n <| aw_seq <| aw_block <| aw_seq <| aw_seq <| at_ <| ar (ro_move s0_22) rfl <| ar (ro_move (up_m rfl s8_22)) rfl <| ar (ro_sindex (up_m rfl up_h) up_h qun9 (by omega) (by refine idx_str ?_; first | omega | (simp <;> omega; done) | (refine Nat.lt_of_lt_of_le (m := 256) ?_ (by decide +kernel); omega))) rfl ?_
          refine ar (ro_lss up_h ev_c) rfl <| ar (ro_move up_h) rfl <| al_case up_h (fun hb_24 hq_24 => ?_) (fun hb_24 hq_24 => ?_)
          ·replace hq_24 := bt hq_24
           refine al_skip' ⟨_, rfl, .inl hb_24⟩ rfl ?_
           refine al_skip' ⟨_, rfl, .inl (up_m rfl hb_24)⟩ rfl ?_
           refine al_skip' ⟨_, rfl, .inl (u2 rfl hb_24)⟩ rfl ?_
           refine al_skip' ⟨_, rfl, .inl (up_m rfl (u2 rfl hb_24))⟩ rfl ?_
           refine ar (ro_pickT (u4 rfl hb_24) ev_c) rfl <| ae5 (u2 rfl (u8 rfl s0_22)) (u2 rfl (u8 rfl s6_22)) (u2 rfl (u8 rfl s7_22)) (u2 rfl (u8 rfl s8_22)) up_h ?_; clear hb_24 s0_22 s44_22 s6_22 s7_22 s8_22; intro e_25 s0_25 s6_25 s7_25 s8_25 s56_25
           refine then_n <| aw_true s56_25 <| aw_seq <| at_ <| ar (ro_assign ev_c) rfl <| ar (ro_assign ev_c) rfl <| ae2 (up_m rfl up_h) up_h ?_; clear s0_25 s56_25 s6_25 s7_25 s8_25; intro e_27 s4_27 s5_27
           refine then_n <| aw_ret <| then_r <| block_r <| then_r <| then_r <| block_r <| then_r <| ret2 (.inr rfl) (by kernel_rfl) (resV_tmp s4_27) (resV_tmp s5_27) (.ro _ rfl) (.ro _ rfl) ?_
           clear s4_27 s5_27  ml_21
           (first | (refine num_bad fun hk => ?_; obtain ⟨n1, n2, n3, n4⟩ := num_no2 hk; first | omega | (have hz := n4 i.toNat (by omega) (by omega); omega)) | (have he := num_end (l := tx.data.toList) (D := D) (i := i) (n := n) hD (by omega) (by omega) (by omega) (by omega) p3; unfold numR; rw [he.1, if_pos rfl, he.2]; first | (rw [if_pos hA]; done) | (rw [if_neg (by omega)]; done)))
          replace hq_24 := bf hq_24
          refine al_ro' (ro_move (up_m rfl (u4 rfl s0_22))) ⟨_, rfl, hb_24⟩ rfl ?_
          refine al_ro' (ro_move (u2 rfl (u4 rfl s8_22))) ⟨_, rfl, (up_m rfl hb_24)⟩ rfl ?_
          refine al_ro' (ro_sindex (up_m rfl up_h) up_h qun9 (by omega) (by refine idx_str ?_; first | omega | (simp <;> omega; done) | (refine Nat.lt_of_lt_of_le (m := 256) ?_ (by decide +kernel); omega))) ⟨_, rfl, (u2 rfl hb_24)⟩ rfl ?_
          refine al_ro' (ro_gtr up_h ev_c) ⟨_, rfl, (up_m rfl (u2 rfl hb_24))⟩ rfl ?_
          refine ar (ro_pickF (u4 rfl hb_24) up_h) rfl <| ae5 (u2 rfl (u8 rfl s0_22)) (u2 rfl (u8 rfl s6_22)) (u2 rfl (u8 rfl s7_22)) (u2 rfl (u8 rfl s8_22)) up_h ?_; clear hb_24 s0_22 s44_22 s6_22 s7_22 s8_22; intro e_28 s0_28 s6_28 s7_28 s8_28 s56_28
          refine then_n <| aw_case s56_28 (fun hq_29 => ?_) (fun hq_29 => ?_)
          ·replace hq_29 := bt hq_29
           refine aw_seq <| at_ <| ar (ro_assign ev_c) rfl <| ar (ro_assign ev_c) rfl <| ae2 (up_m rfl up_h) up_h ?_; clear s0_28 s56_28 s6_28 s7_28 s8_28; intro e_30 s4_30 s5_30
           refine then_n <| aw_ret <| then_r <| block_r <| then_r <| then_r <| block_r <| then_r <| ret2 (.inr rfl) (by kernel_rfl) (resV_tmp s4_30) (resV_tmp s5_30) (.ro _ rfl) (.ro _ rfl) ?_
           clear s4_30 s5_30  ml_21
           (first | (refine num_bad fun hk => ?_; obtain ⟨n1, n2, n3, n4⟩ := num_no2 hk; first | omega | (have hz := n4 i.toNat (by omega) (by omega); omega)) | (have he := num_end (l := tx.data.toList) (D := D) (i := i) (n := n) hD (by omega) (by omega) (by omega) (by omega) p3; unfold numR; rw [he.1, if_pos rfl, he.2]; first | (rw [if_pos hA]; done) | (rw [if_neg (by omega)]; done)))
          replace hq_29 := bf hq_29
          refine aw_skip <| then_n <| at_ <| ar (ro_move s7_28) rfl ?_
          (refine ar (ro_mul' ev_c up_h ?_) rfl ?_; · (first | ((first | unfold In64 | unfold InU64 | unfold InU8); omega) | (simp only [ByteArray.size_append, size_mk, List.length_cons, List.length_nil] <;> omega) | omega))
          refine ar (ro_move (u2 rfl s0_28)) rfl <| ar (ro_move (up_m rfl (u2 rfl s8_28))) rfl <| ar (ro_sindex (up_m rfl up_h) up_h qun9 (by omega) (by refine idx_str ?_; first | omega | (simp <;> omega; done) | (refine Nat.lt_of_lt_of_le (m := 256) ?_ (by decide +kernel); omega))) rfl ?_
          (refine ar (ro_subB up_h ev_c ?_) rfl ?_; · (first | ((first | unfold In64 | unfold InU64 | unfold InU8); omega) | (simp only [ByteArray.size_append, size_mk, List.length_cons, List.length_nil] <;> omega) | omega))
          (refine ar (ro_cvI up_h (by kernel_rfl) (by kernel_rfl) ?_) rfl ?_; · (first | ((first | unfold In64 | unfold InU64 | unfold InU8); omega) | (simp only [ByteArray.size_append, size_mk, List.length_cons, List.length_nil] <;> omega) | omega))
          (refine ar (ro_add' (up_m rfl (u4 rfl up_h)) up_h ?_) rfl ?_; · (first | ((first | unfold In64 | unfold InU64 | unfold InU8); omega) | (simp only [ByteArray.size_append, size_mk, List.length_cons, List.length_nil] <;> omega) | omega))
          refine ar (ro_assign up_h) rfl <| ae4 (up_m rfl (u8 rfl s0_28)) (up_m rfl (u8 rfl s6_28)) up_h (up_m rfl (u8 rfl s8_28)) ?_; clear s0_28 s56_28 s6_28 s7_28 s8_28; intro e_31 s0_31 s6_31 s7_31 s8_31
          refine block_n <| then_n <| at_ <| ar (ro_move s8_31) rfl ?_
          (refine ar (ro_add' up_h ev_c ?_) rfl ?_; · (first | ((first | unfold In64 | unfold InU64 | unfold InU8); omega) | (simp only [ByteArray.size_append, size_mk, List.length_cons, List.length_nil] <;> omega) | omega))
          refine ar (ro_assign up_h) rfl <| ae4 (up_m rfl (u2 rfl s0_31)) (up_m rfl (u2 rfl s6_31)) (up_m rfl (u2 rfl s7_31)) up_h ?_; clear s0_31 s6_31 s7_31 s8_31; intro e_32 s0_32 s6_32 s7_32 s8_32
          refine then_n <| ⟨⟨_, _⟩, ⟨s8_32, s7_32, (s0_32.trans s0_20.symm), (s6_32.trans s6_20.symm), ml_21, ?_⟩, ?_⟩
          · (exact ⟨by omega, by omega, numI_step p3 p1 (by omega) (by omega) (by omega)⟩)
          · ((try dsimp only); omega)
         replace hq_23 := bf hq_23
         refine aw_exit <| then_x <| then_x <| block_hit <| then_n <| aw_seq <| aw_seq <| at_ <| ar (ro_move s6_22) rfl <| ar (ro_eql up_h ev_c) rfl ?_
         refine ae2 (u2 rfl s7_22) up_h ?_; clear s0_22 s44_22 s6_22 s7_22 s8_22; intro e_33 s7_33 s66_33
         refine then_n <| aw_case s66_33 (fun hq_34 => ?_) (fun hq_34 => ?_)
         ·replace hq_34 := bt hq_34
          refine at_ <| ar (ro_move s7_33) rfl ?_
          (refine ar (ro_neg' up_h ?_) rfl ?_; · (first | ((first | unfold In64 | unfold InU64 | unfold InU8); omega) | (simp only [ByteArray.size_append, size_mk, List.length_cons, List.length_nil] <;> omega) | omega))
          refine ar (ro_assign up_h) rfl <| ae1 up_h ?_; clear s66_33 s7_33; intro e_35 s7_35
          refine then_n <| aw_seq <| at_ <| ar (ro_move s7_35) rfl <| ar (ro_assign up_h) rfl <| ar (ro_assign ev_c) rfl <| ae2 (up_m rfl up_h) up_h ?_; clear s7_35; intro e_36 s4_36 s5_36
          refine then_n <| aw_ret <| ret2 (.inr rfl) (by kernel_rfl) (resV_tmp s4_36) (resV_tmp s5_36) (.ro _ rfl) (.ro _ rfl) ?_
          clear s4_36 s5_36  ml_21
          (first | (refine num_bad fun hk => ?_; obtain ⟨n1, n2, n3, n4⟩ := num_no2 hk; first | omega | (have hz := n4 i.toNat (by omega) (by omega); omega)) | (have he := num_end (l := tx.data.toList) (D := D) (i := i) (n := n) hD (by omega) (by omega) (by omega) (by omega) p3; unfold numR; rw [he.1, if_pos rfl, he.2]; first | (rw [if_pos hA]; done) | (rw [if_neg (by omega)]; done)))
         · replace hq_34 := bf hq_34; exfalso; omega
    replace hq_7 := bf hq_7
    (have hA : numA tx.data.toList = 0 := (by omega); have hg : (tx.data.toList.getD (numA tx.data.toList) default).toNat = (tx.data.toList.getD (Int.toNat 0) default).toNat := (by rw [hA]; rfl))
    refine aw_skip <| then_n <| aw_seq <| aw_seq <| aw_cut (fun e mem => (evA e (.tmp 39) = .v (.bool (decide (tx.data.toList.length = numA tx.data.toList ∨ D < tx.data.toList.length - numA tx.data.toList ∨ (tx.data.toList.getD (numA tx.data.toList) default).toNat = 48 ∧ 1 < tx.data.toList.length)))) ∧ (evA e (.tmp 0) = evA e_3 (.tmp 0)) ∧ (evA e (.tmp 6) = evA e_3 (.tmp 6)) ∧ m_0 = mem) ?_ ?_
    ·
      refine at_ <| ar (ro_move s0_3) rfl <| ar (ro_len_str up_h rfl qun9) rfl <| ar (ro_move (u2 rfl s6_3)) rfl <| ar (ro_eql (up_m rfl up_h) up_h) rfl ?_
      refine ar (ro_move up_h) rfl <| al_case up_h (fun hb_39 hq_39 => ?_) (fun hb_39 hq_39 => ?_)
      ·replace hq_39 := bt hq_39
       refine al_skip' ⟨_, rfl, .inl hb_39⟩ rfl ?_
       refine al_skip' ⟨_, rfl, .inl (up_m rfl hb_39)⟩ rfl ?_
       refine al_skip' ⟨_, rfl, .inl (u2 rfl hb_39)⟩ rfl ?_
       refine al_skip' ⟨_, rfl, .inl (up_m rfl (u2 rfl hb_39))⟩ rfl ?_
       refine al_skip' ⟨_, rfl, .inl (u4 rfl hb_39)⟩ rfl ?_
       refine al_skip' ⟨_, rfl, .inl (up_m rfl (u4 rfl hb_39))⟩ rfl ?_
       refine ar (ro_pickT (u2 rfl (u4 rfl hb_39)) ev_c) rfl <| ar (ro_move up_h) rfl <| al_skip' ⟨_, rfl, .inl up_h⟩ rfl ?_
       refine al_skip' ⟨_, rfl, .inl (up_m rfl up_h)⟩ rfl ?_
       refine al_skip' ⟨_, rfl, .inl (u2 rfl up_h)⟩ rfl ?_
       refine al_skip' ⟨_, rfl, .inl (up_m rfl (u2 rfl up_h))⟩ rfl ?_
       refine al_skip' ⟨_, rfl, .inl (u4 rfl up_h)⟩ rfl ?_
       refine al_skip' ⟨_, rfl, .inr up_h⟩ rfl ?_
       refine al_skip' ⟨_, rfl, .inr (up_m rfl up_h)⟩ rfl ?_
       refine al_skip' ⟨_, rfl, .inr (u2 rfl up_h)⟩ rfl ?_
       refine al_skip' ⟨_, rfl, .inl (u8 rfl up_h)⟩ rfl ?_
       refine ar (ro_pickT (up_m rfl (u8 rfl up_h)) ev_c) rfl <| ae3 (up_m rfl (u2 rfl (u4 rfl (u16 rfl s0_3)))) (up_m rfl (u2 rfl (u4 rfl (u16 rfl s6_3)))) up_h ?_; intro e_40 s0_40 s6_40 s39_40
       refine then_n ⟨(s39_40).trans (by (refine avb ?_; simp only [decide_eq_true_eq, Bool.false_eq_true, true_iff, false_iff]; omega)), (s0_40).trans (s0_3).symm, (s6_40).trans (s6_3).symm, rfl⟩
      replace hq_39 := bf hq_39
      refine al_ro' (ro_move (up_m rfl (u4 rfl s0_3))) ⟨_, rfl, hb_39⟩ rfl ?_
      refine al_ro' (ro_len_str up_h rfl qun9) ⟨_, rfl, (up_m rfl hb_39)⟩ rfl ?_
      refine al_ro' (ro_move (up_m rfl (u2 rfl (u4 rfl s6_3)))) ⟨_, rfl, (u2 rfl hb_39)⟩ rfl ?_
      (refine al_ro' (ro_sub' (up_m rfl up_h) up_h ?_) ⟨_, rfl, (up_m rfl (u2 rfl hb_39))⟩ rfl ?_; · (first | ((first | unfold In64 | unfold InU64 | unfold InU8); omega) | (simp only [ByteArray.size_append, size_mk, List.length_cons, List.length_nil] <;> omega) | omega))
      refine al_ro' (ro_move (up_m rfl (u8 rfl s1_3))) ⟨_, rfl, (u4 rfl hb_39)⟩ rfl ?_
      refine al_ro' (ro_gtr (up_m rfl up_h) up_h) ⟨_, rfl, (up_m rfl (u4 rfl hb_39))⟩ rfl ?_
      refine ar (ro_pickF (u2 rfl (u4 rfl hb_39)) up_h) rfl <| ar (ro_move up_h) rfl <| al_case up_h (fun hb_41 hq_41 => ?_) (fun hb_41 hq_41 => ?_)
      ·replace hq_41 := bt hq_41
       refine al_skip' ⟨_, rfl, .inl hb_41⟩ rfl ?_
       refine al_skip' ⟨_, rfl, .inl (up_m rfl hb_41)⟩ rfl ?_
       refine al_skip' ⟨_, rfl, .inl (u2 rfl hb_41)⟩ rfl ?_
       refine al_skip' ⟨_, rfl, .inl (up_m rfl (u2 rfl hb_41))⟩ rfl ?_
       refine al_skip' ⟨_, rfl, .inl (u4 rfl hb_41)⟩ rfl ?_
       refine al_skip' ⟨_, rfl, .inr up_h⟩ rfl ?_
       refine al_skip' ⟨_, rfl, .inr (up_m rfl up_h)⟩ rfl ?_
       refine al_skip' ⟨_, rfl, .inr (u2 rfl up_h)⟩ rfl ?_
       refine al_skip' ⟨_, rfl, .inl (u8 rfl hb_41)⟩ rfl ?_
       refine ar (ro_pickT (up_m rfl (u8 rfl hb_41)) ev_c) rfl <| ae3 (up_m rfl (u2 rfl (u4 rfl (u16 rfl s0_3)))) (up_m rfl (u2 rfl (u4 rfl (u16 rfl s6_3)))) up_h ?_; intro e_42 s0_42 s6_42 s39_42
       refine then_n ⟨(s39_42).trans (by (refine avb ?_; simp only [decide_eq_true_eq, Bool.false_eq_true, true_iff, false_iff]; omega)), (s0_42).trans (s0_3).symm, (s6_42).trans (s6_3).symm, rfl⟩
      replace hq_41 := bf hq_41
      refine al_ro' (ro_move (up_m rfl (u4 rfl (u8 rfl s0_3)))) ⟨_, rfl, hb_41⟩ rfl ?_
      refine al_ro' (ro_move (u2 rfl (u4 rfl (u8 rfl s6_3)))) ⟨_, rfl, (up_m rfl hb_41)⟩ rfl ?_
      refine al_ro' (ro_sindex (up_m rfl up_h) up_h qun9 (by decide) (by refine idx_str ?_; first | omega | (simp <;> omega; done) | (refine Nat.lt_of_lt_of_le (m := 256) ?_ (by decide +kernel); omega))) ⟨_, rfl, (u2 rfl hb_41)⟩ rfl ?_
      refine al_ro' (ro_eql up_h ev_c) ⟨_, rfl, (up_m rfl (u2 rfl hb_41))⟩ rfl ?_
      refine al_ro' (ro_move up_h) ⟨_, rfl, (u4 rfl hb_41)⟩ rfl ?_
      refine al_case up_h (fun hb_43 hq_43 => ?_) (fun hb_43 hq_43 => ?_)
      ·replace hq_43 := bt hq_43
       refine al_ro' (ro_move (u2 rfl (u16 rfl s0_3))) ⟨_, rfl, hb_43⟩ rfl ?_
       refine al_ro' (ro_len_str up_h rfl qun9) ⟨_, rfl, (up_m rfl hb_43)⟩ rfl ?_
       refine al_ro' (ro_gtr up_h ev_c) ⟨_, rfl, (u2 rfl hb_43)⟩ rfl ?_
       refine al_ro' (ro_pickT (up_m rfl (u2 rfl hb_43)) up_h) ⟨_, rfl, (u8 rfl hb_41)⟩ rfl ?_
       refine ar (ro_pickF (up_m rfl (u8 rfl hb_41)) up_h) rfl <| ae3 (up_m rfl (u2 rfl (u4 rfl (u16 rfl s0_3)))) (up_m rfl (u2 rfl (u4 rfl (u16 rfl s6_3)))) up_h ?_; intro e_44 s0_44 s6_44 s39_44
       refine then_n ⟨(s39_44).trans (by (refine avb ?_; simp only [decide_eq_true_eq, Bool.false_eq_true, true_iff, false_iff]; omega)), (s0_44).trans (s0_3).symm, (s6_44).trans (s6_3).symm, rfl⟩
      replace hq_43 := bf hq_43
      refine al_skip' ⟨_, rfl, .inl hb_43⟩ rfl ?_
      refine al_skip' ⟨_, rfl, .inl (up_m rfl hb_43)⟩ rfl ?_
      refine al_skip' ⟨_, rfl, .inl (u2 rfl hb_43)⟩ rfl ?_
      refine al_ro' (ro_pickF (up_m rfl (u2 rfl hb_43)) ev_c) ⟨_, rfl, (u8 rfl hb_41)⟩ rfl ?_
      refine ar (ro_pickF (up_m rfl (u8 rfl hb_41)) up_h) rfl <| ae3 (up_m rfl (u2 rfl (u4 rfl (u16 rfl s0_3)))) (up_m rfl (u2 rfl (u4 rfl (u16 rfl s6_3)))) up_h ?_; intro e_45 s0_45 s6_45 s39_45
      refine then_n ⟨(s39_45).trans (by (refine avb ?_; simp only [decide_eq_true_eq, Bool.false_eq_true, true_iff, false_iff]; omega)), (s0_45).trans (s0_3).symm, (s6_45).trans (s6_3).symm, rfl⟩
    · rintro e_38 _ ⟨s39_38, k0_38, k6_38, rfl⟩
      have s0_38 := k0_38.trans s0_3
      have s6_38 := k6_38.trans s6_3
      refine aw_case s39_38 (fun hq_46 => ?_) (fun hq_46 => ?_)
      ·replace hq_46 := bt hq_46
       refine aw_seq <| at_ <| ar (ro_assign ev_c) rfl <| ar (ro_assign ev_c) rfl <| ae2 (up_m rfl up_h) up_h ?_; clear s0_38 s39_38 s6_38; intro e_47 s4_47 s5_47
       refine then_n <| aw_ret <| then_r <| ret2 (.inr rfl) (by kernel_rfl) (resV_tmp s4_47) (resV_tmp s5_47) (.ro _ rfl) (.ro _ rfl) ?_
       clear s4_47 s5_47  ml_0
       (first | (refine num_bad fun hk => ?_; obtain ⟨n1, n2, n3, n4⟩ := num_no2 hk; first | omega | (have hz := n4 i.toNat (by omega) (by omega); omega)) | (have he := num_end (l := tx.data.toList) (D := D) (i := i) (n := n) hD (by omega) (by omega) (by omega) (by omega) p3; unfold numR; rw [he.1, if_pos rfl, he.2]; first | (rw [if_pos hA]; done) | (rw [if_neg (by omega)]; done)))
      replace hq_46 := bf hq_46
      refine aw_skip <| then_n <| aw_seq <| at_ <| ar (ro_assign ev_c) rfl <| ae3 (up_m rfl s0_38) (up_m rfl s6_38) up_h ?_; clear s0_38 s39_38 s6_38; intro e_48 s0_48 s6_48 s7_48
      refine then_n <| aw_seq <| aw_seq <| at_ <| ar (ro_move s6_48) rfl <| ar (ro_assign up_h) rfl <| ae4 (u2 rfl s0_48) (u2 rfl s6_48) (u2 rfl s7_48) up_h ?_; clear s0_48 s6_48 s7_48; intro e_49 s0_49 s6_49 s7_49 s8_49
      refine then_n <| aw_block <| aw_loop (S := (Int × Int)) (fun s e mem => match s with | ⟨i, n⟩ => (evA e (.tmp 8) = .v (.int .i64 i)) ∧ (evA e (.tmp 7) = .v (.int .i64 n)) ∧ (evA e (.tmp 0) = evA e_49 (.tmp 0)) ∧ (evA e (.tmp 6) = evA e_49 (.tmp 6)) ∧ (mem.length = 0) ∧ ((numA tx.data.toList ≤ i ∧ i ≤ tx.data.toList.length ∧ numI tx.data.toList i n))) (fun s => match s with | ⟨i, n⟩ => (tx.data.toList.length - i).toNat) ⟨_, _⟩ ⟨s8_49, s7_49, rfl, rfl, ml_0, ?_⟩ ?_
      · (exact ⟨by omega, by omega, numI_start tx.data.toList (by omega)⟩)
      · rintro ⟨i, n⟩ e_50 m_50 ⟨s8_50, s7_50, k0_50, k6_50, ml_50, hinv⟩
        have s0_50 := k0_50.trans s0_49
        have s6_50 := k6_50.trans s6_49
        (obtain ⟨p1, p2, p3⟩ := hinv; have hb := numI_bd p3 (by omega); have hn0 := p3.1; have hui := hu i.toNat)
        refine aw_seq <| aw_seq <| at_ <| ar (ro_move s8_50) rfl <| ar (ro_move (up_m rfl s0_50)) rfl <| ar (ro_len_str up_h rfl qun9) rfl <| ar (ro_lss (u2 rfl up_h) up_h) rfl <| ae5 (u4 rfl s0_50) (u4 rfl s6_50) (u4 rfl s7_50) (u4 rfl s8_50) up_h ?_; clear s0_50 s6_50 s7_50 s8_50; intro e_51 s0_51 s6_51 s7_51 s8_51 s44_51
        refine then_n <| aw_case s44_51 (fun hq_52 => ?_) (fun hq_52 => ?_)
        ·replace hq_52 := bt hq_52
         refine aw_skip <| then_n <| aw_seq <| aw_block <| aw_seq <| aw_seq <| at_ <| ar (ro_move s0_51) rfl <| ar (ro_move (up_m rfl s8_51)) rfl <| ar (ro_sindex (up_m rfl up_h) up_h qun9 (by omega) (by refine idx_str ?_; first | omega | (simp <;> omega; done) | (refine Nat.lt_of_lt_of_le (m := 256) ?_ (by decide +kernel); omega))) rfl ?_
         refine ar (ro_lss up_h ev_c) rfl <| ar (ro_move up_h) rfl <| al_case up_h (fun hb_53 hq_53 => ?_) (fun hb_53 hq_53 => ?_)
         ·replace hq_53 := bt hq_53
          refine al_skip' ⟨_, rfl, .inl hb_53⟩ rfl ?_
          refine al_skip' ⟨_, rfl, .inl (up_m rfl hb_53)⟩ rfl ?_
          refine al_skip' ⟨_, rfl, .inl (u2 rfl hb_53)⟩ rfl ?_
          refine al_skip' ⟨_, rfl, .inl (up_m rfl (u2 rfl hb_53))⟩ rfl ?_
          refine ar (ro_pickT (u4 rfl hb_53) ev_c) rfl <| ae5 (u2 rfl (u8 rfl s0_51)) (u2 rfl (u8 rfl s6_51)) (u2 rfl (u8 rfl s7_51)) (u2 rfl (u8 rfl s8_51)) up_h ?_; clear hb_53 s0_51 s44_51 s6_51 s7_51 s8_51; intro e_54 s0_54 s6_54 s7_54 s8_54 s56_54
          refine then_n <| aw_true s56_54 <| aw_seq <| at_ <| ar (ro_assign ev_c) rfl <| ar (ro_assign ev_c) rfl <| ae2 (up_m rfl up_h) up_h ?_; clear s0_54 s56_54 s6_54 s7_54 s8_54; intro e_56 s4_56 s5_56
          refine then_n <| aw_ret <| then_r <| block_r <| then_r <| then_r <| block_r <| then_r <| ret2 (.inr rfl) (by kernel_rfl) (resV_tmp s4_56) (resV_tmp s5_56) (.ro _ rfl) (.ro _ rfl) ?_
          clear s4_56 s5_56  ml_50
          (first | (refine num_bad fun hk => ?_; obtain ⟨n1, n2, n3, n4⟩ := num_no2 hk; first | omega | (have hz := n4 i.toNat (by omega) (by omega); omega)) | (have he := num_end (l := tx.data.toList) (D := D) (i := i) (n := n) hD (by omega) (by omega) (by omega) (by omega) p3; unfold numR; rw [he.1, if_pos rfl, he.2]; first | (rw [if_pos hA]; done) | (rw [if_neg (by omega)]; done)))
         replace hq_53 := bf hq_53
         refine al_ro' (ro_move (up_m rfl (u4 rfl s0_51))) ⟨_, rfl, hb_53⟩ rfl ?_
         refine al_ro' (ro_move (u2 rfl (u4 rfl s8_51))) ⟨_, rfl, (up_m rfl hb_53)⟩ rfl ?_
         refine al_ro' (ro_sindex (up_m rfl up_h) up_h qun9 (by omega) (by refine idx_str ?_; first | omega | (simp <;> omega; done) | (refine Nat.lt_of_lt_of_le (m := 256) ?_ (by decide +kernel); omega))) ⟨_, rfl, (u2 rfl hb_53)⟩ rfl ?_
         refine al_ro' (ro_gtr up_h ev_c) ⟨_, rfl, (up_m rfl (u2 rfl hb_53))⟩ rfl ?_
         refine ar (ro_pickF (u4 rfl hb_53) up_h) rfl <| ae5 (u2 rfl (u8 rfl s0_51)) (u2 rfl (u8 rfl s6_51)) (u2 rfl (u8 rfl s7_51)) (u2 rfl (u8 rfl s8_51)) up_h ?_; clear hb_53 s0_51 s44_51 s6_51 s7_51 s8_51; intro e_57 s0_57 s6_57 s7_57 s8_57 s56_57
         refine then_n <| aw_case s56_57 (fun hq_58 => ?_) (fun hq_58 => ?_)
         ·replace hq_58 := bt hq_58
          refine aw_seq <| at_ <| ar (ro_assign ev_c) rfl <| ar (ro_assign ev_c) rfl <| ae2 (up_m rfl up_h) up_h ?_; clear s0_57 s56_57 s6_57 s7_57 s8_57; intro e_59 s4_59 s5_59
          refine then_n <| aw_ret <| then_r <| block_r <| then_r <| then_r <| block_r <| then_r <| ret2 (.inr rfl) (by kernel_rfl) (resV_tmp s4_59) (resV_tmp s5_59) (.ro _ rfl) (.ro _ rfl) ?_
          clear s4_59 s5_59  ml_50
          (first | (refine num_bad fun hk => ?_; obtain ⟨n1, n2, n3, n4⟩ := num_no2 hk; first | omega | (have hz := n4 i.toNat (by omega) (by omega); omega)) | (have he := num_end (l := tx.data.toList) (D := D) (i := i) (n := n) hD (by omega) (by omega) (by omega) (by omega) p3; unfold numR; rw [he.1, if_pos rfl, he.2]; first | (rw [if_pos hA]; done) | (rw [if_neg (by omega)]; done)))
         replace hq_58 := bf hq_58
         refine aw_skip <| then_n <| at_ <| ar (ro_move s7_57) rfl ?_
         (refine ar (ro_mul' ev_c up_h ?_) rfl ?_; · (first | ((first | unfold In64 | unfold InU64 | unfold InU8); omega) | (simp only [ByteArray.size_append, size_mk, List.length_cons, List.length_nil] <;> omega) | omega))
         refine ar (ro_move (u2 rfl s0_57)) rfl <| ar (ro_move (up_m rfl (u2 rfl s8_57))) rfl <| ar (ro_sindex (up_m rfl up_h) up_h qun9 (by omega) (by refine idx_str ?_; first | omega | (simp <;> omega; done) | (refine Nat.lt_of_lt_of_le (m := 256) ?_ (by decide +kernel); omega))) rfl ?_
         (refine ar (ro_subB up_h ev_c ?_) rfl ?_; · (first | ((first | unfold In64 | unfold InU64 | unfold InU8); omega) | (simp only [ByteArray.size_append, size_mk, List.length_cons, List.length_nil] <;> omega) | omega))
         (refine ar (ro_cvI up_h (by kernel_rfl) (by kernel_rfl) ?_) rfl ?_; · (first | ((first | unfold In64 | unfold InU64 | unfold InU8); omega) | (simp only [ByteArray.size_append, size_mk, List.length_cons, List.length_nil] <;> omega) | omega))
         (refine ar (ro_add' (up_m rfl (u4 rfl up_h)) up_h ?_) rfl ?_; · (first | ((first | unfold In64 | unfold InU64 | unfold InU8); omega) | (simp only [ByteArray.size_append, size_mk, List.length_cons, List.length_nil] <;> omega) | omega))
         refine ar (ro_assign up_h) rfl <| ae4 (up_m rfl (u8 rfl s0_57)) (up_m rfl (u8 rfl s6_57)) up_h (up_m rfl (u8 rfl s8_57)) ?_; clear s0_57 s56_57 s6_57 s7_57 s8_57; intro e_60 s0_60 s6_60 s7_60 s8_60
         refine block_n <| then_n <| at_ <| ar (ro_move s8_60) rfl ?_
         (refine ar (ro_add' up_h ev_c ?_) rfl ?_; · (first | ((first | unfold In64 | unfold InU64 | unfold InU8); omega) | (simp only [ByteArray.size_append, size_mk, List.length_cons, List.length_nil] <;> omega) | omega))
         refine ar (ro_assign up_h) rfl <| ae4 (up_m rfl (u2 rfl s0_60)) (up_m rfl (u2 rfl s6_60)) (up_m rfl (u2 rfl s7_60)) up_h ?_; clear s0_60 s6_60 s7_60 s8_60; intro e_61 s0_61 s6_61 s7_61 s8_61
         refine then_n <| ⟨⟨_, _⟩, ⟨s8_61, s7_61, (s0_61.trans s0_49.symm), (s6_61.trans s6_49.symm), ml_50, ?_⟩, ?_⟩
         · (exact ⟨by omega, by omega, numI_step p3 p1 (by omega) (by omega) (by omega)⟩)
         · ((try dsimp only); omega)
        replace hq_52 := bf hq_52
        refine aw_exit <| then_x <| then_x <| block_hit <| then_n <| aw_seq <| aw_seq <| at_ <| ar (ro_move s6_51) rfl <| ar (ro_eql up_h ev_c) rfl ?_
        refine ae2 (u2 rfl s7_51) up_h ?_; clear s0_51 s44_51 s6_51 s7_51 s8_51; intro e_62 s7_62 s66_62
        refine then_n <| aw_case s66_62 (fun hq_63 => ?_) (fun hq_63 => ?_)
        · replace hq_63 := bt hq_63; cases hq_63
        replace hq_63 := bf hq_63
        refine aw_skip <| then_n <| aw_seq <| at_ <| ar (ro_move s7_62) rfl <| ar (ro_assign up_h) rfl <| ar (ro_assign ev_c) rfl <| ae2 (up_m rfl up_h) up_h ?_; clear s66_62 s7_62; intro e_66 s4_66 s5_66
        refine then_n <| aw_ret <| ret2 (.inr rfl) (by kernel_rfl) (resV_tmp s4_66) (resV_tmp s5_66) (.ro _ rfl) (.ro _ rfl) ?_
        clear s4_66 s5_66  ml_50
        (first | (refine num_bad fun hk => ?_; obtain ⟨n1, n2, n3, n4⟩ := num_no2 hk; first | omega | (have hz := n4 i.toNat (by omega) (by omega); omega)) | (have he := num_end (l := tx.data.toList) (D := D) (i := i) (n := n) hD (by omega) (by omega) (by omega) (by omega) p3; unfold numR; rw [he.1, if_pos rfl, he.2]; first | (rw [if_pos hA]; done) | (rw [if_neg (by omega)]; done)))
end Go.Proofs.YtfmjmngkgmlghaaDoor

/- A text cut at each such byte; numerals as the program reads them. No conditions on a program. -/
namespace Go.Proofs.YtfmjmngkgmlghaaDoor
open Go Go.RowKit Go.Proofs Go.Lib
set_option linter.unusedSimpArgs false
set_option linter.unusedVariables false
theorem z6_sl72 : SlIs Tryd.prog 72 9 1 16 (.string ByteArray.empty) := ⟨by kernel_rfl, by kernel_rfl, by kernel_rfl⟩

/-- Where the piece that is open begins, and the pieces that are closed, behind so many bytes. -/
def opn (tx : ByteArray) (c : UInt8) : Nat → Nat
  | 0 => 0
  | i + 1 => if tx.data.toList.getD i default = c then i + 1 else opn tx c i
def cls (tx : ByteArray) (c : UInt8) : Nat → List ByteArray
  | 0 => []
  | i + 1 => if tx.data.toList.getD i default = c then cls tx c i ++ [tx.extract (opn tx c i) i] else cls tx c i
def pcs (tx : ByteArray) (c : UInt8) : List ByteArray := cls tx c tx.size ++ [tx.extract (opn tx c tx.size) tx.size]
theorem opn_le (tx : ByteArray) (c : UInt8) : ∀ i : Nat, opn tx c i ≤ i
  | 0 => Nat.le_refl _
  | i + 1 => by have := opn_le tx c i; simp only [opn]; split <;> omega
theorem cls_len (tx : ByteArray) (c : UInt8) : ∀ i : Nat, (cls tx c i).length ≤ i
  | 0 => Nat.le_refl _
  | i + 1 => by
    have := cls_len tx c i
    simp only [cls]; split
    · rw [List.length_append, List.length_singleton]; omega
    · omega
def sxE (b : ByteArray) : List AV := [.v (.string b)]
theorem one_sxE (b : ByteArray) : [[AV.v (.string b)]] = [b].map sxE := rfl
theorem opn_T {tx : ByteArray} {c : UInt8} {i : Nat} (h : tx.data.toList.getD i default = c) : opn tx c (i + 1) = i + 1 ∧ cls tx c (i + 1) = cls tx c i ++ [tx.extract (opn tx c i) i] := by
  simp only [opn, cls]; rw [if_pos h, if_pos h]; exact ⟨rfl, rfl⟩
theorem opn_F {tx : ByteArray} {c : UInt8} {i : Nat} (h : ¬ tx.data.toList.getD i default = c) : opn tx c (i + 1) = opn tx c i ∧ cls tx c (i + 1) = cls tx c i := by
  simp only [opn, cls]; rw [if_neg h, if_neg h]; exact ⟨rfl, rfl⟩
theorem u8_of {a b : UInt8} (h : (a.toNat : Int) = b.toNat) : a = b := UInt8.toNat_inj.1 (by omega)
theorem u8_not {a b : UInt8} (h : ¬ (a.toNat : Int) = b.toNat) : ¬ a = b := fun e => h (by rw [e])
theorem cut_T {tx : ByteArray} {c : UInt8} {i f : Int} {xs : List ByteArray} (p1 : 0 ≤ i) (p3 : f = opn tx c i.toNat) (p4 : xs = cls tx c i.toNat) (h : ((tx.data.toList.getD i.toNat default).toNat : Int) = c.toNat) :
    i + 1 = opn tx c (i + 1).toNat ∧ xs ++ [tx.extract f.toNat i.toNat] = cls tx c (i + 1).toNat := by
  have hh := opn_T (u8_of h)
  rw [show (i + 1).toNat = i.toNat + 1 by omega, hh.1, hh.2, p4, p3]
  exact ⟨by omega, by simp⟩
theorem cut_F {tx : ByteArray} {c : UInt8} {i f : Int} {xs : List ByteArray} (p1 : 0 ≤ i) (p3 : f = opn tx c i.toNat) (p4 : xs = cls tx c i.toNat) (h : ¬ ((tx.data.toList.getD i.toNat default).toNat : Int) = c.toNat) :
    f = opn tx c (i + 1).toNat ∧ xs = cls tx c (i + 1).toNat := by
  have hh := opn_F (u8_not h)
  rw [show (i + 1).toNat = i.toNat + 1 by omega, hh.1, hh.2]
  exact ⟨p3, p4⟩
set_option maxRecDepth 100000 in
set_option maxHeartbeats 4000000 in
theorem bCut_ok (tx : ByteArray) (c : UInt8) (hl : tx.size ≤ 1000000) : FnOk Tryd.prog 30 [.v (.string tx), .v (.int .u8 c.toNat)] (fun q => q = .row 1 ((pcs tx c).map sxE)) := by
  refine fnOk_of (fn := Tryd.f30) 34 (by kernel_rfl) rfl (by kernel_rfl) (Nat.le_of_ble_eq_true rfl) ?_
  intro e_0 m_0 hA hm_0
  have s0_0 : evA e_0 (.tmp 0) = _ := hA 0 _ rfl
  have s1_0 : evA e_0 (.tmp 1) = _ := hA 1 _ rfl
  have ml_0 : m_0.length = 0 := by rw [hm_0]; rfl
  clear hA hm_0
  refine aw_seq <| at_ <| ar (ro_assign ev_c) rfl <| ae2 (up_m rfl s0_0) (up_m rfl s1_0) ?_; clear s0_0 s1_0; intro e_1 s0_1 s1_1
  refine then_n <| aw_seq <| at_ <| ar (ro_assign ev_c) rfl <| ae3 (up_m rfl s0_1) (up_m rfl s1_1) up_h ?_; clear s0_1 s1_1; intro e_2 s0_2 s1_2 s5_2
  refine then_n <| aw_seq <| at_ <| ar (ro_assign ev_c) rfl <| ae4 (up_m rfl s0_2) (up_m rfl s1_2) (up_m rfl s5_2) up_h ?_; clear s0_2 s1_2 s5_2; intro e_3 s0_3 s1_3 s5_3 s6_3
  refine then_n <| aw_seq <| aw_seq <| at_ <| ar (ro_assign ev_c) rfl <| ae5 (up_m rfl s0_3) (up_m rfl s1_3) (up_m rfl s5_3) (up_m rfl s6_3) up_h ?_; clear s0_3 s1_3 s5_3 s6_3; intro e_4 s0_4 s1_4 s5_4 s6_4 s7_4
  refine then_n <| aw_block <| aw_adopt 9 1 s5_4 ml_0 (fun m_5 e_5 hm_5 he_5 => ?_)
  have mo0_5 := m_push hm_5 ml_0
  have ml_5 := m_push_l hm_5 ml_0
  have ml_5 : _ = 1 := ml_5
  have s0_5 : evA e_5 (.tmp 0) = _ := (congrArg (fun q => evA q (.tmp 0)) he_5).trans (up_m rfl s0_4)
  have s1_5 : evA e_5 (.tmp 1) = _ := (congrArg (fun q => evA q (.tmp 1)) he_5).trans (up_m rfl s1_4)
  have s5_5 : evA e_5 (.tmp 5) = _ := (congrArg (fun q => evA q (.tmp 5)) he_5).trans up_h
  have s6_5 : evA e_5 (.tmp 6) = _ := (congrArg (fun q => evA q (.tmp 6)) he_5).trans (up_m rfl s6_4)
  have s7_5 : evA e_5 (.tmp 7) = _ := (congrArg (fun q => evA q (.tmp 7)) he_5).trans (up_m rfl s7_4)
  clear hm_5 he_5
  refine aw_loop (S := (Int × Int × List ByteArray)) (fun s e mem => match s with | ⟨i, f, xs⟩ => (evA e (.tmp 7) = .v (.int .i64 i)) ∧ (evA e (.tmp 6) = .v (.int .i64 f)) ∧ (evA e (.tmp 0) = evA e_5 (.tmp 0)) ∧ (evA e (.tmp 1) = evA e_5 (.tmp 1)) ∧ (∃ j, evA e (.tmp 5) = .own j ∧ mem[j]? = some (.row 9 1 (xs.map sxE)) ∧ True) ∧ (∃ n, mem.length = n ∧ 1 ≤ n) ∧ ((0 ≤ i ∧ i ≤ tx.size ∧ f = opn tx c i.toNat ∧ xs = cls tx c i.toNat))) (fun s => match s with | ⟨i, f, xs⟩ => (tx.size - i).toNat) ⟨_, _, []⟩ ⟨s7_5, s6_5, rfl, rfl, ⟨_, s5_5, mo0_5, trivial⟩, ⟨_, ml_5, Nat.le_refl _⟩, ?_⟩ ?_
  · (exact ⟨by omega, by omega, rfl, rfl⟩)
  · rintro ⟨i, f, xs⟩ e_6 m_6 ⟨s7_6, s6_6, k0_6, k1_6, ⟨j5_6, s5_6, mo_j5_6, -⟩, ⟨n_6, ml_6, hn_6⟩, hinv⟩
    have s0_6 := k0_6.trans s0_5
    have s1_6 := k1_6.trans s1_5
    have jl5_6 := m_lt mo_j5_6 ml_6
    (obtain ⟨p1, p2, p3, p4⟩ := hinv; have ho := opn_le tx c i.toNat; have hxl : xs.length ≤ 1000000 := (by rw [p4]; have := cls_len tx c i.toNat; omega))
    refine aw_seq <| aw_seq <| at_ <| ar (ro_move s7_6) rfl <| ar (ro_move (up_m rfl s0_6)) rfl <| ar (ro_len_str up_h rfl qun9) rfl <| ar (ro_lss (u2 rfl up_h) up_h) rfl <| ae6 (u4 rfl s0_6) (u4 rfl s1_6) (u4 rfl s5_6) (u4 rfl s6_6) (u4 rfl s7_6) up_h ?_; clear s0_6 s1_6 s5_6 s6_6 s7_6; intro e_7 s0_7 s1_7 s5_7 s6_7 s7_7 s11_7
    refine then_n <| aw_case s11_7 (fun hq_8 => ?_) (fun hq_8 => ?_)
    ·replace hq_8 := bt hq_8
     refine aw_skip <| then_n <| aw_seq <| aw_block <| aw_seq <| at_ <| ar (ro_move s0_7) rfl <| ar (ro_move (up_m rfl s7_7)) rfl <| ar (ro_sindex (up_m rfl up_h) up_h qun9 (by omega) (by refine idx_str ?_; first | omega | (simp <;> omega; done) | (refine Nat.lt_of_lt_of_le (m := 256) ?_ (by decide +kernel); omega))) rfl ?_
     refine ar (ro_move (up_m rfl (u2 rfl s1_7))) rfl <| ar (ro_eql (up_m rfl up_h) up_h) rfl ?_
     refine ae6 (up_m rfl (u4 rfl s0_7)) (up_m rfl (u4 rfl s1_7)) (up_m rfl (u4 rfl s5_7)) (up_m rfl (u4 rfl s6_7)) (up_m rfl (u4 rfl s7_7)) up_h ?_; clear s0_7 s11_7 s1_7 s5_7 s6_7 s7_7; intro e_9 s0_9 s1_9 s5_9 s6_9 s7_9 s18_9
     refine then_n <| aw_case s18_9 (fun hq_10 => ?_) (fun hq_10 => ?_)
     ·replace hq_10 := bt hq_10
      refine aw_seq <| at_ <| ar (ro_move s5_9) rfl <| ar (ro_move (up_m rfl s0_9)) rfl <| ar (ro_move (u2 rfl s6_9)) rfl <| ar (ro_move (up_m rfl (u2 rfl s7_9))) rfl <| ar (ro_sslice (u2 rfl up_h) (up_m rfl up_h) up_h qun9 (by omega) (by omega) (by omega)) rfl ?_
      refine ar (ro_lit z6_sl72 (evP_cons up_h evP_nil) rfl rfl rfl rfl) rfl <| al_stm (st_app z6_sl72 rfl ml_6 mo_j5_6 (up_m rfl (u4 rfl up_h)) up_h (by rfl) (by simp only [lnS] <;> omega)) trivial rfl (fun m_11 hm_11 => ?_)
      have mon_6_11 := m_swap hm_11 ml_6
      simp only [pS, Value.cells, Nat.reduceAdd, one_sxE, app_m] at mon_6_11
      have ml_11 := m_swap_l hm_11 ml_6
      clear hm_11 mo_j5_6
      refine ar (ro_assign up_h) rfl <| ae4 (u8 rfl s0_9) (u8 rfl s1_9) up_h (u8 rfl s7_9) ?_; clear s0_9 s18_9 s1_9 s5_9 s6_9 s7_9; intro e_12 s0_12 s1_12 s5_12 s7_12
      refine then_n <| at_ <| ar (ro_move s7_12) rfl ?_
      (refine ar (ro_add' up_h ev_c ?_) rfl ?_; · (unfold In64; omega))
      refine ar (ro_assign up_h) rfl <| ae5 (up_m rfl (u2 rfl s0_12)) (up_m rfl (u2 rfl s1_12)) (up_m rfl (u2 rfl s5_12)) up_h (up_m rfl (u2 rfl s7_12)) ?_; clear s0_12 s1_12 s5_12 s7_12; intro e_13 s0_13 s1_13 s5_13 s6_13 s7_13
      refine block_n <| then_n <| at_ <| ar (ro_move s7_13) rfl ?_
      (refine ar (ro_add' up_h ev_c ?_) rfl ?_; · (unfold In64; omega))
      refine ar (ro_assign up_h) rfl <| ae5 (up_m rfl (u2 rfl s0_13)) (up_m rfl (u2 rfl s1_13)) (up_m rfl (u2 rfl s5_13)) (up_m rfl (u2 rfl s6_13)) up_h ?_; clear s0_13 s1_13 s5_13 s6_13 s7_13; intro e_14 s0_14 s1_14 s5_14 s6_14 s7_14
      refine then_n <| ⟨⟨_, _, _⟩, ⟨s7_14, s6_14, (s0_14.trans s0_5.symm), (s1_14.trans s1_5.symm), ⟨_, s5_14, mon_6_11, trivial⟩, ⟨_, ml_11, by omega⟩, ?_⟩, ?_⟩
      · (first | exact ⟨by omega, by omega, cut_T p1 p3 p4 (by assumption)⟩ | exact ⟨by omega, by omega, cut_F p1 p3 p4 (by assumption)⟩)
      · ((try dsimp only); omega)
     replace hq_10 := bf hq_10
     refine aw_skip <| block_n <| then_n <| at_ <| ar (ro_move s7_9) rfl ?_
     (refine ar (ro_add' up_h ev_c ?_) rfl ?_; · (unfold In64; omega))
     refine ar (ro_assign up_h) rfl <| ae5 (up_m rfl (u2 rfl s0_9)) (up_m rfl (u2 rfl s1_9)) (up_m rfl (u2 rfl s5_9)) (up_m rfl (u2 rfl s6_9)) up_h ?_; clear s0_9 s18_9 s1_9 s5_9 s6_9 s7_9; intro e_15 s0_15 s1_15 s5_15 s6_15 s7_15
     refine then_n <| ⟨⟨_, _, _⟩, ⟨s7_15, s6_15, (s0_15.trans s0_5.symm), (s1_15.trans s1_5.symm), ⟨_, s5_15, mo_j5_6, trivial⟩, ⟨_, ml_6, by omega⟩, ?_⟩, ?_⟩
     · (first | exact ⟨by omega, by omega, cut_T p1 p3 p4 (by assumption)⟩ | exact ⟨by omega, by omega, cut_F p1 p3 p4 (by assumption)⟩)
     · ((try dsimp only); omega)
    replace hq_8 := bf hq_8
    refine aw_exit <| then_x <| then_x <| block_hit <| then_n <| aw_seq <| at_ <| ar (ro_move s5_7) rfl <| ar (ro_move (up_m rfl s0_7)) rfl <| ar (ro_move (u2 rfl s6_7)) rfl <| ar (ro_sslo (up_m rfl up_h) up_h qun9 (by omega) (by omega)) rfl ?_
    refine ar (ro_lit z6_sl72 (evP_cons up_h evP_nil) rfl rfl rfl rfl) rfl <| al_stm (st_app z6_sl72 rfl ml_6 mo_j5_6 (u4 rfl up_h) up_h (by rfl) (by simp only [lnS] <;> omega)) trivial rfl (fun m_16 hm_16 => ?_)
    have mon_6_16 := m_swap hm_16 ml_6
    simp only [pS, Value.cells, Nat.reduceAdd, one_sxE, app_m] at mon_6_16
    have ml_16 := m_swap_l hm_16 ml_6
    clear hm_16 mo_j5_6
    refine ar (ro_assign up_h) rfl <| ae1 up_h ?_; clear s0_7 s11_7 s1_7 s5_7 s6_7 s7_7; intro e_17 s4_17
    refine then_n <| aw_ret <| ret1 (.inr rfl) (by kernel_rfl) (resV_tmp s4_17) (.own _ _ _ _ mon_6_16) ?_
    clear s4_17 mon_6_16 ml_16
    (have hi : i.toNat = tx.size := (by omega); unfold pcs; rw [← hi, ← p4]; rw [show f.toNat = opn tx c i.toNat by omega])
theorem opn_none {tx : ByteArray} {c : UInt8} {j : Nat} : ∀ {i : Nat}, j ≤ i → (∀ k : Nat, j ≤ k → k < i → ¬ tx.data.toList.getD k default = c) → opn tx c i = opn tx c j ∧ cls tx c i = cls tx c j
  | 0, hj, _ => by
    have h0 : j = 0 := by omega
    subst h0
    exact ⟨rfl, rfl⟩
  | i + 1, hj, h => by
    by_cases he : j = i + 1
    · subst he; exact ⟨rfl, rfl⟩
    · have ih := opn_none (tx := tx) (c := c) (j := j) (i := i) (by omega) fun k h1 h2 => h k h1 (by omega)
      have hh := opn_F (h i (by omega) (by omega))
      exact ⟨hh.1.trans ih.1, hh.2.trans ih.2⟩
theorem cls_mono (tx : ByteArray) (c : UInt8) (i : Nat) : ∀ k : Nat, (cls tx c i).length ≤ (cls tx c (i + k)).length
  | 0 => Nat.le_refl _
  | k + 1 => by
    have := cls_mono tx c i k
    rw [show i + (k + 1) = (i + k) + 1 by omega]
    simp only [cls]; split
    · rw [List.length_append]; omega
    · exact this
theorem ext_bs (tx : ByteArray) (a b : Nat) : tx.extract a b = bs ((tx.data.toList.drop a).take (b - a)) := by
  rw [← bs_self tx, bs_ext]; rfl
/-- A text of two pieces: what stands before and behind the first such byte. -/
theorem pcs_two (tx : ByteArray) (c : UInt8) : (∀ j : Nat, indexByte tx.data.toList c = j → (pcs tx c).length = 2 → pcs tx c = [bs (cutA tx.data.toList c), bs (cutB tx.data.toList c)]) ∧
    ((pcs tx c).length = 2 → 0 ≤ indexByte tx.data.toList c) ∧ (0 ≤ indexByte tx.data.toList c → (∀ k : Nat, (cutB tx.data.toList c)[k]? ≠ some c) → (pcs tx c).length = 2) := by
  have hsz : tx.size = tx.data.toList.length := size_eq tx
  have first : ∀ j : Nat, indexByte tx.data.toList c = j → j < tx.size ∧ cls tx c (j + 1) = [tx.extract 0 j] ∧ opn tx c (j + 1) = j + 1 := fun j hj => by
    obtain ⟨h1, h2⟩ := indexByte_some hj
    have hlt : j < tx.data.toList.length := (List.getElem?_eq_some_iff.1 h1).1
    have hn := opn_none (tx := tx) (c := c) (j := 0) (i := j) (by omega) fun k _ hk e => h2 k hk (by rw [getD_some (by omega), e])
    have hj' : tx.data.toList.getD j default = c := by rw [getD_some hlt] at h1; exact Option.some.inj h1
    have hh := opn_T hj'
    rw [hn.1, hn.2] at hh
    exact ⟨by omega, hh.2, hh.1⟩
  have behind : ∀ j : Nat, indexByte tx.data.toList c = j → (pcs tx c).length = 2 → pcs tx c = [bs (cutA tx.data.toList c), bs (cutB tx.data.toList c)] := fun j hj h2 => by
    obtain ⟨q1, q2, q3⟩ := first j hj
    have hc : ∀ k : Nat, j + 1 ≤ k → k < tx.size → ¬ tx.data.toList.getD k default = c := fun k h3 h4 e => by
      have m1 := cls_mono tx c (j + 1) (k - (j + 1))
      rw [show j + 1 + (k - (j + 1)) = k by omega, q2] at m1
      have m2 := (opn_T (tx := tx) (c := c) (i := k) e).2
      have m3 := cls_mono tx c (k + 1) (tx.size - (k + 1))
      rw [show k + 1 + (tx.size - (k + 1)) = tx.size by omega, m2, List.length_append] at m3
      unfold pcs at h2
      rw [List.length_append] at h2
      simp only [List.length_singleton] at m1 m3 h2
      omega
    have hn := opn_none (tx := tx) (c := c) (j := j + 1) (i := tx.size) (by omega) hc
    unfold pcs
    rw [hn.1, hn.2, q2, q3, ext_bs, ext_bs]
    unfold cutA cutB
    rw [if_pos (by omega), if_pos (by omega), show (indexByte tx.data.toList c).toNat = j by omega]
    have : (tx.data.toList.drop (j + 1)).take (tx.size - (j + 1)) = tx.data.toList.drop (j + 1) := List.take_of_length_le (by rw [List.length_drop]; omega)
    rw [this]; simp
  refine ⟨behind, fun h2 => ?_, fun h0 hb => ?_⟩
  · apply Classical.byContradiction
    intro hneg
    have hge := indexByte_ge tx.data.toList c
    have hn := opn_none (tx := tx) (c := c) (j := 0) (i := tx.size) (by omega) fun k _ hk e => indexByte_none (show indexByte tx.data.toList c = -1 by omega) k (by rw [getD_some (by omega), e])
    unfold pcs at h2
    rw [hn.2] at h2
    simp [cls] at h2
  · obtain ⟨j, hj⟩ := Int.eq_ofNat_of_zero_le h0
    obtain ⟨q1, q2, q3⟩ := first j hj
    have hn := opn_none (tx := tx) (c := c) (j := j + 1) (i := tx.size) (by omega) fun k h3 h4 e => hb (k - (j + 1)) (by
      unfold cutB
      rw [if_pos h0, show (indexByte tx.data.toList c).toNat = j by omega, List.getElem?_drop, show j + 1 + (k - (j + 1)) = k by omega, getD_some (by omega), e])
    unfold pcs
    rw [hn.2, q2]; rfl
/-- A numeral has no such byte. -/
theorem numK_byte {l : List UInt8} {D : Nat} {c : UInt8} (h : numK l D = true) (hc : c.toNat < 45) : ∀ k : Nat, l[k]? ≠ some c := fun k hk => by
  obtain ⟨n1, n2, n3, n4⟩ := num_no2 h
  have hl := (List.getElem?_eq_some_iff.1 hk).1
  rw [getD_some hl] at hk
  have hk' := Option.some.inj hk
  have := numA_two l
  by_cases hka : numA l ≤ k
  · have := n4 k hka hl
    rw [hk'] at this; omega
  · have h1 : numA l = 1 := by omega
    have h2 := ((numA_dec l).1 h1).2
    obtain rfl : k = 0 := by omega
    rw [hk'] at h2; omega
theorem numK_nil (D : Nat) : numK [] D = false := rfl
end Go.Proofs.YtfmjmngkgmlghaaDoor

/- Numerals as the programs of chapters 3 and 5 read them. No conditions on a program. -/
namespace Go.Proofs.YtfmjmngkgmlghaaDoor
open Go Go.RowKit Go.Proofs Go.Lib
set_option linter.unusedSimpArgs false
set_option linter.unusedVariables false
theorem cmp_bs (l : List UInt8) (tx : ByteArray) : ((⟨l.toArray⟩ : ByteArray).toList == tx.toList) = decide (l = tx.data.toList) := by
  have h1 : (⟨l.toArray⟩ : ByteArray).toList = l := bs_toList l
  rw [h1, toList_data]
  rw [Bool.eq_iff_iff]; simp
theorem numK_good {l : List UInt8} {v : Int} (h : atoiAll l = .ok v) (D : Nat) : numK l D = (decide (itoa v = l) && decide ((trimPrefix l [45]).length ≤ D)) ∧ numN l = v := by
  unfold numK numN; rw [h]; exact ⟨rfl, rfl⟩
theorem numK_bad {l : List UInt8} (h : ∀ v, atoiAll l ≠ .ok v) (D : Nat) : numK l D = false := by
  unfold numK
  rcases hq : atoiAll l with v | _ | _
  · exact absurd hq (h v)
  · rfl
  · rfl
section
variable (es er : Value) (hes : isE es) (her : isE er) (tx : ByteArray) (hl : tx.size ≤ 1000000)
include hl
include hes her
end
end Go.Proofs.YtfmjmngkgmlghaaDoor

/- Contracts of chapter 5: rides, places, what is lost along a piece. No conditions on a program. -/
namespace Go.Proofs.YtfmjmngkgmlghaaDoor
open Go Go.RowKit Go.Proofs
set_option linter.unusedSimpArgs false
set_option linter.unusedVariables false
section
variable (nm : ByteArray) (ps : List Piece) (hs : nm.size ≤ 1000000000) (hp : ps.length ≤ 1000000000)
include hs hp
end
/-- All pieces are right. -/
def Ok (ps : List Piece) : Prop := ∀ p ∈ ps, pieceB p = true
theorem Ok.at {ps : List Piece} (h : Ok ps) (i : Nat) : (0 ≤ (ps.getD i default).len ∧ (ps.getD i default).len ≤ 10000000) ∧ (-100 ≤ (ps.getD i default).grad ∧ (ps.getD i default).grad ≤ 100) ∧ (0 ≤ (ps.getD i default).lim ∧ (ps.getD i default).lim ≤ 20000000000) := by
  by_cases hi : i < ps.length
  · have e : ps.getD i default = ps[i] := by simp [List.getD_eq_getElem?_getD, hi]
    have := h ps[i] (List.getElem_mem hi)
    rw [e]
    simp only [pieceB, withinB, Bool.and_eq_true, decide_eq_true_eq] at this
    omega
  · have e : ps.getD i default = default := by simp [List.getD_eq_getElem?_getD, List.getElem?_eq_none (Nat.le_of_not_lt hi)]
    rw [e]
    decide
section
variable (nm : ByteArray) (ps : List Piece) (hok : Ok ps) (b d v : Int) (i : Int) (h0 : 0 ≤ i) (h1 : i < ps.length)
include hok h0 h1
end
end Go.Proofs.YtfmjmngkgmlghaaDoor

/- Contracts of chapter 5: places, limits. No conditions on a program. -/
namespace Go.Proofs.YtfmjmngkgmlghaaDoor
open Go Go.RowKit Go.Proofs
set_option linter.unusedSimpArgs false
set_option linter.unusedVariables false
end Go.Proofs.YtfmjmngkgmlghaaDoor

/- Contracts of chapter 5: limits, curves. No conditions on a program. -/
namespace Go.Proofs.YtfmjmngkgmlghaaDoor
open Go Go.RowKit Go.Proofs
set_option linter.unusedSimpArgs false
set_option linter.unusedVariables false
end Go.Proofs.YtfmjmngkgmlghaaDoor

