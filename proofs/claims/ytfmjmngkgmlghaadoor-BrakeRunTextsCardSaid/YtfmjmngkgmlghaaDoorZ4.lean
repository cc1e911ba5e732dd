/- The reference's numerals: written. No conditions on a program. -/
import Derived.Test.YtfmjmngkgmlghaaDoorT0
import Derived.Test.YtfmjmngkgmlghaaDoorZ3
import Derived.Test.YtfmjmngkgmlghaaDoorM1
namespace Go.Proofs.YtfmjmngkgmlghaaDoor
open Go Go.RowKit Go.Proofs Go.Lib
set_option linter.unusedSimpArgs false
set_option linter.unusedVariables false
theorem z4_hcf56 : ∀ args w, (callFunc 56 args).run Tryd.prog w = .ok (.enter 56 args) w := fun _ _ => by kernel_rfl
theorem z4_sl113 : SlIs Tryd.prog 113 5 1 1 (.int .u8 0) := ⟨by kernel_rfl, by kernel_rfl, by kernel_rfl⟩

/-- What is written, and what is left to write. -/
def decI (n m : Int) (l : List UInt8) : Prop := (m = 0 ∧ l = decDigits n.natAbs) ∨ (m ≠ 0 ∧ decDigits m.natAbs ++ l = decDigits n.natAbs)
theorem decI_step {n m : Int} {l : List UInt8} (hm : m ≠ 0) (h : decI n m l) {x : UInt8} (hx : x = UInt8.ofNat (48 + (m.tmod 10).natAbs)) : decI n (m.tdiv 10) ([x] ++ l) := by
  have hd : (m.tdiv 10).natAbs = m.natAbs / 10 := by rw [Int.natAbs_tdiv]; rfl
  have hr : (m.tmod 10).natAbs = m.natAbs % 10 := by rw [Int.natAbs_tmod]; rfl
  subst hx
  rw [hr]
  rcases h with ⟨h0, _⟩ | ⟨_, h1⟩
  · exact absurd h0 hm
  · by_cases h2 : m.natAbs < 10
    · left
      refine ⟨by omega, ?_⟩
      rw [← h1, dec_small h2, Nat.mod_eq_of_lt h2]
    · right
      refine ⟨by omega, ?_⟩
      rw [← h1, dec_big h2, hd]; simp
theorem decI_len {n m : Int} {l : List UInt8} (hn : In64 n) (h : decI n m l) : l.length ≤ 25 := by
  have := itoa_length_le n (by unfold In64 at hn; omega) (by unfold In64 at hn; omega)
  have h2 : (decDigits n.natAbs).length ≤ (itoa n).length := by
    unfold itoa
    split
    · simp
    · rw [show n.toNat = n.natAbs by omega]; exact Nat.le_refl _
  rcases h with ⟨_, h1⟩ | ⟨_, h1⟩
  · rw [h1]; omega
  · have := congrArg List.length h1
    rw [List.length_append] at this
    omega
theorem tdm (m : Int) : (m.tmod 10).natAbs ≤ 9 ∧ (m.tdiv 10).natAbs = m.natAbs / 10 := by
  have hd : (m.tdiv 10).natAbs = m.natAbs / 10 := by rw [Int.natAbs_tdiv]; rfl
  have hr : (m.tmod 10).natAbs = m.natAbs % 10 := by rw [Int.natAbs_tmod]; rfl
  omega
theorem sizeW_abs (m : Int) : sizeW m = m.natAbs := by unfold sizeW; omega
set_option maxRecDepth 100000 in
set_option maxHeartbeats 4000000 in
theorem decimal_ok (n : Int) (hn : In64 n) : FnOk Tryd.prog 32 [.v (.int .i64 n)] (fun q => q = .v (.string (bs (itoa n)))) := by
  have hn' := hn
  unfold In64 at hn'
  refine fnOk_of (fn := Tryd.f32) 27 (by kernel_rfl) rfl (by kernel_rfl) (Nat.le_of_ble_eq_true rfl) ?_
  intro e_0 m_0 hA hm_0
  have s0_0 : evA e_0 (.tmp 0) = _ := hA 0 _ rfl
  have ml_0 : m_0.length = 0 := by rw [hm_0]; rfl
  clear hA hm_0
  refine aw_seq <| at_ <| ar (ro_assign ev_c) rfl <| ae1 (up_m rfl s0_0) ?_; clear s0_0; intro e_1 s0_1
  refine then_n <| aw_seq <| aw_seq <| at_ <| ar (ro_move s0_1) rfl <| ar (ro_eql up_h ev_c) rfl ?_
  refine ae2 (u2 rfl s0_1) up_h ?_; clear s0_1; intro e_2 s0_2 s7_2
  refine then_n <| aw_case s7_2 (fun hq_3 => ?_) (fun hq_3 => ?_)
  · (first | replace hq_3 := bnt hq_3 | replace hq_3 := bnf hq_3 | replace hq_3 := bt hq_3 | replace hq_3 := bf hq_3 | replace hq_3 := bt' hq_3 | replace hq_3 := bf' hq_3 | skip)
    first
    | (cases hq_3; done) | (exfalso; omega)
    | (
       refine aw_seq <| at_ <| ar (ro_assign ev_c) rfl <| ae1 up_h ?_; clear s0_2 s7_2; intro e_4 s2_4
       refine then_n <| aw_ret <| then_r <| ret1 (.inr rfl) (by kernel_rfl) (resV_tmp s2_4) (.ro _ rfl) ?_
       clear s2_4  ml_0
       (have h0 : n = 0 := (by omega); rw [h0]; unfold itoa; rw [if_neg (by decide), show (0 : Int).toNat = 0 from rfl, dec_small (by decide)]; rfl))
  · (first | replace hq_3 := bnt hq_3 | replace hq_3 := bnf hq_3 | replace hq_3 := bt hq_3 | replace hq_3 := bf hq_3 | replace hq_3 := bt' hq_3 | replace hq_3 := bf' hq_3 | skip)
    first
    | (cases hq_3; done) | (exfalso; omega)
    | (
       refine aw_skip <| then_n <| aw_seq <| at_ <| ar (ro_assign ev_c) rfl <| ar (ro_assign ev_c) rfl <| ae3 (u2 rfl s0_2) (up_m rfl up_h) up_h ?_; clear s0_2 s7_2; intro e_5 s0_5 s3_5 s4_5
       refine then_n <| aw_seq <| aw_seq <| at_ <| ar (ro_move s0_5) rfl <| ar (ro_lss up_h ev_c) rfl <| ae4 (u2 rfl s0_5) (u2 rfl s3_5) (u2 rfl s4_5) up_h ?_; clear s0_5 s3_5 s4_5; intro e_6 s0_6 s3_6 s4_6 s9_6
       refine then_n <| aw_case s9_6 (fun hq_7 => ?_) (fun hq_7 => ?_)
       · (first | replace hq_7 := bnt hq_7 | replace hq_7 := bnf hq_7 | replace hq_7 := bt hq_7 | replace hq_7 := bf hq_7 | replace hq_7 := bt' hq_7 | replace hq_7 := bf' hq_7 | skip)
         first
         | (cases hq_7; done) | (exfalso; omega)
         | (
            refine at_ <| ar (ro_assign ev_c) rfl <| ae3 (up_m rfl s0_6) (up_m rfl s3_6) up_h ?_; clear s0_6 s3_6 s4_6 s9_6; intro e_8 s0_8 s3_8 s4_8
            refine then_n <| aw_seq <| aw_block <| aw_loop (S := (Int × List UInt8)) (fun s e mem => match s with | ⟨m, l⟩ => (evA e (.tmp 0) = .v (.int .i64 m)) ∧ (evA e (.tmp 3) = .v (.string (bs l))) ∧ (evA e (.tmp 4) = evA e_8 (.tmp 4)) ∧ (mem.length = 0) ∧ ((m.natAbs ≤ n.natAbs ∧ decI n m l))) (fun s => match s with | ⟨m, l⟩ => m.natAbs) ⟨_, []⟩ ⟨s0_8, s3_8, rfl, ml_0, ?_⟩ ?_
            · (exact ⟨by omega, .inr ⟨by omega, by simp⟩⟩)
            · rintro ⟨m, l⟩ e_9 m_9 ⟨s0_9, s3_9, k4_9, ml_9, hinv⟩
              have s4_9 := k4_9.trans s4_8
              (obtain ⟨p1, p2⟩ := hinv; obtain ⟨t1, t2⟩ := tdm m; have hsz := sizeW_abs (m.tmod 10); have hll := decI_len hn p2; have hbl := bs_size l)
              refine aw_seq <| aw_seq <| at_ <| ar (ro_move s0_9) rfl <| ar (ro_neq up_h ev_c) rfl <| ae4 (u2 rfl s0_9) (u2 rfl s3_9) (u2 rfl s4_9) up_h ?_; clear s0_9 s3_9 s4_9; intro e_10 s0_10 s3_10 s4_10 s11_10
              refine then_n <| aw_case s11_10 (fun hq_11 => ?_) (fun hq_11 => ?_)
              · (first | replace hq_11 := bnt hq_11 | replace hq_11 := bnf hq_11 | replace hq_11 := bt hq_11 | replace hq_11 := bf hq_11 | replace hq_11 := bt' hq_11 | replace hq_11 := bf' hq_11 | skip)
                first
                | (cases hq_11; done) | (exfalso; omega)
                | (
                   refine aw_skip <| then_n <| aw_block <| aw_seq <| at_ <| ar (ro_move s0_10) rfl <| ar (ro_rem up_h ev_c (by first | decide | omega)) rfl ?_
                   refine ar (ro_assign up_h) rfl <| ae4 (up_m rfl (u2 rfl s0_10)) (up_m rfl (u2 rfl s3_10)) (up_m rfl (u2 rfl s4_10)) up_h ?_; clear s0_10 s11_10 s3_10 s4_10; intro e_12 s0_12 s3_12 s4_12 s5_12
                   refine then_n <| aw_seq <| at_ <| ar (ro_move s5_12) rfl <| ar (ro_call (evL_cons up_h evL_nil) rfl (bSize_ok _ (by omega)) z4_hcf56) rfl ?_
                   first | (refine ar (ro_add' ev_c up_h ?_) rfl ?_; · (first | ((first | unfold In64 | unfold InU64 | unfold InU8); omega) | (simp only [ByteArray.size_append, size_mk, List.length_cons, List.length_nil] <;> omega) | omega)) | (refine ar (ro_add ev_c up_h) rfl ?_)
                   first | (refine ar (ro_cvB up_h (by kernel_rfl) (by kernel_rfl) ?_) rfl ?_; · (first | ((first | unfold In64 | unfold InU64 | unfold InU8); omega) | (simp only [ByteArray.size_append, size_mk, List.length_cons, List.length_nil] <;> omega) | omega)) | (refine ar (ro_cv (k' := .u8) up_h (by kernel_rfl) (by kernel_rfl)) rfl ?_)
                   refine ar (ro_lit z4_sl113 (evP_cons up_h evP_nil) rfl rfl rfl rfl) rfl <| ar (ro_b2s qus113 qun9 qu85 up_h (by unfold InU8; omega)) rfl ?_
                   refine ar (ro_move (u2 rfl (u4 rfl s3_12))) rfl ?_
                   (refine ar (ro_sadd (up_m rfl up_h) up_h ?_) rfl ?_; · (first | ((first | unfold In64 | unfold InU64 | unfold InU8); omega) | (simp only [ByteArray.size_append, size_mk, List.length_cons, List.length_nil] <;> omega) | omega))
                   refine ar (ro_assign up_h) rfl <| ae3 (up_m rfl (u8 rfl s0_12)) up_h (up_m rfl (u8 rfl s4_12)) ?_; clear s0_12 s3_12 s4_12 s5_12; intro e_13 s0_13 s3_13 s4_13
                   refine then_n <| at_ <| ar (ro_move s0_13) rfl ?_
                   first | (refine ar (ro_quo' up_h ev_c (by first | decide | omega) ?_) rfl ?_; · (first | ((first | unfold In64 | unfold InU64 | unfold InU8); omega) | (simp only [ByteArray.size_append, size_mk, List.length_cons, List.length_nil] <;> omega) | omega)) | (refine ar (ro_quo up_h ev_c (by first | decide | omega)) rfl ?_)
                   refine ar (ro_assign up_h) rfl <| ae3 up_h (up_m rfl (u2 rfl s3_13)) (up_m rfl (u2 rfl s4_13)) ?_; clear s0_13 s3_13 s4_13; intro e_14 s0_14 s3_14 s4_14
                   refine block_n <| then_n <| ⟨⟨_, _⟩, ⟨s0_14, s3_14, (s4_14.trans s4_8.symm), ml_9, ?_⟩, ?_⟩
                   · (exact ⟨by omega, decI_step (by assumption) p2 (by congr 1; omega)⟩)
                   · ((try dsimp only); omega))
              · (first | replace hq_11 := bnt hq_11 | replace hq_11 := bnf hq_11 | replace hq_11 := bt hq_11 | replace hq_11 := bf hq_11 | replace hq_11 := bt' hq_11 | replace hq_11 := bf' hq_11 | skip)
                first
                | (cases hq_11; done) | (exfalso; omega)
                | (
                   refine aw_exit <| then_x <| then_x <| block_hit <| then_n <| aw_seq <| at_ <| ar (ro_move s4_10) rfl <| ar (ro_move (up_m rfl s3_10)) rfl ?_
                   (refine ar (ro_sadd (up_m rfl up_h) up_h ?_) rfl ?_; · (first | ((first | unfold In64 | unfold InU64 | unfold InU8); omega) | (simp only [ByteArray.size_append, size_mk, List.length_cons, List.length_nil] <;> omega) | omega))
                   refine ar (ro_assign up_h) rfl <| ae1 up_h ?_; clear s0_10 s11_10 s3_10 s4_10; intro e_15 s2_15
                   refine then_n <| aw_ret <| ret1 (.inr rfl) (by kernel_rfl) (resV_tmp s2_15) (.ro _ rfl) ?_
                   clear s2_15  ml_9
                   (rcases p2 with ⟨_, q2⟩ | ⟨q1, _⟩ <;> first | (exfalso; omega) | (unfold itoa; first | rw [if_pos (by omega), q2] | rw [if_neg (by omega), q2, show n.toNat = n.natAbs by omega]); rfl)))
       · (first | replace hq_7 := bnt hq_7 | replace hq_7 := bnf hq_7 | replace hq_7 := bt hq_7 | replace hq_7 := bf hq_7 | replace hq_7 := bt' hq_7 | replace hq_7 := bf' hq_7 | skip)
         first
         | (cases hq_7; done) | (exfalso; omega)
         | (
            refine aw_skip <| then_n <| aw_seq <| aw_block <| aw_loop (S := (Int × List UInt8)) (fun s e mem => match s with | ⟨m, l⟩ => (evA e (.tmp 0) = .v (.int .i64 m)) ∧ (evA e (.tmp 3) = .v (.string (bs l))) ∧ (evA e (.tmp 4) = evA e_6 (.tmp 4)) ∧ (mem.length = 0) ∧ ((m.natAbs ≤ n.natAbs ∧ decI n m l))) (fun s => match s with | ⟨m, l⟩ => m.natAbs) ⟨_, []⟩ ⟨s0_6, s3_6, rfl, ml_0, ?_⟩ ?_
            · (exact ⟨by omega, .inr ⟨by omega, by simp⟩⟩)
            · rintro ⟨m, l⟩ e_16 m_16 ⟨s0_16, s3_16, k4_16, ml_16, hinv⟩
              have s4_16 := k4_16.trans s4_6
              (obtain ⟨p1, p2⟩ := hinv; obtain ⟨t1, t2⟩ := tdm m; have hsz := sizeW_abs (m.tmod 10); have hll := decI_len hn p2; have hbl := bs_size l)
              refine aw_seq <| aw_seq <| at_ <| ar (ro_move s0_16) rfl <| ar (ro_neq up_h ev_c) rfl <| ae4 (u2 rfl s0_16) (u2 rfl s3_16) (u2 rfl s4_16) up_h ?_; clear s0_16 s3_16 s4_16; intro e_17 s0_17 s3_17 s4_17 s11_17
              refine then_n <| aw_case s11_17 (fun hq_18 => ?_) (fun hq_18 => ?_)
              · (first | replace hq_18 := bnt hq_18 | replace hq_18 := bnf hq_18 | replace hq_18 := bt hq_18 | replace hq_18 := bf hq_18 | replace hq_18 := bt' hq_18 | replace hq_18 := bf' hq_18 | skip)
                first
                | (cases hq_18; done) | (exfalso; omega)
                | (
                   refine aw_skip <| then_n <| aw_block <| aw_seq <| at_ <| ar (ro_move s0_17) rfl <| ar (ro_rem up_h ev_c (by first | decide | omega)) rfl ?_
                   refine ar (ro_assign up_h) rfl <| ae4 (up_m rfl (u2 rfl s0_17)) (up_m rfl (u2 rfl s3_17)) (up_m rfl (u2 rfl s4_17)) up_h ?_; clear s0_17 s11_17 s3_17 s4_17; intro e_19 s0_19 s3_19 s4_19 s5_19
                   refine then_n <| aw_seq <| at_ <| ar (ro_move s5_19) rfl <| ar (ro_call (evL_cons up_h evL_nil) rfl (bSize_ok _ (by omega)) z4_hcf56) rfl ?_
                   first | (refine ar (ro_add' ev_c up_h ?_) rfl ?_; · (first | ((first | unfold In64 | unfold InU64 | unfold InU8); omega) | (simp only [ByteArray.size_append, size_mk, List.length_cons, List.length_nil] <;> omega) | omega)) | (refine ar (ro_add ev_c up_h) rfl ?_)
                   first | (refine ar (ro_cvB up_h (by kernel_rfl) (by kernel_rfl) ?_) rfl ?_; · (first | ((first | unfold In64 | unfold InU64 | unfold InU8); omega) | (simp only [ByteArray.size_append, size_mk, List.length_cons, List.length_nil] <;> omega) | omega)) | (refine ar (ro_cv (k' := .u8) up_h (by kernel_rfl) (by kernel_rfl)) rfl ?_)
                   refine ar (ro_lit z4_sl113 (evP_cons up_h evP_nil) rfl rfl rfl rfl) rfl <| ar (ro_b2s qus113 qun9 qu85 up_h (by unfold InU8; omega)) rfl ?_
                   refine ar (ro_move (u2 rfl (u4 rfl s3_19))) rfl ?_
                   (refine ar (ro_sadd (up_m rfl up_h) up_h ?_) rfl ?_; · (first | ((first | unfold In64 | unfold InU64 | unfold InU8); omega) | (simp only [ByteArray.size_append, size_mk, List.length_cons, List.length_nil] <;> omega) | omega))
                   refine ar (ro_assign up_h) rfl <| ae3 (up_m rfl (u8 rfl s0_19)) up_h (up_m rfl (u8 rfl s4_19)) ?_; clear s0_19 s3_19 s4_19 s5_19; intro e_20 s0_20 s3_20 s4_20
                   refine then_n <| at_ <| ar (ro_move s0_20) rfl ?_
                   first | (refine ar (ro_quo' up_h ev_c (by first | decide | omega) ?_) rfl ?_; · (first | ((first | unfold In64 | unfold InU64 | unfold InU8); omega) | (simp only [ByteArray.size_append, size_mk, List.length_cons, List.length_nil] <;> omega) | omega)) | (refine ar (ro_quo up_h ev_c (by first | decide | omega)) rfl ?_)
                   refine ar (ro_assign up_h) rfl <| ae3 up_h (up_m rfl (u2 rfl s3_20)) (up_m rfl (u2 rfl s4_20)) ?_; clear s0_20 s3_20 s4_20; intro e_21 s0_21 s3_21 s4_21
                   refine block_n <| then_n <| ⟨⟨_, _⟩, ⟨s0_21, s3_21, (s4_21.trans s4_6.symm), ml_16, ?_⟩, ?_⟩
                   · (exact ⟨by omega, decI_step (by assumption) p2 (by congr 1; omega)⟩)
                   · ((try dsimp only); omega))
              · (first | replace hq_18 := bnt hq_18 | replace hq_18 := bnf hq_18 | replace hq_18 := bt hq_18 | replace hq_18 := bf hq_18 | replace hq_18 := bt' hq_18 | replace hq_18 := bf' hq_18 | skip)
                first
                | (cases hq_18; done) | (exfalso; omega)
                | (
                   refine aw_exit <| then_x <| then_x <| block_hit <| then_n <| aw_seq <| at_ <| ar (ro_move s4_17) rfl <| ar (ro_move (up_m rfl s3_17)) rfl ?_
                   (refine ar (ro_sadd (up_m rfl up_h) up_h ?_) rfl ?_; · (first | ((first | unfold In64 | unfold InU64 | unfold InU8); omega) | (simp only [ByteArray.size_append, size_mk, List.length_cons, List.length_nil] <;> omega) | omega))
                   refine ar (ro_assign up_h) rfl <| ae1 up_h ?_; clear s0_17 s11_17 s3_17 s4_17; intro e_22 s2_22
                   refine then_n <| aw_ret <| ret1 (.inr rfl) (by kernel_rfl) (resV_tmp s2_22) (.ro _ rfl) ?_
                   clear s2_22  ml_16
                   (rcases p2 with ⟨_, q2⟩ | ⟨q1, _⟩ <;> first | (exfalso; omega) | (unfold itoa; first | rw [if_pos (by omega), q2] | rw [if_neg (by omega), q2, show n.toNat = n.natAbs by omega]); rfl))))
end Go.Proofs.YtfmjmngkgmlghaaDoor
