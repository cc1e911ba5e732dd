/- A train's state as a text, written and read. No conditions on a program. -/
import Derived.Test.YtfmjmngkgmlghaaDoorT0
import Derived.Test.YtfmjmngkgmlghaaDoorZ7
import Derived.Test.YtfmjmngkgmlghaaDoorM7
namespace Go.Proofs.YtfmjmngkgmlghaaDoor
open Go Go.RowKit Go.Proofs Go.Lib
set_option linter.unusedSimpArgs false
set_option linter.unusedVariables false
theorem z8_hcf25 : ∀ args w, (callFunc 25 args).run Tryd.prog w = .ok (.enter 25 args) w := fun _ _ => by kernel_rfl
theorem z8_hcf30 : ∀ args w, (callFunc 30 args).run Tryd.prog w = .ok (.enter 30 args) w := fun _ _ => by kernel_rfl
theorem z8_hcf31 : ∀ args w, (callFunc 31 args).run Tryd.prog w = .ok (.enter 31 args) w := fun _ _ => by kernel_rfl
theorem z8_hcf32 : ∀ args w, (callFunc 32 args).run Tryd.prog w = .ok (.enter 32 args) w := fun _ _ => by kernel_rfl
theorem z8_hcf40 : ∀ args w, (callFunc 40 args).run Tryd.prog w = .ok (.enter 40 args) w := fun _ _ => by kernel_rfl
theorem z8_sl72 : SlIs Tryd.prog 72 9 1 16 (.string ByteArray.empty) := ⟨by kernel_rfl, by kernel_rfl, by kernel_rfl⟩
theorem z8_ty3 : TyIs Tryd.prog 3 false 1 := ⟨by kernel_rfl, by kernel_rfl⟩
theorem z8_ty37 : TyIs Tryd.prog 37 true 2 := ⟨by kernel_rfl, by kernel_rfl⟩
theorem z8_ty9 : TyIs Tryd.prog 9 false 1 := ⟨by kernel_rfl, by kernel_rfl⟩

/-- Two numbers with a byte between. -/
def fmtR (a b : Int) (c : UInt8) : ByteArray := bs (itoa a ++ [c] ++ itoa b)
theorem fmtR_eq (a b : Int) (c : UInt8) : (⟨(itoa a).toArray⟩ : ByteArray) ++ ⟨#[c]⟩ ++ ⟨(itoa b).toArray⟩ = fmtR a b c := by
  unfold fmtR; rw [← bs_app, ← bs_app]; rfl
theorem itoa_len {n : Int} (h : In64 n) : (itoa n).length ≤ 21 := itoa_length_le n (by unfold In64 at h; omega) (by unfold In64 at h; omega)
theorem cutT_ok (tx : ByteArray) (c : UInt8) (hs : tx.size ≤ 1000000) : FnOk Tryd.prog 25 [.v (.string tx), .v (.string ⟨#[c]⟩)] (fun q => q = .tuple [.v (.string (bs (cutA tx.data.toList c))), .v (.string (bs (cutB tx.data.toList c))), .v (.bool (decide (0 ≤ indexByte tx.data.toList c)))]) :=
  cut_ok tx.data.toList c (by have := size_eq tx; omega)
theorem cutA_len (l : List UInt8) (c : UInt8) : (cutA l c).length ≤ l.length := by
  unfold cutA; split
  · rw [List.length_take]; omega
  · exact Nat.le_refl _
theorem cutB_len (l : List UInt8) (c : UInt8) : (cutB l c).length ≤ l.length := by
  unfold cutB; split
  · rw [List.length_drop]; omega
  · exact Nat.zero_le _
/-- Pieces that are two. -/
theorem pcs_yes {tx : ByteArray} {c : UInt8} (h : (pcs tx c).length = 2) : pcs tx c = [bs (cutA tx.data.toList c), bs (cutB tx.data.toList c)] := by
  obtain ⟨j, hj⟩ := Int.eq_ofNat_of_zero_le ((pcs_two tx c).2.1 h)
  exact (pcs_two tx c).1 j hj h
/-- Pieces that are not two: no two numerals. -/
theorem pcs_no {tx : ByteArray} {c : UInt8} (hc : c.toNat < 45) (D : Nat) (h : ¬ (pcs tx c).length = 2) : numK (cutB tx.data.toList c) D = false := by
  cases hk : numK (cutB tx.data.toList c) D with
  | false => rfl
  | true =>
    exfalso
    by_cases h0 : 0 ≤ indexByte tx.data.toList c
    · exact h ((pcs_two tx c).2.2 h0 (numK_byte hk hc))
    · have : cutB tx.data.toList c = [] := by unfold cutB; rw [if_neg h0]
      rw [this, numK_nil] at hk; cases hk
theorem idx_mid (a b : List UInt8) (c : UInt8) (h : ∀ k : Nat, a[k]? ≠ some c) : indexByte (a ++ [c] ++ b) c = a.length := by
  induction a with
  | nil => simp [indexByte]
  | cons x a ih =>
    have hx : ¬ x = c := fun e => h 0 (by rw [e]; rfl)
    have ih := ih fun k => by have := h (k + 1); simpa using this
    simp only [List.cons_append, indexByte, List.length_cons]
    rw [if_neg (by simpa using hx), ih, if_neg (by first | (simp; done) | (simp; omega))]
    try omega
theorem cut_fmt {a b : Int} {c : UInt8} {D : Nat} (hc : c.toNat < 45) (h : numK (itoa a) D = true) : cutA (fmtR a b c).data.toList c = itoa a ∧ cutB (fmtR a b c).data.toList c = itoa b := by
  have hi := idx_mid (itoa a) (itoa b) c (numK_byte h hc)
  have e : (fmtR a b c).data.toList = itoa a ++ [c] ++ itoa b := rfl
  rw [e]
  unfold cutA cutB
  rw [hi, if_pos (by omega), if_pos (by omega)]
  simp
/-- A state's text is right. -/
def nkB (l : List UInt8) : Bool := numK l 11 && decide (0 ≤ numN l)
def prsK (l : List UInt8) : Bool := nkB (cutA l 32) && nkB (cutB l 32)
def prsA (l : List UInt8) : AV := if prsK l then .tuple [.agg [iA (numN (cutA l 32)), iA (numN (cutB l 32))], iA 0] else .tuple [.agg [iA 0, iA 0], iA 7]
theorem prs_T {l : List UInt8} (hA : nkB (cutA l 32) = true) (hB : nkB (cutB l 32) = true) : AV.tuple [.agg [iA (numN (cutA l 32)), iA (numN (cutB l 32))], iA 0] = prsA l := by
  unfold prsA prsK; rw [hA, hB]; rfl
theorem prs_FA {l : List UInt8} (hA : nkB (cutA l 32) = false) : AV.tuple [.agg [iA 0, iA 0], iA 7] = prsA l := by
  unfold prsA prsK; rw [hA]; rfl
theorem prs_FB {l : List UInt8} (hB : nkB (cutB l 32) = false) : AV.tuple [.agg [iA 0, iA 0], iA 7] = prsA l := by
  unfold prsA prsK; rw [hB, Bool.and_false]; rfl
theorem nkB_no {l : List UInt8} (h : numK l 11 = false) : nkB l = false := by unfold nkB; rw [h]; rfl
theorem nkB_low {l : List UInt8} (hk : numK l 11 = true) (h : numR l 11 < 0) : nkB l = false := by
  unfold numR at h; rw [if_pos hk] at h
  unfold nkB; rw [hk, decide_eq_false (by omega)]; rfl
theorem nkB_yes {l : List UInt8} (hk : numK l 11 = true) (h : ¬ numR l 11 < 0) : nkB l = true ∧ numR l 11 = numN l := by
  unfold numR at h ⊢; rw [if_pos hk] at h ⊢
  unfold nkB; rw [hk, decide_eq_true (by omega)]; exact ⟨rfl, rfl⟩
theorem rprs_T {l : List UInt8} (hA : numK (cutA l 32) 11 = true) (hB : numK (cutB l 32) 11 = true) (h1 : ¬ numR (cutA l 32) 11 < 0) (h2 : ¬ numR (cutB l 32) 11 < 0) : AV.tuple [.agg [iA (numR (cutA l 32) 11), iA (numR (cutB l 32) 11)], iA 0] = prsA l := by
  rw [(nkB_yes hA h1).2, (nkB_yes hB h2).2]; exact prs_T (nkB_yes hA h1).1 (nkB_yes hB h2).1
section
variable (es er : Value) (hes : isE es) (her : isE er)
set_option maxRecDepth 100000 in
set_option maxHeartbeats 4000000 in
theorem formatRun_ok (a b : Int) (ha : In64 a) (hb : In64 b) : FnOkG Tryd.prog (gX es er) 13 [.agg [iA a, iA b]] (fun q => q = .v (.string (fmtR a b 32))) := by
  have h1 := itoa_len ha
  have h2 := itoa_len hb
  refine fnOkG_of (fn := Tryd.f13) (gX es er) 11 (by kernel_rfl) rfl (by kernel_rfl) (Nat.le_of_ble_eq_true rfl) ?_
  intro e_0 m_0 hA hm_0
  have s0_0 : evA e_0 (.tmp 0) = _ := hA 0 _ rfl
  have ml_0 : m_0.length = 1 := by rw [hm_0]; rfl
  have mo0_0 : m_0[0]? = some (.glob (gX es er)) := by rw [hm_0]; rfl
  clear hA hm_0
  refine aw_seq <| at_ <| al_stm (st_box s0_0 rfl ml_0) trivial rfl (fun m_1 hm_1 => ?_)
  have mo1_1 := m_push hm_1 ml_0
  have mo0_1 := m_push_o hm_1 mo0_0
  have ml_1 := m_push_l hm_1 ml_0
  have ml_1 : _ = 2 := ml_1
  clear hm_1 mo0_0
  refine ar (ro_assign ev_c) rfl <| ae1 (up_m rfl up_h) ?_; clear s0_0; intro e_2 s1_2
  refine then_n <| aw_seq <| aw_draw 9 (by kernel_rfl) (by kernel_rfl) (by kernel_rfl) (by kernel_rfl) ?_
  refine dr (ro_fld_ptr qfl37_0 rfl s1_2) rfl <| dr (ro_eq (ro_ld_ptr z8_ty3 rfl mo1_1 up_h (nle rfl)) (by simp only [pS, Value.cells, Nat.reduceAdd] <;> rfl)) rfl ?_
  refine dr (ro_callG (evL_cons up_h evL_nil) rfl mo0_1 (itoa_ok es er a ha) qhcf24) rfl ?_
  (refine dr (ro_sadd up_h ev_c ?_) rfl ?_; · (first | ((first | unfold In64 | unfold InU64 | unfold InU8); omega) | (simp only [ByteArray.size_append, size_mk, List.length_cons, List.length_nil] <;> omega) | omega))
  refine dr (ro_fld_ptr qfl37_1 rfl (u4 rfl s1_2)) rfl <| dr (ro_eq (ro_ld_ptr z8_ty3 rfl mo1_1 up_h (nle rfl)) (by simp only [pS, Value.cells, Nat.reduceAdd] <;> rfl)) rfl ?_
  refine dr (ro_callG (evL_cons up_h evL_nil) rfl mo0_1 (itoa_ok es er b hb) qhcf24) rfl ?_
  (refine dr (ro_sadd (up_m rfl (u2 rfl up_h)) up_h ?_) rfl ?_; · (first | ((first | unfold In64 | unfold InU64 | unfold InU8); omega) | (simp only [ByteArray.size_append, size_mk, List.length_cons, List.length_nil] <;> omega) | omega))
  refine dr (ro_assign up_h) rfl <| ds_nil <| ae1 up_h ?_; clear s1_2; intro e_3 s2_3
  refine then_n <| aw_ret <| ret1 (.inr rfl) (by kernel_rfl) (resV_tmp s2_3) (.ro _ rfl) ?_
  clear s2_3 mo1_1 mo0_1 ml_1
  (rw [fmtR_eq])
set_option maxRecDepth 100000 in
set_option maxHeartbeats 4000000 in
theorem rFormatRun_ok (a b : Int) (ha : In64 a) (hb : In64 b) : FnOk Tryd.prog 16 [.agg [iA a, iA b]] (fun q => q = .v (.string (fmtR a b 32))) := by
  have h1 := itoa_len ha
  have h2 := itoa_len hb
  refine fnOk_of (fn := Tryd.f16) 11 (by kernel_rfl) rfl (by kernel_rfl) (Nat.le_of_ble_eq_true rfl) ?_
  intro e_0 m_0 hA hm_0
  have s0_0 : evA e_0 (.tmp 0) = _ := hA 0 _ rfl
  have ml_0 : m_0.length = 0 := by rw [hm_0]; rfl
  clear hA hm_0
  refine aw_seq <| at_ <| al_stm (st_box s0_0 rfl ml_0) trivial rfl (fun m_1 hm_1 => ?_)
  have mo0_1 := m_push hm_1 ml_0
  have ml_1 := m_push_l hm_1 ml_0
  have ml_1 : _ = 1 := ml_1
  clear hm_1
  refine ar (ro_assign ev_c) rfl <| ae1 (up_m rfl up_h) ?_; clear s0_0; intro e_2 s1_2
  refine then_n <| aw_seq <| aw_draw 9 (by kernel_rfl) (by kernel_rfl) (by kernel_rfl) (by kernel_rfl) ?_
  refine dr (ro_fld_ptr qfl37_0 rfl s1_2) rfl <| dr (ro_eq (ro_ld_ptr z8_ty3 rfl mo0_1 up_h (nle rfl)) (by simp only [pS, Value.cells, Nat.reduceAdd] <;> rfl)) rfl ?_
  refine dr (ro_call (evL_cons up_h evL_nil) rfl ((decimal_ok a ha).mono (fun q h => show q = .v (.string ⟨(itoa a).toArray⟩) from h)) z8_hcf32) rfl ?_
  (refine dr (ro_sadd up_h ev_c ?_) rfl ?_; · (first | ((first | unfold In64 | unfold InU64 | unfold InU8); omega) | (simp only [ByteArray.size_append, size_mk, List.length_cons, List.length_nil] <;> omega) | omega))
  refine dr (ro_fld_ptr qfl37_1 rfl (u4 rfl s1_2)) rfl <| dr (ro_eq (ro_ld_ptr z8_ty3 rfl mo0_1 up_h (nle rfl)) (by simp only [pS, Value.cells, Nat.reduceAdd] <;> rfl)) rfl ?_
  refine dr (ro_call (evL_cons up_h evL_nil) rfl ((decimal_ok b hb).mono (fun q h => show q = .v (.string ⟨(itoa b).toArray⟩) from h)) z8_hcf32) rfl ?_
  (refine dr (ro_sadd (up_m rfl (u2 rfl up_h)) up_h ?_) rfl ?_; · (first | ((first | unfold In64 | unfold InU64 | unfold InU8); omega) | (simp only [ByteArray.size_append, size_mk, List.length_cons, List.length_nil] <;> omega) | omega))
  refine dr (ro_assign up_h) rfl <| ds_nil <| ae1 up_h ?_; clear s1_2; intro e_3 s2_3
  refine then_n <| aw_ret <| ret1 (.inr rfl) (by kernel_rfl) (resV_tmp s2_3) (.ro _ rfl) ?_
  clear s2_3 mo0_1 ml_1
  (rw [fmtR_eq])
include hes her
set_option maxRecDepth 100000 in
set_option maxHeartbeats 4000000 in
theorem parseRun_ok (tx : ByteArray) (hl : tx.size ≤ 100000) : FnOkG Tryd.prog (gX es er) 14 [.v (.string tx)] (fun q => q = prsA tx.data.toList) := by
  have hsz := size_eq tx
  have l1 := cutA_len tx.data.toList 32
  have l2 := cutB_len tx.data.toList 32
  have z1 := bs_size (cutA tx.data.toList 32)
  have z2 := bs_size (cutB tx.data.toList 32)
  refine fnOkG_of (fn := Tryd.f14) (gX es er) 37 (by kernel_rfl) rfl (by kernel_rfl) (Nat.le_of_ble_eq_true rfl) ?_
  intro e_0 m_0 hA hm_0
  have s0_0 : evA e_0 (.tmp 0) = _ := hA 0 _ rfl
  have ml_0 : m_0.length = 1 := by rw [hm_0]; rfl
  have mo0_0 : m_0[0]? = some (.glob (gX es er)) := by rw [hm_0]; rfl
  clear hA hm_0
  refine aw_seq <| at_ <| al_stm (st_alloc qaz37 rfl ml_0) trivial rfl (fun m_1 hm_1 => ?_)
  have mo1_1 := m_push hm_1 ml_0
  simp only [pS, Value.cells, Nat.reduceAdd] at mo1_1
  have mo0_1 := m_push_o hm_1 mo0_0
  have ml_1 := m_push_l hm_1 ml_0
  have ml_1 : _ = 2 := ml_1
  clear hm_1 mo0_0
  refine ar (ro_assign ev_c) rfl <| ae2 (u2 rfl s0_0) (up_m rfl up_h) ?_; clear s0_0; intro e_2 s0_2 s2_2
  refine then_n <| aw_seq <| at_ <| ar (ro_move s0_2) rfl <| ar (ro_call (evL_cons up_h (evL_cons ev_c evL_nil)) rfl (cutT_ok tx 32 (by omega)) z8_hcf25) rfl ?_
  refine ar (ro_move up_h) rfl <| ar (ro_extract up_h rfl) rfl <| ar (ro_extract (up_m rfl up_h) rfl) rfl <| ar (ro_extract (u2 rfl up_h) rfl) rfl <| ar (ro_assign (u2 rfl up_h)) rfl <| ar (ro_assign (u2 rfl up_h)) rfl <| ar (ro_assign (u2 rfl up_h)) rfl <| ae3 (up_m rfl (u8 rfl s2_2)) (u2 rfl up_h) (up_m rfl up_h) ?_; clear s0_2 s2_2; intro e_3 s2_3 s4_3 s5_3
  refine then_n <| aw_seq <| at_ <| ar (ro_move s4_3) rfl <| ar (ro_callG (evL_cons up_h (evL_cons ev_c evL_nil)) rfl mo0_1 ((kNumber_ok es er hes her (bs (cutA tx.data.toList 32)) (by omega) false).mono (fun q h => show q = .tuple [.v (.int .i64 (numN (cutA tx.data.toList 32))), .v (.bool (nkB (cutA tx.data.toList 32)))] from h)) z8_hcf40) rfl ?_
  refine ar (ro_move up_h) rfl <| ar (ro_extract up_h rfl) rfl <| ar (ro_extract (up_m rfl up_h) rfl) rfl <| ar (ro_assign (up_m rfl up_h)) rfl <| ar (ro_assign (up_m rfl up_h)) rfl <| ae4 (up_m rfl (u2 rfl (u4 rfl s2_3))) (up_m rfl (u2 rfl (u4 rfl s5_3))) (up_m rfl up_h) up_h ?_; clear s2_3 s4_3 s5_3; intro e_4 s2_4 s5_4 s7_4 s8_4
  refine then_n <| aw_seq <| at_ <| ar (ro_move s5_4) rfl <| ar (ro_callG (evL_cons up_h (evL_cons ev_c evL_nil)) rfl mo0_1 ((kNumber_ok es er hes her (bs (cutB tx.data.toList 32)) (by omega) false).mono (fun q h => show q = .tuple [.v (.int .i64 (numN (cutB tx.data.toList 32))), .v (.bool (nkB (cutB tx.data.toList 32)))] from h)) z8_hcf40) rfl ?_
  refine ar (ro_move up_h) rfl <| ar (ro_extract up_h rfl) rfl <| ar (ro_extract (up_m rfl up_h) rfl) rfl <| ar (ro_assign (up_m rfl up_h)) rfl <| ar (ro_assign (up_m rfl up_h)) rfl <| ae5 (up_m rfl (u2 rfl (u4 rfl s2_4))) (up_m rfl (u2 rfl (u4 rfl s7_4))) (up_m rfl (u2 rfl (u4 rfl s8_4))) (up_m rfl up_h) up_h ?_; clear s2_4 s5_4 s7_4 s8_4; intro e_5 s2_5 s7_5 s8_5 s9_5 s10_5
  refine then_n <| aw_seq <| aw_seq <| at_ <| ar (ro_move s8_5) rfl <| ar (ro_not up_h) rfl <| ar (ro_move up_h) rfl <| al_case up_h (fun hb_6 hq_6 => ?_) (fun hb_6 hq_6 => ?_)
  ·replace hq_6 := bt' hq_6
   refine al_skip' ⟨_, rfl, .inl hb_6⟩ rfl ?_
   refine al_skip' ⟨_, rfl, .inl (up_m rfl hb_6)⟩ rfl ?_
   refine ar (ro_pickT (u2 rfl hb_6) ev_c) rfl <| ae4 (u2 rfl (u4 rfl s2_5)) (u2 rfl (u4 rfl s7_5)) (u2 rfl (u4 rfl s9_5)) up_h ?_; clear hb_6 s10_5 s2_5 s7_5 s8_5 s9_5; intro e_7 s2_7 s7_7 s9_7 s32_7
   refine then_n <| aw_true s32_7 <| aw_seq <| at_ <| ar (ro_build evP_nil qbz37 qbu37 qbp37 rfl) rfl ?_
   refine al_stm (st_store (up_m rfl s2_7) up_h rfl rfl mo1_1 qsz37 rfl (nle rfl)) trivial rfl (fun m_9 hm_9 => ?_)
   have mo1_9 := m_set hm_9 mo1_1
   simp only [pS, Value.cells, Nat.reduceAdd] at mo1_9
   have mo0_9 := m_set_o hm_9 mo0_1 (by decide)
   have ml_9 := m_set_l hm_9 ml_1
   clear hm_9 mo1_1 mo0_1
   refine ar (ro_assign ev_c) rfl <| ae2 (up_m rfl (up_n (up_m rfl s2_7))) up_h ?_; clear s2_7 s32_7 s7_7 s9_7; intro e_10 s2_10 s3_10
   refine then_n <| aw_ret <| then_r <| ret2 (.inr rfl) (by kernel_rfl) (resV_cell s2_10 mo1_9 z8_ty37 (nle rfl) (by simp)) (resV_tmp s3_10) (vw_r (.ro _ rfl)) (.ro _ rfl) ?_
   clear s2_10 s3_10 mo1_9 mo0_9 ml_9
   (first | exact prs_T (by assumption) (by assumption) | exact prs_FA (by assumption) | exact prs_FB (by assumption))
  replace hq_6 := bf' hq_6
  refine al_ro' (ro_move (up_m rfl (u2 rfl s10_5))) ⟨_, rfl, hb_6⟩ rfl ?_
  refine al_ro' (ro_not up_h) ⟨_, rfl, (up_m rfl hb_6)⟩ rfl ?_
  refine ar (ro_pickF (u2 rfl hb_6) up_h) rfl <| ae4 (u2 rfl (u4 rfl s2_5)) (u2 rfl (u4 rfl s7_5)) (u2 rfl (u4 rfl s9_5)) up_h ?_; clear hb_6 s10_5 s2_5 s7_5 s8_5 s9_5; intro e_11 s2_11 s7_11 s9_11 s32_11
  refine then_n <| aw_case s32_11 (fun hq_12 => ?_) (fun hq_12 => ?_)
  ·replace hq_12 := bt' hq_12
   refine aw_seq <| at_ <| ar (ro_build evP_nil qbz37 qbu37 qbp37 rfl) rfl ?_
   refine al_stm (st_store (up_m rfl s2_11) up_h rfl rfl mo1_1 qsz37 rfl (nle rfl)) trivial rfl (fun m_13 hm_13 => ?_)
   have mo1_13 := m_set hm_13 mo1_1
   simp only [pS, Value.cells, Nat.reduceAdd] at mo1_13
   have mo0_13 := m_set_o hm_13 mo0_1 (by decide)
   have ml_13 := m_set_l hm_13 ml_1
   clear hm_13 mo1_1 mo0_1
   refine ar (ro_assign ev_c) rfl <| ae2 (up_m rfl (up_n (up_m rfl s2_11))) up_h ?_; clear s2_11 s32_11 s7_11 s9_11; intro e_14 s2_14 s3_14
   refine then_n <| aw_ret <| then_r <| ret2 (.inr rfl) (by kernel_rfl) (resV_cell s2_14 mo1_13 z8_ty37 (nle rfl) (by simp)) (resV_tmp s3_14) (vw_r (.ro _ rfl)) (.ro _ rfl) ?_
   clear s2_14 s3_14 mo1_13 mo0_13 ml_13
   (first | exact prs_T (by assumption) (by assumption) | exact prs_FA (by assumption) | exact prs_FB (by assumption))
  replace hq_12 := bf' hq_12
  refine aw_skip <| then_n <| aw_seq <| at_ <| ar (ro_move s7_11) rfl <| ar (ro_move (up_m rfl s9_11)) rfl <| ar (ro_build (evP_cons (up_m rfl up_h) (evP_cons up_h evP_nil)) qbz37 qbu37 qbp37 rfl) rfl ?_
  refine al_stm (st_store (up_m rfl (u2 rfl s2_11)) up_h rfl rfl mo1_1 qsz37 rfl (nle rfl)) trivial rfl (fun m_15 hm_15 => ?_)
  have mo1_15 := m_set hm_15 mo1_1
  simp only [pS, Value.cells, Nat.reduceAdd] at mo1_15
  have mo0_15 := m_set_o hm_15 mo0_1 (by decide)
  have ml_15 := m_set_l hm_15 ml_1
  clear hm_15 mo1_1 mo0_1
  refine ar (ro_assign ev_c) rfl <| ae2 (up_m rfl (up_n (up_m rfl (u2 rfl s2_11)))) up_h ?_; clear s2_11 s32_11 s7_11 s9_11; intro e_16 s2_16 s3_16
  refine then_n <| aw_ret <| ret2 (.inr rfl) (by kernel_rfl) (resV_cell s2_16 mo1_15 z8_ty37 (nle rfl) (by simp)) (resV_tmp s3_16) (vw_r (.ro _ rfl)) (.ro _ rfl) ?_
  clear s2_16 s3_16 mo1_15 mo0_15 ml_15
  (first | exact prs_T (by assumption) (by assumption) | exact prs_FA (by assumption) | exact prs_FB (by assumption))
end
set_option maxRecDepth 100000 in
set_option maxHeartbeats 4000000 in
theorem rParseRun_ok (tx : ByteArray) (hl : tx.size ≤ 100000) : FnOk Tryd.prog 15 [.v (.string tx)] (fun q => q = prsA tx.data.toList) := by
  have hsz := size_eq tx
  have l1 := cutA_len tx.data.toList 32
  have l2 := cutB_len tx.data.toList 32
  have hno := pcs_no (tx := tx) (c := 32) (by decide) 11
  refine fnOk_of (fn := Tryd.f15) 47 (by kernel_rfl) rfl (by kernel_rfl) (Nat.le_of_ble_eq_true rfl) ?_
  intro e_0 m_0 hA hm_0
  have s0_0 : evA e_0 (.tmp 0) = _ := hA 0 _ rfl
  have ml_0 : m_0.length = 0 := by rw [hm_0]; rfl
  clear hA hm_0
  refine aw_seq <| at_ <| al_stm (st_alloc qaz37 rfl ml_0) trivial rfl (fun m_1 hm_1 => ?_)
  have mo0_1 := m_push hm_1 ml_0
  simp only [pS, Value.cells, Nat.reduceAdd] at mo0_1
  have ml_1 := m_push_l hm_1 ml_0
  have ml_1 : _ = 1 := ml_1
  clear hm_1
  refine ar (ro_assign ev_c) rfl <| ae2 (u2 rfl s0_0) (up_m rfl up_h) ?_; clear s0_0; intro e_2 s0_2 s2_2
  refine then_n <| aw_seq <| at_ <| ar (ro_move s0_2) rfl <| ar (ro_call (evL_cons up_h (evL_cons ev_c evL_nil)) rfl (bCut_ok tx 32 (by omega)) z8_hcf30) rfl ?_
  refine ar (ro_assign up_h) rfl <| ae2 (up_m rfl (u2 rfl s2_2)) up_h ?_; clear s0_2 s2_2; intro e_3 s2_3 s4_3
  refine then_n <| aw_seq <| aw_seq <| at_ <| ar (ro_move s4_3) rfl <| ar (ro_eq (ro_len_row up_h rfl z8_sl72.1) (by simp only [lnS] <;> rfl)) rfl ?_
  refine ar (ro_neq up_h ev_c) rfl <| ae3 (up_m rfl (u2 rfl s2_3)) (up_m rfl (u2 rfl s4_3)) up_h ?_; clear s2_3 s4_3; intro e_4 s2_4 s4_4 s13_4
  refine then_n <| aw_case s13_4 (fun hq_5 => ?_) (fun hq_5 => ?_)
  ·replace hq_5 := bnt hq_5
   refine aw_seq <| at_ <| ar (ro_build evP_nil qbz37 qbu37 qbp37 rfl) rfl ?_
   refine al_stm (st_store (up_m rfl s2_4) up_h rfl rfl mo0_1 qsz37 rfl (nle rfl)) trivial rfl (fun m_6 hm_6 => ?_)
   have mo0_6 := m_set hm_6 mo0_1
   simp only [pS, Value.cells, Nat.reduceAdd] at mo0_6
   have ml_6 := m_set_l hm_6 ml_1
   clear hm_6 mo0_1
   refine ar (ro_assign ev_c) rfl <| ae2 (up_m rfl (up_n (up_m rfl s2_4))) up_h ?_; clear s13_4 s2_4 s4_4; intro e_7 s2_7 s3_7
   refine then_n <| aw_ret <| then_r <| ret2 (.inr rfl) (by kernel_rfl) (resV_cell s2_7 mo0_6 z8_ty37 (nle rfl) (by simp)) (resV_tmp s3_7) (vw_r (.ro _ rfl)) (.ro _ rfl) ?_
   clear s2_7 s3_7 mo0_6 ml_6
   (first | exact rprs_T (by assumption) (by assumption) (by assumption) (by assumption) | exact prs_FB (nkB_no (hno (by omega))) | exact prs_FA (nkB_no (by assumption)) | exact prs_FB (nkB_no (by assumption)) | exact prs_FA (nkB_low (by assumption) (by assumption)) | exact prs_FB (nkB_low (by assumption) (by assumption)))
  replace hq_5 := bnf hq_5
  (have hp := pcs_yes (tx := tx) (c := 32) (by omega); have w0 : (pcs tx 32).getD (Int.toNat 0) default = bs (cutA tx.data.toList 32) := (by rw [hp]; rfl); have w1 : (pcs tx 32).getD (Int.toNat 1) default = bs (cutB tx.data.toList 32) := (by rw [hp]; rfl))
  refine aw_skip <| then_n <| aw_seq <| at_ <| ar (ro_move s4_4) rfl <| ar (ro_eq (ro_ix z8_sl72 up_h ev_c (by decide) (by refine idx_map ?_; first | omega | (simp only [lnS]; omega))) (by simp only [pS, Value.cells, Nat.reduceAdd] <;> rfl)) rfl ?_
  refine ar (ro_eq (ro_ld_ref z8_ty9 rfl up_h (nle rfl)) (by simp only [pS, Value.cells, Nat.reduceAdd] <;> rfl)) rfl ?_
  refine ar (ro_call (evL_cons up_h (evL_cons ev_c evL_nil)) rfl ((number_ok ((pcs tx 32).getD (Int.toNat 0) default) 11 (by decide) (by rw [w0, bs_list]; omega)).mono (fun q h => show q = .tuple [.v (.int .i64 (numR (cutA tx.data.toList 32) 11)), .v (.bool (numK (cutA tx.data.toList 32) 11))] from h.trans (by rw [w0]; rfl))) z8_hcf31) rfl ?_
  refine ar (ro_move up_h) rfl <| ar (ro_extract up_h rfl) rfl <| ar (ro_extract (up_m rfl up_h) rfl) rfl <| ar (ro_assign (up_m rfl up_h)) rfl <| ar (ro_assign (up_m rfl up_h)) rfl <| ae4 (up_m rfl (u8 rfl s2_4)) (up_m rfl (u8 rfl s4_4)) (up_m rfl up_h) up_h ?_; clear s13_4 s2_4 s4_4; intro e_8 s2_8 s4_8 s5_8 s6_8
  refine then_n <| aw_seq <| at_ <| ar (ro_move s4_8) rfl <| ar (ro_eq (ro_ix z8_sl72 up_h ev_c (by decide) (by refine idx_map ?_; first | omega | (simp only [lnS]; omega))) (by simp only [pS, Value.cells, Nat.reduceAdd] <;> rfl)) rfl ?_
  refine ar (ro_eq (ro_ld_ref z8_ty9 rfl up_h (nle rfl)) (by simp only [pS, Value.cells, Nat.reduceAdd] <;> rfl)) rfl ?_
  refine ar (ro_call (evL_cons up_h (evL_cons ev_c evL_nil)) rfl ((number_ok ((pcs tx 32).getD (Int.toNat 1) default) 11 (by decide) (by rw [w1, bs_list]; omega)).mono (fun q h => show q = .tuple [.v (.int .i64 (numR (cutB tx.data.toList 32) 11)), .v (.bool (numK (cutB tx.data.toList 32) 11))] from h.trans (by rw [w1]; rfl))) z8_hcf31) rfl ?_
  refine ar (ro_move up_h) rfl <| ar (ro_extract up_h rfl) rfl <| ar (ro_extract (up_m rfl up_h) rfl) rfl <| ar (ro_assign (up_m rfl up_h)) rfl <| ar (ro_assign (up_m rfl up_h)) rfl <| ae5 (up_m rfl (u8 rfl s2_8)) (up_m rfl (u8 rfl s5_8)) (up_m rfl (u8 rfl s6_8)) (up_m rfl up_h) up_h ?_; clear s2_8 s4_8 s5_8 s6_8; intro e_9 s2_9 s5_9 s6_9 s7_9 s8_9
  refine then_n <| aw_seq <| aw_seq <| at_ <| ar (ro_move s6_9) rfl <| ar (ro_not up_h) rfl <| ar (ro_move up_h) rfl <| al_case up_h (fun hb_10 hq_10 => ?_) (fun hb_10 hq_10 => ?_)
  ·replace hq_10 := bt' hq_10
   refine al_skip' ⟨_, rfl, .inl hb_10⟩ rfl ?_
   refine al_skip' ⟨_, rfl, .inl (up_m rfl hb_10)⟩ rfl ?_
   refine ar (ro_pickT (u2 rfl hb_10) ev_c) rfl <| ar (ro_move up_h) rfl <| al_skip' ⟨_, rfl, .inl up_h⟩ rfl ?_
   refine al_skip' ⟨_, rfl, .inl (up_m rfl up_h)⟩ rfl ?_
   refine ar (ro_pickT (u2 rfl up_h) ev_c) rfl <| ar (ro_move up_h) rfl <| al_skip' ⟨_, rfl, .inl up_h⟩ rfl ?_
   refine al_skip' ⟨_, rfl, .inl (up_m rfl up_h)⟩ rfl ?_
   refine ar (ro_pickT (u2 rfl up_h) ev_c) rfl <| ae4 (u2 rfl (u4 rfl (u8 rfl s2_9))) (u2 rfl (u4 rfl (u8 rfl s5_9))) (u2 rfl (u4 rfl (u8 rfl s7_9))) up_h ?_; clear hb_10 s2_9 s5_9 s6_9 s7_9 s8_9; intro e_11 s2_11 s5_11 s7_11 s42_11
   refine then_n <| aw_true s42_11 <| aw_seq <| at_ <| ar (ro_build evP_nil qbz37 qbu37 qbp37 rfl) rfl ?_
   refine al_stm (st_store (up_m rfl s2_11) up_h rfl rfl mo0_1 qsz37 rfl (nle rfl)) trivial rfl (fun m_13 hm_13 => ?_)
   have mo0_13 := m_set hm_13 mo0_1
   simp only [pS, Value.cells, Nat.reduceAdd] at mo0_13
   have ml_13 := m_set_l hm_13 ml_1
   clear hm_13 mo0_1
   refine ar (ro_assign ev_c) rfl <| ae2 (up_m rfl (up_n (up_m rfl s2_11))) up_h ?_; clear s2_11 s42_11 s5_11 s7_11; intro e_14 s2_14 s3_14
   refine then_n <| aw_ret <| then_r <| ret2 (.inr rfl) (by kernel_rfl) (resV_cell s2_14 mo0_13 z8_ty37 (nle rfl) (by simp)) (resV_tmp s3_14) (vw_r (.ro _ rfl)) (.ro _ rfl) ?_
   clear s2_14 s3_14 mo0_13 ml_13
   (first | exact rprs_T (by assumption) (by assumption) (by assumption) (by assumption) | exact prs_FB (nkB_no (hno (by omega))) | exact prs_FA (nkB_no (by assumption)) | exact prs_FB (nkB_no (by assumption)) | exact prs_FA (nkB_low (by assumption) (by assumption)) | exact prs_FB (nkB_low (by assumption) (by assumption)))
  replace hq_10 := bf' hq_10
  refine al_ro' (ro_move (up_m rfl (u2 rfl s8_9))) ⟨_, rfl, hb_10⟩ rfl ?_
  refine al_ro' (ro_not up_h) ⟨_, rfl, (up_m rfl hb_10)⟩ rfl ?_
  refine ar (ro_pickF (u2 rfl hb_10) up_h) rfl <| ar (ro_move up_h) rfl <| al_case up_h (fun hb_15 hq_15 => ?_) (fun hb_15 hq_15 => ?_)
  ·replace hq_15 := bt' hq_15
   refine al_skip' ⟨_, rfl, .inl hb_15⟩ rfl ?_
   refine al_skip' ⟨_, rfl, .inl (up_m rfl hb_15)⟩ rfl ?_
   refine ar (ro_pickT (u2 rfl hb_15) ev_c) rfl <| ar (ro_move up_h) rfl <| al_skip' ⟨_, rfl, .inl up_h⟩ rfl ?_
   refine al_skip' ⟨_, rfl, .inl (up_m rfl up_h)⟩ rfl ?_
   refine ar (ro_pickT (u2 rfl up_h) ev_c) rfl <| ae4 (u2 rfl (u4 rfl (u8 rfl s2_9))) (u2 rfl (u4 rfl (u8 rfl s5_9))) (u2 rfl (u4 rfl (u8 rfl s7_9))) up_h ?_; clear hb_10 hb_15 s2_9 s5_9 s6_9 s7_9 s8_9; intro e_16 s2_16 s5_16 s7_16 s42_16
   refine then_n <| aw_true s42_16 <| aw_seq <| at_ <| ar (ro_build evP_nil qbz37 qbu37 qbp37 rfl) rfl ?_
   refine al_stm (st_store (up_m rfl s2_16) up_h rfl rfl mo0_1 qsz37 rfl (nle rfl)) trivial rfl (fun m_18 hm_18 => ?_)
   have mo0_18 := m_set hm_18 mo0_1
   simp only [pS, Value.cells, Nat.reduceAdd] at mo0_18
   have ml_18 := m_set_l hm_18 ml_1
   clear hm_18 mo0_1
   refine ar (ro_assign ev_c) rfl <| ae2 (up_m rfl (up_n (up_m rfl s2_16))) up_h ?_; clear s2_16 s42_16 s5_16 s7_16; intro e_19 s2_19 s3_19
   refine then_n <| aw_ret <| then_r <| ret2 (.inr rfl) (by kernel_rfl) (resV_cell s2_19 mo0_18 z8_ty37 (nle rfl) (by simp)) (resV_tmp s3_19) (vw_r (.ro _ rfl)) (.ro _ rfl) ?_
   clear s2_19 s3_19 mo0_18 ml_18
   (first | exact rprs_T (by assumption) (by assumption) (by assumption) (by assumption) | exact prs_FB (nkB_no (hno (by omega))) | exact prs_FA (nkB_no (by assumption)) | exact prs_FB (nkB_no (by assumption)) | exact prs_FA (nkB_low (by assumption) (by assumption)) | exact prs_FB (nkB_low (by assumption) (by assumption)))
  replace hq_15 := bf' hq_15
  refine al_ro' (ro_move (up_m rfl (u2 rfl (u4 rfl s5_9)))) ⟨_, rfl, hb_15⟩ rfl ?_
  refine al_ro' (ro_lss up_h ev_c) ⟨_, rfl, (up_m rfl hb_15)⟩ rfl ?_
  refine ar (ro_pickF (u2 rfl hb_15) up_h) rfl <| ar (ro_move up_h) rfl <| al_case up_h (fun hb_20 hq_20 => ?_) (fun hb_20 hq_20 => ?_)
  ·replace hq_20 := bt hq_20
   refine al_skip' ⟨_, rfl, .inl hb_20⟩ rfl ?_
   refine al_skip' ⟨_, rfl, .inl (up_m rfl hb_20)⟩ rfl ?_
   refine ar (ro_pickT (u2 rfl hb_20) ev_c) rfl <| ae4 (u2 rfl (u4 rfl (u8 rfl s2_9))) (u2 rfl (u4 rfl (u8 rfl s5_9))) (u2 rfl (u4 rfl (u8 rfl s7_9))) up_h ?_; clear hb_10 hb_15 hb_20 s2_9 s5_9 s6_9 s7_9 s8_9; intro e_21 s2_21 s5_21 s7_21 s42_21
   refine then_n <| aw_true s42_21 <| aw_seq <| at_ <| ar (ro_build evP_nil qbz37 qbu37 qbp37 rfl) rfl ?_
   refine al_stm (st_store (up_m rfl s2_21) up_h rfl rfl mo0_1 qsz37 rfl (nle rfl)) trivial rfl (fun m_23 hm_23 => ?_)
   have mo0_23 := m_set hm_23 mo0_1
   simp only [pS, Value.cells, Nat.reduceAdd] at mo0_23
   have ml_23 := m_set_l hm_23 ml_1
   clear hm_23 mo0_1
   refine ar (ro_assign ev_c) rfl <| ae2 (up_m rfl (up_n (up_m rfl s2_21))) up_h ?_; clear s2_21 s42_21 s5_21 s7_21; intro e_24 s2_24 s3_24
   refine then_n <| aw_ret <| then_r <| ret2 (.inr rfl) (by kernel_rfl) (resV_cell s2_24 mo0_23 z8_ty37 (nle rfl) (by simp)) (resV_tmp s3_24) (vw_r (.ro _ rfl)) (.ro _ rfl) ?_
   clear s2_24 s3_24 mo0_23 ml_23
   (first | exact rprs_T (by assumption) (by assumption) (by assumption) (by assumption) | exact prs_FB (nkB_no (hno (by omega))) | exact prs_FA (nkB_no (by assumption)) | exact prs_FB (nkB_no (by assumption)) | exact prs_FA (nkB_low (by assumption) (by assumption)) | exact prs_FB (nkB_low (by assumption) (by assumption)))
  replace hq_20 := bf hq_20
  refine al_ro' (ro_move (up_m rfl (u2 rfl (u8 rfl s7_9)))) ⟨_, rfl, hb_20⟩ rfl ?_
  refine al_ro' (ro_lss up_h ev_c) ⟨_, rfl, (up_m rfl hb_20)⟩ rfl ?_
  refine ar (ro_pickF (u2 rfl hb_20) up_h) rfl <| ae4 (u2 rfl (u4 rfl (u8 rfl s2_9))) (u2 rfl (u4 rfl (u8 rfl s5_9))) (u2 rfl (u4 rfl (u8 rfl s7_9))) up_h ?_; clear hb_10 hb_15 hb_20 s2_9 s5_9 s6_9 s7_9 s8_9; intro e_25 s2_25 s5_25 s7_25 s42_25
  refine then_n <| aw_case s42_25 (fun hq_26 => ?_) (fun hq_26 => ?_)
  ·replace hq_26 := bt hq_26
   refine aw_seq <| at_ <| ar (ro_build evP_nil qbz37 qbu37 qbp37 rfl) rfl ?_
   refine al_stm (st_store (up_m rfl s2_25) up_h rfl rfl mo0_1 qsz37 rfl (nle rfl)) trivial rfl (fun m_27 hm_27 => ?_)
   have mo0_27 := m_set hm_27 mo0_1
   simp only [pS, Value.cells, Nat.reduceAdd] at mo0_27
   have ml_27 := m_set_l hm_27 ml_1
   clear hm_27 mo0_1
   refine ar (ro_assign ev_c) rfl <| ae2 (up_m rfl (up_n (up_m rfl s2_25))) up_h ?_; clear s2_25 s42_25 s5_25 s7_25; intro e_28 s2_28 s3_28
   refine then_n <| aw_ret <| then_r <| ret2 (.inr rfl) (by kernel_rfl) (resV_cell s2_28 mo0_27 z8_ty37 (nle rfl) (by simp)) (resV_tmp s3_28) (vw_r (.ro _ rfl)) (.ro _ rfl) ?_
   clear s2_28 s3_28 mo0_27 ml_27
   (first | exact rprs_T (by assumption) (by assumption) (by assumption) (by assumption) | exact prs_FB (nkB_no (hno (by omega))) | exact prs_FA (nkB_no (by assumption)) | exact prs_FB (nkB_no (by assumption)) | exact prs_FA (nkB_low (by assumption) (by assumption)) | exact prs_FB (nkB_low (by assumption) (by assumption)))
  replace hq_26 := bf hq_26
  refine aw_skip <| then_n <| aw_seq <| at_ <| ar (ro_move s5_25) rfl <| ar (ro_move (up_m rfl s7_25)) rfl <| ar (ro_build (evP_cons (up_m rfl up_h) (evP_cons up_h evP_nil)) qbz37 qbu37 qbp37 rfl) rfl ?_
  refine al_stm (st_store (up_m rfl (u2 rfl s2_25)) up_h rfl rfl mo0_1 qsz37 rfl (nle rfl)) trivial rfl (fun m_29 hm_29 => ?_)
  have mo0_29 := m_set hm_29 mo0_1
  simp only [pS, Value.cells, Nat.reduceAdd] at mo0_29
  have ml_29 := m_set_l hm_29 ml_1
  clear hm_29 mo0_1
  refine ar (ro_assign ev_c) rfl <| ae2 (up_m rfl (up_n (up_m rfl (u2 rfl s2_25)))) up_h ?_; clear s2_25 s42_25 s5_25 s7_25; intro e_30 s2_30 s3_30
  refine then_n <| aw_ret <| ret2 (.inr rfl) (by kernel_rfl) (resV_cell s2_30 mo0_29 z8_ty37 (nle rfl) (by simp)) (resV_tmp s3_30) (vw_r (.ro _ rfl)) (.ro _ rfl) ?_
  clear s2_30 s3_30 mo0_29 ml_29
  (first | exact rprs_T (by assumption) (by assumption) (by assumption) (by assumption) | exact prs_FB (nkB_no (hno (by omega))) | exact prs_FA (nkB_no (by assumption)) | exact prs_FB (nkB_no (by assumption)) | exact prs_FA (nkB_low (by assumption) (by assumption)) | exact prs_FB (nkB_low (by assumption) (by assumption)))
end Go.Proofs.YtfmjmngkgmlghaaDoor
