/- The reference's numerals: read. No conditions on a program. -/
import Derived.Test.YtfmjmngkgmlghaaDoorT0
import Derived.Test.YtfmjmngkgmlghaaDoorZ4
namespace Go.Proofs.YtfmjmngkgmlghaaDoor
open Go Go.RowKit Go.Proofs Go.Lib
set_option linter.unusedSimpArgs false
set_option linter.unusedVariables false

theorem getD_some {l : List UInt8} {k : Nat} (h : k < l.length) : l[k]? = some (l.getD k default) := by
  rw [List.getElem?_eq_getElem h, List.getD_eq_getElem?_getD, List.getElem?_eq_getElem h]; rfl
theorem u8_eq {b : UInt8} {n : Nat} (h : b.toNat = n) (hn : n < 256) : b = UInt8.ofNat n := by
  apply UInt8.toNat_inj.1; rw [UInt8.toNat_ofNat']; omega
theorem numA_dec (l : List UInt8) : numA l = 1 ↔ 0 < l.length ∧ (l.getD 0 default).toNat = 45 := by
  unfold numA
  constructor
  · intro h
    split at h
    · rename_i hq
      have hl := (List.getElem?_eq_some_iff.1 hq).1
      rw [getD_some hl] at hq
      exact ⟨hl, by rw [Option.some.inj hq]; rfl⟩
    · cases h
  · rintro ⟨h1, h2⟩
    rw [if_pos]
    rw [getD_some h1, u8_eq h2 (by decide)]; rfl
theorem numA_two (l : List UInt8) : numA l = 0 ∨ numA l = 1 := by unfold numA; split <;> omega
theorem num_no2 {l : List UInt8} {D : Nat} (h : numK l D = true) : numA l < l.length ∧ l.length - numA l ≤ D ∧ ((l.getD (numA l) default).toNat = 48 → l.length ≤ 1) ∧ ∀ k : Nat, numA l ≤ k → k < l.length → 48 ≤ (l.getD k default).toNat ∧ (l.getD k default).toNat ≤ 57 := by
  obtain ⟨h1, h2, h3, h4, _⟩ := num_no h
  have hlt : numA l < l.length := by
    have := List.length_pos_iff.2 h1
    rw [List.length_drop] at this; omega
  refine ⟨hlt, h2, fun h5 => ?_, fun k h5 h6 => h4 k _ h5 (getD_some h6)⟩
  by_cases h6 : l.length ≤ 1
  · exact h6
  · exact absurd ⟨by rw [getD_some hlt, u8_eq h5 (by decide)]; rfl, by omega⟩ h3
/-- The digits so far. -/
def numI (l : List UInt8) (i n : Int) : Prop := 0 ≤ n ∧ decFrom 0 ((l.drop (numA l)).take (i - numA l).toNat) = some n.toNat
theorem numI_start (l : List UInt8) {i : Int} (hi : i = numA l) : numI l i 0 := by
  refine ⟨by omega, ?_⟩
  rw [show (i - numA l).toNat = 0 by omega]; rfl
theorem numI_step {l : List UInt8} {i n : Int} (h : numI l i n) (h0 : (numA l : Int) ≤ i) (h1 : i < l.length) (h2 : 48 ≤ (l.getD i.toNat default).toNat ∧ (l.getD i.toNat default).toNat ≤ 57) {m : Int} (hm : m = 10 * n + ((l.getD i.toNat default).toNat - 48)) : numI l (i + 1) m := by
  obtain ⟨p1, p2⟩ := h
  refine ⟨by omega, ?_⟩
  have hb : (l.drop (numA l))[(i - numA l).toNat]? = some (l.getD i.toNat default) := by
    rw [List.getElem?_drop, show numA l + (i - numA l).toNat = i.toNat by omega, getD_some (by omega)]
  have hd : digitVal (l.getD i.toNat default) = some ((l.getD i.toNat default).toNat - 48) := by
    unfold digitVal; rw [if_pos h2]
  have := decFrom_take _ _ _ _ _ _ p2 hb hd
  rw [show (i + 1 - (numA l : Int)).toNat = (i - numA l).toNat + 1 by omega, this]
  congr 1; omega
theorem numI_bd {l : List UInt8} {i n : Int} (h : numI l i n) (hl : l.length ≤ numA l + 17) : n < 100000000000000000 := by
  obtain ⟨p1, p2⟩ := h
  have h1 := decFrom_lt _ _ _ p2
  have h2 : ((l.drop (numA l)).take (i - numA l).toNat).length ≤ 17 := by
    have := List.length_take_le (i - numA l).toNat (l.drop (numA l))
    have h3 : (l.drop (numA l)).length = l.length - numA l := List.length_drop
    have := List.length_take_le' (i - numA l).toNat (l.drop (numA l))
    omega
  have h4 : 10 ^ ((l.drop (numA l)).take (i - numA l).toNat).length ≤ 10 ^ 17 := Nat.pow_le_pow_right (by decide) h2
  have e : (10 : Nat) ^ 17 = 100000000000000000 := by decide
  omega
theorem num_end {l : List UInt8} {D : Nat} {i n : Int} (hD : D ≤ 17) (h1 : numA l < l.length) (h2 : l.length - numA l ≤ D) (h3 : (l.getD (numA l) default).toNat = 48 → l.length ≤ 1) (hi : i = l.length) (h : numI l i n) :
    numK l D = true ∧ numN l = if numA l = 1 then -n else n := by
  obtain ⟨p1, p2⟩ := h
  have e : (l.drop (numA l)).take (i - numA l).toNat = l.drop (numA l) := List.take_of_length_le (by rw [List.length_drop]; omega)
  rw [e] at p2
  have := num_yes hD (fun h => by have := congrArg List.length h; rw [List.length_drop] at this; simp at this; omega) h2 (fun hh => by
    have := hh.1; rw [getD_some h1] at this
    have := h3 (by rw [Option.some.inj this]; rfl); omega) p2
  refine ⟨this.1, this.2.trans ?_⟩
  split <;> omega
/-- What the reference reads. -/
def numR (l : List UInt8) (D : Nat) : Int := if numK l D then numN l else 0
theorem num_bad {l : List UInt8} {D : Nat} (h : ¬ numK l D = true) : AV.tuple [.v (.int .i64 0), .v (.bool false)] = .tuple [.v (.int .i64 (numR l D)), .v (.bool (numK l D))] := by
  unfold numR
  rw [if_neg h, Bool.eq_false_iff.2 h]
set_option maxRecDepth 100000 in
set_option maxHeartbeats 4000000 in
theorem number_ok (tx : ByteArray) (D : Nat) (hD : D ≤ 17) (hl : tx.data.toList.length ≤ 1000000) : FnOk Tryd.prog 31 [.v (.string tx), .v (.int .i64 D)] (fun q => q = .tuple [.v (.int .i64 (numR tx.data.toList D)), .v (.bool (numK tx.data.toList D))]) := by
  have hsz : tx.size = tx.data.toList.length := size_eq tx
  have ha1 : 0 < tx.data.toList.length → (tx.data.toList.getD (Int.toNat 0) default).toNat = 45 → numA tx.data.toList = 1 := fun h1 h2 => (numA_dec _).2 ⟨h1, h2⟩
  have ha3 : numA tx.data.toList = 1 → 0 < tx.data.toList.length ∧ (tx.data.toList.getD (Int.toNat 0) default).toNat = 45 := (numA_dec _).1
  have ha2 := numA_two tx.data.toList
  have hu : ∀ k : Nat, (tx.data.toList.getD k default).toNat < 256 := fun k => UInt8.toNat_lt _
  refine fnOk_of (fn := Tryd.f31) 70 (by kernel_rfl) rfl (by kernel_rfl) (Nat.le_of_ble_eq_true rfl) ?_
  intro e_0 m_0 hA hm_0
  have s0_0 : evA e_0 (.tmp 0) = _ := hA 0 _ rfl
  have s1_0 : evA e_0 (.tmp 1) = _ := hA 1 _ rfl
  have ml_0 : m_0.length = 0 := by rw [hm_0]; rfl
  clear hA hm_0
  refine aw_seq <| at_ <| ar (ro_assign ev_c) rfl <| ar (ro_assign ev_c) rfl <| ae2 (u2 rfl s0_0) (u2 rfl s1_0) ?_; clear s0_0 s1_0; intro e_1 s0_1 s1_1
  refine then_n <| aw_seq <| at_ <| ar (ro_assign ev_c) rfl <| ae3 (up_m rfl s0_1) (up_m rfl s1_1) up_h ?_; clear s0_1 s1_1; intro e_2 s0_2 s1_2 s6_2
  refine then_n <| aw_seq <| aw_seq <| aw_cut (fun e mem => (evA e (.tmp 16) = .v (.bool (decide (numA tx.data.toList = 1)))) ∧ (evA e (.tmp 0) = evA e_2 (.tmp 0)) ∧ (evA e (.tmp 1) = evA e_2 (.tmp 1)) ∧ (evA e (.tmp 6) = evA e_2 (.tmp 6)) ∧ m_0 = mem) ?_ ?_
  ·
    refine at_ <| ar (ro_move s0_2) rfl <| ar (ro_len_str up_h rfl qun9) rfl <| ar (ro_gtr up_h ev_c) rfl <| ar (ro_move up_h) rfl <| al_case up_h (fun hb_4 hq_4 => ?_) (fun hb_4 hq_4 => ?_)
    ·replace hq_4 := bt hq_4
     refine al_ro' (ro_move (u4 rfl s0_2)) ⟨_, rfl, hb_4⟩ rfl ?_
     refine al_ro' (ro_sindex up_h ev_c qun9 (by decide) (by refine idx_str ?_; first | omega | (simp <;> omega; done) | (refine Nat.lt_of_lt_of_le (m := 256) ?_ (by decide +kernel); omega))) ⟨_, rfl, (up_m rfl hb_4)⟩ rfl ?_
     refine al_ro' (ro_eql up_h ev_c) ⟨_, rfl, (u2 rfl hb_4)⟩ rfl ?_
     refine ar (ro_pickT (up_m rfl (u2 rfl hb_4)) up_h) rfl <| ae4 (u8 rfl s0_2) (u8 rfl s1_2) (u8 rfl s6_2) up_h ?_; intro e_5 s0_5 s1_5 s6_5 s16_5
     refine then_n ⟨(s16_5).trans (by (refine avb ?_; simp only [decide_eq_true_eq, Bool.false_eq_true, true_iff, false_iff]; first | omega | (intro hh; have := ha3 hh; omega) | exact ⟨fun h => ha1 (by omega) (by omega), fun h => by have := ha3 h; omega⟩)), (s0_5).trans (s0_2).symm, (s1_5).trans (s1_2).symm, (s6_5).trans (s6_2).symm, rfl⟩
    replace hq_4 := bf hq_4
    refine al_skip' ⟨_, rfl, .inl hb_4⟩ rfl ?_
    refine al_skip' ⟨_, rfl, .inl (up_m rfl hb_4)⟩ rfl ?_
    refine al_skip' ⟨_, rfl, .inl (u2 rfl hb_4)⟩ rfl ?_
    refine ar (ro_pickF (up_m rfl (u2 rfl hb_4)) ev_c) rfl <| ae4 (u8 rfl s0_2) (u8 rfl s1_2) (u8 rfl s6_2) up_h ?_; intro e_6 s0_6 s1_6 s6_6 s16_6
    refine then_n ⟨(s16_6).trans (by (refine avb ?_; simp only [decide_eq_true_eq, Bool.false_eq_true, true_iff, false_iff]; first | omega | (intro hh; have := ha3 hh; omega) | exact ⟨fun h => ha1 (by omega) (by omega), fun h => by have := ha3 h; omega⟩)), (s0_6).trans (s0_2).symm, (s1_6).trans (s1_2).symm, (s6_6).trans (s6_2).symm, rfl⟩
  · rintro e_3 _ ⟨s16_3, k0_3, k1_3, k6_3, rfl⟩
    have s0_3 := k0_3.trans s0_2
    have s1_3 := k1_3.trans s1_2
    have s6_3 := k6_3.trans s6_2
    refine aw_case s16_3 (fun hq_7 => ?_) (fun hq_7 => ?_)
    ·replace hq_7 := bt hq_7
     (have hA : numA tx.data.toList = 1 := (by assumption); have hg : (tx.data.toList.getD (numA tx.data.toList) default).toNat = (tx.data.toList.getD (Int.toNat 1) default).toNat := (by rw [hA]; rfl))
     refine at_ <| ar (ro_assign ev_c) rfl <| ae3 (up_m rfl s0_3) (up_m rfl s1_3) up_h ?_; clear s0_3 s16_3 s1_3 s6_3; intro e_8 s0_8 s1_8 s6_8
     refine then_n <| aw_seq <| aw_seq <| aw_cut (fun e mem => (evA e (.tmp 39) = .v (.bool (decide (tx.data.toList.length = numA tx.data.toList ∨ D < tx.data.toList.length - numA tx.data.toList ∨ (tx.data.toList.getD (numA tx.data.toList) default).toNat = 48 ∧ 1 < tx.data.toList.length)))) ∧ (evA e (.tmp 0) = evA e_8 (.tmp 0)) ∧ (evA e (.tmp 6) = evA e_8 (.tmp 6)) ∧ m_0 = mem) ?_ ?_
     ·
       refine at_ <| ar (ro_move s0_8) rfl <| ar (ro_len_str up_h rfl qun9) rfl <| ar (ro_move (u2 rfl s6_8)) rfl <| ar (ro_eql (up_m rfl up_h) up_h) rfl ?_
       refine ar (ro_move up_h) rfl <| al_case up_h (fun hb_10 hq_10 => ?_) (fun hb_10 hq_10 => ?_)
       ·replace hq_10 := bt hq_10
        refine al_skip' ⟨_, rfl, .inl hb_10⟩ rfl ?_
        refine al_skip' ⟨_, rfl, .inl (up_m rfl hb_10)⟩ rfl ?_
        refine al_skip' ⟨_, rfl, .inl (u2 rfl hb_10)⟩ rfl ?_
        refine al_skip' ⟨_, rfl, .inl (up_m rfl (u2 rfl hb_10))⟩ rfl ?_
        refine al_skip' ⟨_, rfl, .inl (u4 rfl hb_10)⟩ rfl ?_
        refine al_skip' ⟨_, rfl, .inl (up_m rfl (u4 rfl hb_10))⟩ rfl ?_
        refine ar (ro_pickT (u2 rfl (u4 rfl hb_10)) ev_c) rfl <| ar (ro_move up_h) rfl <| al_skip' ⟨_, rfl, .inl up_h⟩ rfl ?_
        refine al_skip' ⟨_, rfl, .inl (up_m rfl up_h)⟩ rfl ?_
        refine al_skip' ⟨_, rfl, .inl (u2 rfl up_h)⟩ rfl ?_
        refine al_skip' ⟨_, rfl, .inl (up_m rfl (u2 rfl up_h))⟩ rfl ?_
        refine al_skip' ⟨_, rfl, .inl (u4 rfl up_h)⟩ rfl ?_
        refine al_skip' ⟨_, rfl, .inr up_h⟩ rfl ?_
        refine al_skip' ⟨_, rfl, .inr (up_m rfl up_h)⟩ rfl ?_
        refine al_skip' ⟨_, rfl, .inr (u2 rfl up_h)⟩ rfl ?_
        refine al_skip' ⟨_, rfl, .inl (u8 rfl up_h)⟩ rfl ?_
        refine ar (ro_pickT (up_m rfl (u8 rfl up_h)) ev_c) rfl <| ae3 (up_m rfl (u2 rfl (u4 rfl (u16 rfl s0_8)))) (up_m rfl (u2 rfl (u4 rfl (u16 rfl s6_8)))) up_h ?_; intro e_11 s0_11 s6_11 s39_11
        refine then_n ⟨(s39_11).trans (by (refine avb ?_; simp only [decide_eq_true_eq, Bool.false_eq_true, true_iff, false_iff]; omega)), (s0_11).trans (s0_8).symm, (s6_11).trans (s6_8).symm, rfl⟩
       replace hq_10 := bf hq_10
       refine al_ro' (ro_move (up_m rfl (u4 rfl s0_8))) ⟨_, rfl, hb_10⟩ rfl ?_
       refine al_ro' (ro_len_str up_h rfl qun9) ⟨_, rfl, (up_m rfl hb_10)⟩ rfl ?_
       refine al_ro' (ro_move (up_m rfl (u2 rfl (u4 rfl s6_8)))) ⟨_, rfl, (u2 rfl hb_10)⟩ rfl ?_
       (refine al_ro' (ro_sub' (up_m rfl up_h) up_h ?_) ⟨_, rfl, (up_m rfl (u2 rfl hb_10))⟩ rfl ?_; · (first | ((first | unfold In64 | unfold InU64 | unfold InU8); omega) | (simp only [ByteArray.size_append, size_mk, List.length_cons, List.length_nil] <;> omega) | omega))
       refine al_ro' (ro_move (up_m rfl (u8 rfl s1_8))) ⟨_, rfl, (u4 rfl hb_10)⟩ rfl ?_
       refine al_ro' (ro_gtr (up_m rfl up_h) up_h) ⟨_, rfl, (up_m rfl (u4 rfl hb_10))⟩ rfl ?_
       refine ar (ro_pickF (u2 rfl (u4 rfl hb_10)) up_h) rfl <| ar (ro_move up_h) rfl <| al_case up_h (fun hb_12 hq_12 => ?_) (fun hb_12 hq_12 => ?_)
       ·replace hq_12 := bt hq_12
        refine al_skip' ⟨_, rfl, .inl hb_12⟩ rfl ?_
        refine al_skip' ⟨_, rfl, .inl (up_m rfl hb_12)⟩ rfl ?_
        refine al_skip' ⟨_, rfl, .inl (u2 rfl hb_12)⟩ rfl ?_
        refine al_skip' ⟨_, rfl, .inl (up_m rfl (u2 rfl hb_12))⟩ rfl ?_
        refine al_skip' ⟨_, rfl, .inl (u4 rfl hb_12)⟩ rfl ?_
        refine al_skip' ⟨_, rfl, .inr up_h⟩ rfl ?_
        refine al_skip' ⟨_, rfl, .inr (up_m rfl up_h)⟩ rfl ?_
        refine al_skip' ⟨_, rfl, .inr (u2 rfl up_h)⟩ rfl ?_
        refine al_skip' ⟨_, rfl, .inl (u8 rfl hb_12)⟩ rfl ?_
        refine ar (ro_pickT (up_m rfl (u8 rfl hb_12)) ev_c) rfl <| ae3 (up_m rfl (u2 rfl (u4 rfl (u16 rfl s0_8)))) (up_m rfl (u2 rfl (u4 rfl (u16 rfl s6_8)))) up_h ?_; intro e_13 s0_13 s6_13 s39_13
        refine then_n ⟨(s39_13).trans (by (refine avb ?_; simp only [decide_eq_true_eq, Bool.false_eq_true, true_iff, false_iff]; omega)), (s0_13).trans (s0_8).symm, (s6_13).trans (s6_8).symm, rfl⟩
       replace hq_12 := bf hq_12
       refine al_ro' (ro_move (up_m rfl (u4 rfl (u8 rfl s0_8)))) ⟨_, rfl, hb_12⟩ rfl ?_
       refine al_ro' (ro_move (u2 rfl (u4 rfl (u8 rfl s6_8)))) ⟨_, rfl, (up_m rfl hb_12)⟩ rfl ?_
       refine al_ro' (ro_sindex (up_m rfl up_h) up_h qun9 (by decide) (by refine idx_str ?_; first | omega | (simp <;> omega; done) | (refine Nat.lt_of_lt_of_le (m := 256) ?_ (by decide +kernel); omega))) ⟨_, rfl, (u2 rfl hb_12)⟩ rfl ?_
       refine al_ro' (ro_eql up_h ev_c) ⟨_, rfl, (up_m rfl (u2 rfl hb_12))⟩ rfl ?_
       refine al_ro' (ro_move up_h) ⟨_, rfl, (u4 rfl hb_12)⟩ rfl ?_
       refine al_case up_h (fun hb_14 hq_14 => ?_) (fun hb_14 hq_14 => ?_)
       ·replace hq_14 := bt hq_14
        refine al_ro' (ro_move (u2 rfl (u16 rfl s0_8))) ⟨_, rfl, hb_14⟩ rfl ?_
        refine al_ro' (ro_len_str up_h rfl qun9) ⟨_, rfl, (up_m rfl hb_14)⟩ rfl ?_
        refine al_ro' (ro_gtr up_h ev_c) ⟨_, rfl, (u2 rfl hb_14)⟩ rfl ?_
        refine al_ro' (ro_pickT (up_m rfl (u2 rfl hb_14)) up_h) ⟨_, rfl, (u8 rfl hb_12)⟩ rfl ?_
        refine ar (ro_pickF (up_m rfl (u8 rfl hb_12)) up_h) rfl <| ae3 (up_m rfl (u2 rfl (u4 rfl (u16 rfl s0_8)))) (up_m rfl (u2 rfl (u4 rfl (u16 rfl s6_8)))) up_h ?_; intro e_15 s0_15 s6_15 s39_15
        refine then_n ⟨(s39_15).trans (by (refine avb ?_; simp only [decide_eq_true_eq, Bool.false_eq_true, true_iff, false_iff]; omega)), (s0_15).trans (s0_8).symm, (s6_15).trans (s6_8).symm, rfl⟩
       replace hq_14 := bf hq_14
       refine al_skip' ⟨_, rfl, .inl hb_14⟩ rfl ?_
       refine al_skip' ⟨_, rfl, .inl (up_m rfl hb_14)⟩ rfl ?_
       refine al_skip' ⟨_, rfl, .inl (u2 rfl hb_14)⟩ rfl ?_
       refine al_ro' (ro_pickF (up_m rfl (u2 rfl hb_14)) ev_c) ⟨_, rfl, (u8 rfl hb_12)⟩ rfl ?_
       refine ar (ro_pickF (up_m rfl (u8 rfl hb_12)) up_h) rfl <| ae3 (up_m rfl (u2 rfl (u4 rfl (u16 rfl s0_8)))) (up_m rfl (u2 rfl (u4 rfl (u16 rfl s6_8)))) up_h ?_; intro e_16 s0_16 s6_16 s39_16
       refine then_n ⟨(s39_16).trans (by (refine avb ?_; simp only [decide_eq_true_eq, Bool.false_eq_true, true_iff, false_iff]; omega)), (s0_16).trans (s0_8).symm, (s6_16).trans (s6_8).symm, rfl⟩
     · rintro e_9 _ ⟨s39_9, k0_9, k6_9, rfl⟩
       have s0_9 := k0_9.trans s0_8
       have s6_9 := k6_9.trans s6_8
       refine aw_case s39_9 (fun hq_17 => ?_) (fun hq_17 => ?_)
       ·replace hq_17 := bt hq_17
        refine aw_seq <| at_ <| ar (ro_assign ev_c) rfl <| ar (ro_assign ev_c) rfl <| ae2 (up_m rfl up_h) up_h ?_; clear s0_9 s39_9 s6_9; intro e_18 s4_18 s5_18
        refine then_n <| aw_ret <| then_r <| ret2 (.inr rfl) (by kernel_rfl) (resV_tmp s4_18) (resV_tmp s5_18) (.ro _ rfl) (.ro _ rfl) ?_
        clear s4_18 s5_18  ml_0
        (first | (refine num_bad fun hk => ?_; obtain ⟨n1, n2, n3, n4⟩ := num_no2 hk; first | omega | (have hz := n4 i.toNat (by omega) (by omega); omega)) | (have he := num_end (l := tx.data.toList) (D := D) (i := i) (n := n) hD (by omega) (by omega) (by omega) (by omega) p3; unfold numR; rw [he.1, if_pos rfl, he.2]; first | (rw [if_pos hA]; done) | (rw [if_neg (by omega)]; done)))
       replace hq_17 := bf hq_17
       refine aw_skip <| then_n <| aw_seq <| at_ <| ar (ro_assign ev_c) rfl <| ae3 (up_m rfl s0_9) (up_m rfl s6_9) up_h ?_; clear s0_9 s39_9 s6_9; intro e_19 s0_19 s6_19 s7_19
       refine then_n <| aw_seq <| aw_seq <| at_ <| ar (ro_move s6_19) rfl <| ar (ro_assign up_h) rfl <| ae4 (u2 rfl s0_19) (u2 rfl s6_19) (u2 rfl s7_19) up_h ?_; clear s0_19 s6_19 s7_19; intro e_20 s0_20 s6_20 s7_20 s8_20
       refine then_n <| aw_block <| aw_loop (S := (Int × Int)) (fun s e mem => match s with | ⟨i, n⟩ => (evA e (.tmp 8) = .v (.int .i64 i)) ∧ (evA e (.tmp 7) = .v (.int .i64 n)) ∧ (evA e (.tmp 0) = evA e_20 (.tmp 0)) ∧ (evA e (.tmp 6) = evA e_20 (.tmp 6)) ∧ (mem.length = 0) ∧ ((numA tx.data.toList ≤ i ∧ i ≤ tx.data.toList.length ∧ numI tx.data.toList i n))) (fun s => match s with | ⟨i, n⟩ => (tx.data.toList.length - i).toNat) ⟨_, _⟩ ⟨s8_20, s7_20, rfl, rfl, ml_0, ?_⟩ ?_
       · (exact ⟨by omega, by omega, numI_start tx.data.toList (by omega)⟩)
       · rintro ⟨i, n⟩ e_21 m_21 ⟨s8_21, s7_21, k0_21, k6_21, ml_21, hinv⟩
         have s0_21 := k0_21.trans s0_20
         have s6_21 := k6_21.trans s6_20
         (obtain ⟨p1, p2, p3⟩ := hinv; have hb := numI_bd p3 (by omega); have hn0 := p3.1; have hui := hu i.toNat)
         refine aw_seq <| aw_seq <| at_ <| ar (ro_move s8_21) rfl <| ar (ro_move (up_m rfl s0_21)) rfl <| ar (ro_len_str up_h rfl qun9) rfl <| ar (ro_lss (u2 rfl up_h) up_h) rfl <| ae5 (u4 rfl s0_21) (u4 rfl s6_21) (u4 rfl s7_21) (u4 rfl s8_21) up_h ?_; clear s0_21 s6_21 s7_21 s8_21; intro e_22 s0_22 s6_22 s7_22 s8_22 s44_22
         refine then_n <| aw_case s44_22 (fun hq_23 => ?_) (fun hq_23 => ?_)
         ·replace hq_23 := bt hq_23
          refine aw_skip <| then_n <| aw_seq <| aw_block <| aw_seq <| aw_seq <| at_ <| ar (ro_move s0_22) rfl <| ar (ro_move (up_m rfl s8_22)) rfl <| ar (ro_sindex (up_m rfl up_h) up_h qun9 (by omega) (by refine idx_str ?_; first | omega | (simp <;> omega; done) | (refine Nat.lt_of_lt_of_le (m := 256) ?_ (by decide +kernel); omega))) rfl ?_
          refine ar (ro_lss up_h ev_c) rfl <| ar (ro_move up_h) rfl <| al_case up_h (fun hb_24 hq_24 => ?_) (fun hb_24 hq_24 => ?_)
          ·replace hq_24 := bt hq_24
           refine al_skip' ⟨_, rfl, .inl hb_24⟩ rfl ?_
           refine al_skip' ⟨_, rfl, .inl (up_m rfl hb_24)⟩ rfl ?_
           refine al_skip' ⟨_, rfl, .inl (u2 rfl hb_24)⟩ rfl ?_
           refine al_skip' ⟨_, rfl, .inl (up_m rfl (u2 rfl hb_24))⟩ rfl ?_
           refine ar (ro_pickT (u4 rfl hb_24) ev_c) rfl <| ae5 (u2 rfl (u8 rfl s0_22)) (u2 rfl (u8 rfl s6_22)) (u2 rfl (u8 rfl s7_22)) (u2 rfl (u8 rfl s8_22)) up_h ?_; clear hb_24 s0_22 s44_22 s6_22 s7_22 s8_22; intro e_25 s0_25 s6_25 s7_25 s8_25 s56_25
           refine then_n <| aw_true s56_25 <| aw_seq <| at_ <| ar (ro_assign ev_c) rfl <| ar (ro_assign ev_c) rfl <| ae2 (up_m rfl up_h) up_h ?_; clear s0_25 s56_25 s6_25 s7_25 s8_25; intro e_27 s4_27 s5_27
           refine then_n <| aw_ret <| then_r <| block_r <| then_r <| then_r <| block_r <| then_r <| ret2 (.inr rfl) (by kernel_rfl) (resV_tmp s4_27) (resV_tmp s5_27) (.ro _ rfl) (.ro _ rfl) ?_
           clear s4_27 s5_27  ml_21
           (first | (refine num_bad fun hk => ?_; obtain ⟨n1, n2, n3, n4⟩ := num_no2 hk; first | omega | (have hz := n4 i.toNat (by omega) (by omega); omega)) | (have he := num_end (l := tx.data.toList) (D := D) (i := i) (n := n) hD (by omega) (by omega) (by omega) (by omega) p3; unfold numR; rw [he.1, if_pos rfl, he.2]; first | (rw [if_pos hA]; done) | (rw [if_neg (by omega)]; done)))
          replace hq_24 := bf hq_24
          refine al_ro' (ro_move (up_m rfl (u4 rfl s0_22))) ⟨_, rfl, hb_24⟩ rfl ?_
          refine al_ro' (ro_move (u2 rfl (u4 rfl s8_22))) ⟨_, rfl, (up_m rfl hb_24)⟩ rfl ?_
          refine al_ro' (ro_sindex (up_m rfl up_h) up_h qun9 (by omega) (by refine idx_str ?_; first | omega | (simp <;> omega; done) | (refine Nat.lt_of_lt_of_le (m := 256) ?_ (by decide +kernel); omega))) ⟨_, rfl, (u2 rfl hb_24)⟩ rfl ?_
          refine al_ro' (ro_gtr up_h ev_c) ⟨_, rfl, (up_m rfl (u2 rfl hb_24))⟩ rfl ?_
          refine ar (ro_pickF (u4 rfl hb_24) up_h) rfl <| ae5 (u2 rfl (u8 rfl s0_22)) (u2 rfl (u8 rfl s6_22)) (u2 rfl (u8 rfl s7_22)) (u2 rfl (u8 rfl s8_22)) up_h ?_; clear hb_24 s0_22 s44_22 s6_22 s7_22 s8_22; intro e_28 s0_28 s6_28 s7_28 s8_28 s56_28
          refine then_n <| aw_case s56_28 (fun hq_29 => ?_) (fun hq_29 => ?_)
          ·replace hq_29 := bt hq_29
           refine aw_seq <| at_ <| ar (ro_assign ev_c) rfl <| ar (ro_assign ev_c) rfl <| ae2 (up_m rfl up_h) up_h ?_; clear s0_28 s56_28 s6_28 s7_28 s8_28; intro e_30 s4_30 s5_30
           refine then_n <| aw_ret <| then_r <| block_r <| then_r <| then_r <| block_r <| then_r <| ret2 (.inr rfl) (by kernel_rfl) (resV_tmp s4_30) (resV_tmp s5_30) (.ro _ rfl) (.ro _ rfl) ?_
           clear s4_30 s5_30  ml_21
           (first | (refine num_bad fun hk => ?_; obtain ⟨n1, n2, n3, n4⟩ := num_no2 hk; first | omega | (have hz := n4 i.toNat (by omega) (by omega); omega)) | (have he := num_end (l := tx.data.toList) (D := D) (i := i) (n := n) hD (by omega) (by omega) (by omega) (by omega) p3; unfold numR; rw [he.1, if_pos rfl, he.2]; first | (rw [if_pos hA]; done) | (rw [if_neg (by omega)]; done)))
          replace hq_29 := bf hq_29
          refine aw_skip <| then_n <| at_ <| ar (ro_move s7_28) rfl ?_
          (refine ar (ro_mul' ev_c up_h ?_) rfl ?_; · (first | ((first | unfold In64 | unfold InU64 | unfold InU8); omega) | (simp only [ByteArray.size_append, size_mk, List.length_cons, List.length_nil] <;> omega) | omega))
          refine ar (ro_move (u2 rfl s0_28)) rfl <| ar (ro_move (up_m rfl (u2 rfl s8_28))) rfl <| ar (ro_sindex (up_m rfl up_h) up_h qun9 (by omega) (by refine idx_str ?_; first | omega | (simp <;> omega; done) | (refine Nat.lt_of_lt_of_le (m := 256) ?_ (by decide +kernel); omega))) rfl ?_
          (refine ar (ro_subB up_h ev_c ?_) rfl ?_; · (first | ((first | unfold In64 | unfold InU64 | unfold InU8); omega) | (simp only [ByteArray.size_append, size_mk, List.length_cons, List.length_nil] <;> omega) | omega))
          (refine ar (ro_cvI up_h (by kernel_rfl) (by kernel_rfl) ?_) rfl ?_; · (first | ((first | unfold In64 | unfold InU64 | unfold InU8); omega) | (simp only [ByteArray.size_append, size_mk, List.length_cons, List.length_nil] <;> omega) | omega))
          (refine ar (ro_add' (up_m rfl (u4 rfl up_h)) up_h ?_) rfl ?_; · (first | ((first | unfold In64 | unfold InU64 | unfold InU8); omega) | (simp only [ByteArray.size_append, size_mk, List.length_cons, List.length_nil] <;> omega) | omega))
          refine ar (ro_assign up_h) rfl <| ae4 (up_m rfl (u8 rfl s0_28)) (up_m rfl (u8 rfl s6_28)) up_h (up_m rfl (u8 rfl s8_28)) ?_; clear s0_28 s56_28 s6_28 s7_28 s8_28; intro e_31 s0_31 s6_31 s7_31 s8_31
          refine block_n <| then_n <| at_ <| ar (ro_move s8_31) rfl ?_
          (refine ar (ro_add' up_h ev_c ?_) rfl ?_; · (first | ((first | unfold In64 | unfold InU64 | unfold InU8); omega) | (simp only [ByteArray.size_append, size_mk, List.length_cons, List.length_nil] <;> omega) | omega))
          refine ar (ro_assign up_h) rfl <| ae4 (up_m rfl (u2 rfl s0_31)) (up_m rfl (u2 rfl s6_31)) (up_m rfl (u2 rfl s7_31)) up_h ?_; clear s0_31 s6_31 s7_31 s8_31; intro e_32 s0_32 s6_32 s7_32 s8_32
          refine then_n <| ⟨⟨_, _⟩, ⟨s8_32, s7_32, (s0_32.trans s0_20.symm), (s6_32.trans s6_20.symm), ml_21, ?_⟩, ?_⟩
          · (exact ⟨by omega, by omega, numI_step p3 p1 (by omega) (by omega) (by omega)⟩)
          · ((try dsimp only); omega)
         replace hq_23 := bf hq_23
         refine aw_exit <| then_x <| then_x <| block_hit <| then_n <| aw_seq <| aw_seq <| at_ <| ar (ro_move s6_22) rfl <| ar (ro_eql up_h ev_c) rfl ?_
         refine ae2 (u2 rfl s7_22) up_h ?_; clear s0_22 s44_22 s6_22 s7_22 s8_22; intro e_33 s7_33 s66_33
         refine then_n <| aw_case s66_33 (fun hq_34 => ?_) (fun hq_34 => ?_)
         ·replace hq_34 := bt hq_34
          refine at_ <| ar (ro_move s7_33) rfl ?_
          (refine ar (ro_neg' up_h ?_) rfl ?_; · (first | ((first | unfold In64 | unfold InU64 | unfold InU8); omega) | (simp only [ByteArray.size_append, size_mk, List.length_cons, List.length_nil] <;> omega) | omega))
          refine ar (ro_assign up_h) rfl <| ae1 up_h ?_; clear s66_33 s7_33; intro e_35 s7_35
          refine then_n <| aw_seq <| at_ <| ar (ro_move s7_35) rfl <| ar (ro_assign up_h) rfl <| ar (ro_assign ev_c) rfl <| ae2 (up_m rfl up_h) up_h ?_; clear s7_35; intro e_36 s4_36 s5_36
          refine then_n <| aw_ret <| ret2 (.inr rfl) (by kernel_rfl) (resV_tmp s4_36) (resV_tmp s5_36) (.ro _ rfl) (.ro _ rfl) ?_
          clear s4_36 s5_36  ml_21
          (first | (refine num_bad fun hk => ?_; obtain ⟨n1, n2, n3, n4⟩ := num_no2 hk; first | omega | (have hz := n4 i.toNat (by omega) (by omega); omega)) | (have he := num_end (l := tx.data.toList) (D := D) (i := i) (n := n) hD (by omega) (by omega) (by omega) (by omega) p3; unfold numR; rw [he.1, if_pos rfl, he.2]; first | (rw [if_pos hA]; done) | (rw [if_neg (by omega)]; done)))
         · replace hq_34 := bf hq_34; exfalso; omega
    replace hq_7 := bf hq_7
    (have hA : numA tx.data.toList = 0 := (by omega); have hg : (tx.data.toList.getD (numA tx.data.toList) default).toNat = (tx.data.toList.getD (Int.toNat 0) default).toNat := (by rw [hA]; rfl))
    refine aw_skip <| then_n <| aw_seq <| aw_seq <| aw_cut (fun e mem => (evA e (.tmp 39) = .v (.bool (decide (tx.data.toList.length = numA tx.data.toList ∨ D < tx.data.toList.length - numA tx.data.toList ∨ (tx.data.toList.getD (numA tx.data.toList) default).toNat = 48 ∧ 1 < tx.data.toList.length)))) ∧ (evA e (.tmp 0) = evA e_3 (.tmp 0)) ∧ (evA e (.tmp 6) = evA e_3 (.tmp 6)) ∧ m_0 = mem) ?_ ?_
    ·
      refine at_ <| ar (ro_move s0_3) rfl <| ar (ro_len_str up_h rfl qun9) rfl <| ar (ro_move (u2 rfl s6_3)) rfl <| ar (ro_eql (up_m rfl up_h) up_h) rfl ?_
      refine ar (ro_move up_h) rfl <| al_case up_h (fun hb_39 hq_39 => ?_) (fun hb_39 hq_39 => ?_)
      ·replace hq_39 := bt hq_39
       refine al_skip' ⟨_, rfl, .inl hb_39⟩ rfl ?_
       refine al_skip' ⟨_, rfl, .inl (up_m rfl hb_39)⟩ rfl ?_
       refine al_skip' ⟨_, rfl, .inl (u2 rfl hb_39)⟩ rfl ?_
       refine al_skip' ⟨_, rfl, .inl (up_m rfl (u2 rfl hb_39))⟩ rfl ?_
       refine al_skip' ⟨_, rfl, .inl (u4 rfl hb_39)⟩ rfl ?_
       refine al_skip' ⟨_, rfl, .inl (up_m rfl (u4 rfl hb_39))⟩ rfl ?_
       refine ar (ro_pickT (u2 rfl (u4 rfl hb_39)) ev_c) rfl <| ar (ro_move up_h) rfl <| al_skip' ⟨_, rfl, .inl up_h⟩ rfl ?_
       refine al_skip' ⟨_, rfl, .inl (up_m rfl up_h)⟩ rfl ?_
       refine al_skip' ⟨_, rfl, .inl (u2 rfl up_h)⟩ rfl ?_
       refine al_skip' ⟨_, rfl, .inl (up_m rfl (u2 rfl up_h))⟩ rfl ?_
       refine al_skip' ⟨_, rfl, .inl (u4 rfl up_h)⟩ rfl ?_
       refine al_skip' ⟨_, rfl, .inr up_h⟩ rfl ?_
       refine al_skip' ⟨_, rfl, .inr (up_m rfl up_h)⟩ rfl ?_
       refine al_skip' ⟨_, rfl, .inr (u2 rfl up_h)⟩ rfl ?_
       refine al_skip' ⟨_, rfl, .inl (u8 rfl up_h)⟩ rfl ?_
       refine ar (ro_pickT (up_m rfl (u8 rfl up_h)) ev_c) rfl <| ae3 (up_m rfl (u2 rfl (u4 rfl (u16 rfl s0_3)))) (up_m rfl (u2 rfl (u4 rfl (u16 rfl s6_3)))) up_h ?_; intro e_40 s0_40 s6_40 s39_40
       refine then_n ⟨(s39_40).trans (by (refine avb ?_; simp only [decide_eq_true_eq, Bool.false_eq_true, true_iff, false_iff]; omega)), (s0_40).trans (s0_3).symm, (s6_40).trans (s6_3).symm, rfl⟩
      replace hq_39 := bf hq_39
      refine al_ro' (ro_move (up_m rfl (u4 rfl s0_3))) ⟨_, rfl, hb_39⟩ rfl ?_
      refine al_ro' (ro_len_str up_h rfl qun9) ⟨_, rfl, (up_m rfl hb_39)⟩ rfl ?_
      refine al_ro' (ro_move (up_m rfl (u2 rfl (u4 rfl s6_3)))) ⟨_, rfl, (u2 rfl hb_39)⟩ rfl ?_
      (refine al_ro' (ro_sub' (up_m rfl up_h) up_h ?_) ⟨_, rfl, (up_m rfl (u2 rfl hb_39))⟩ rfl ?_; · (first | ((first | unfold In64 | unfold InU64 | unfold InU8); omega) | (simp only [ByteArray.size_append, size_mk, List.length_cons, List.length_nil] <;> omega) | omega))
      refine al_ro' (ro_move (up_m rfl (u8 rfl s1_3))) ⟨_, rfl, (u4 rfl hb_39)⟩ rfl ?_
      refine al_ro' (ro_gtr (up_m rfl up_h) up_h) ⟨_, rfl, (up_m rfl (u4 rfl hb_39))⟩ rfl ?_
      refine ar (ro_pickF (u2 rfl (u4 rfl hb_39)) up_h) rfl <| ar (ro_move up_h) rfl <| al_case up_h (fun hb_41 hq_41 => ?_) (fun hb_41 hq_41 => ?_)
      ·replace hq_41 := bt hq_41
       refine al_skip' ⟨_, rfl, .inl hb_41⟩ rfl ?_
       refine al_skip' ⟨_, rfl, .inl (up_m rfl hb_41)⟩ rfl ?_
       refine al_skip' ⟨_, rfl, .inl (u2 rfl hb_41)⟩ rfl ?_
       refine al_skip' ⟨_, rfl, .inl (up_m rfl (u2 rfl hb_41))⟩ rfl ?_
       refine al_skip' ⟨_, rfl, .inl (u4 rfl hb_41)⟩ rfl ?_
       refine al_skip' ⟨_, rfl, .inr up_h⟩ rfl ?_
       refine al_skip' ⟨_, rfl, .inr (up_m rfl up_h)⟩ rfl ?_
       refine al_skip' ⟨_, rfl, .inr (u2 rfl up_h)⟩ rfl ?_
       refine al_skip' ⟨_, rfl, .inl (u8 rfl hb_41)⟩ rfl ?_
       refine ar (ro_pickT (up_m rfl (u8 rfl hb_41)) ev_c) rfl <| ae3 (up_m rfl (u2 rfl (u4 rfl (u16 rfl s0_3)))) (up_m rfl (u2 rfl (u4 rfl (u16 rfl s6_3)))) up_h ?_; intro e_42 s0_42 s6_42 s39_42
       refine then_n ⟨(s39_42).trans (by (refine avb ?_; simp only [decide_eq_true_eq, Bool.false_eq_true, true_iff, false_iff]; omega)), (s0_42).trans (s0_3).symm, (s6_42).trans (s6_3).symm, rfl⟩
      replace hq_41 := bf hq_41
      refine al_ro' (ro_move (up_m rfl (u4 rfl (u8 rfl s0_3)))) ⟨_, rfl, hb_41⟩ rfl ?_
      refine al_ro' (ro_move (u2 rfl (u4 rfl (u8 rfl s6_3)))) ⟨_, rfl, (up_m rfl hb_41)⟩ rfl ?_
      refine al_ro' (ro_sindex (up_m rfl up_h) up_h qun9 (by decide) (by refine idx_str ?_; first | omega | (simp <;> omega; done) | (refine Nat.lt_of_lt_of_le (m := 256) ?_ (by decide +kernel); omega))) ⟨_, rfl, (u2 rfl hb_41)⟩ rfl ?_
      refine al_ro' (ro_eql up_h ev_c) ⟨_, rfl, (up_m rfl (u2 rfl hb_41))⟩ rfl ?_
      refine al_ro' (ro_move up_h) ⟨_, rfl, (u4 rfl hb_41)⟩ rfl ?_
      refine al_case up_h (fun hb_43 hq_43 => ?_) (fun hb_43 hq_43 => ?_)
      ·replace hq_43 := bt hq_43
       refine al_ro' (ro_move (u2 rfl (u16 rfl s0_3))) ⟨_, rfl, hb_43⟩ rfl ?_
       refine al_ro' (ro_len_str up_h rfl qun9) ⟨_, rfl, (up_m rfl hb_43)⟩ rfl ?_
       refine al_ro' (ro_gtr up_h ev_c) ⟨_, rfl, (u2 rfl hb_43)⟩ rfl ?_
       refine al_ro' (ro_pickT (up_m rfl (u2 rfl hb_43)) up_h) ⟨_, rfl, (u8 rfl hb_41)⟩ rfl ?_
       refine ar (ro_pickF (up_m rfl (u8 rfl hb_41)) up_h) rfl <| ae3 (up_m rfl (u2 rfl (u4 rfl (u16 rfl s0_3)))) (up_m rfl (u2 rfl (u4 rfl (u16 rfl s6_3)))) up_h ?_; intro e_44 s0_44 s6_44 s39_44
       refine then_n ⟨(s39_44).trans (by (refine avb ?_; simp only [decide_eq_true_eq, Bool.false_eq_true, true_iff, false_iff]; omega)), (s0_44).trans (s0_3).symm, (s6_44).trans (s6_3).symm, rfl⟩
      replace hq_43 := bf hq_43
      refine al_skip' ⟨_, rfl, .inl hb_43⟩ rfl ?_
      refine al_skip' ⟨_, rfl, .inl (up_m rfl hb_43)⟩ rfl ?_
      refine al_skip' ⟨_, rfl, .inl (u2 rfl hb_43)⟩ rfl ?_
      refine al_ro' (ro_pickF (up_m rfl (u2 rfl hb_43)) ev_c) ⟨_, rfl, (u8 rfl hb_41)⟩ rfl ?_
      refine ar (ro_pickF (up_m rfl (u8 rfl hb_41)) up_h) rfl <| ae3 (up_m rfl (u2 rfl (u4 rfl (u16 rfl s0_3)))) (up_m rfl (u2 rfl (u4 rfl (u16 rfl s6_3)))) up_h ?_; intro e_45 s0_45 s6_45 s39_45
      refine then_n ⟨(s39_45).trans (by (refine avb ?_; simp only [decide_eq_true_eq, Bool.false_eq_true, true_iff, false_iff]; omega)), (s0_45).trans (s0_3).symm, (s6_45).trans (s6_3).symm, rfl⟩
    · rintro e_38 _ ⟨s39_38, k0_38, k6_38, rfl⟩
      have s0_38 := k0_38.trans s0_3
      have s6_38 := k6_38.trans s6_3
      refine aw_case s39_38 (fun hq_46 => ?_) (fun hq_46 => ?_)
      ·replace hq_46 := bt hq_46
       refine aw_seq <| at_ <| ar (ro_assign ev_c) rfl <| ar (ro_assign ev_c) rfl <| ae2 (up_m rfl up_h) up_h ?_; clear s0_38 s39_38 s6_38; intro e_47 s4_47 s5_47
       refine then_n <| aw_ret <| then_r <| ret2 (.inr rfl) (by kernel_rfl) (resV_tmp s4_47) (resV_tmp s5_47) (.ro _ rfl) (.ro _ rfl) ?_
       clear s4_47 s5_47  ml_0
       (first | (refine num_bad fun hk => ?_; obtain ⟨n1, n2, n3, n4⟩ := num_no2 hk; first | omega | (have hz := n4 i.toNat (by omega) (by omega); omega)) | (have he := num_end (l := tx.data.toList) (D := D) (i := i) (n := n) hD (by omega) (by omega) (by omega) (by omega) p3; unfold numR; rw [he.1, if_pos rfl, he.2]; first | (rw [if_pos hA]; done) | (rw [if_neg (by omega)]; done)))
      replace hq_46 := bf hq_46
      refine aw_skip <| then_n <| aw_seq <| at_ <| ar (ro_assign ev_c) rfl <| ae3 (up_m rfl s0_38) (up_m rfl s6_38) up_h ?_; clear s0_38 s39_38 s6_38; intro e_48 s0_48 s6_48 s7_48
      refine then_n <| aw_seq <| aw_seq <| at_ <| ar (ro_move s6_48) rfl <| ar (ro_assign up_h) rfl <| ae4 (u2 rfl s0_48) (u2 rfl s6_48) (u2 rfl s7_48) up_h ?_; clear s0_48 s6_48 s7_48; intro e_49 s0_49 s6_49 s7_49 s8_49
      refine then_n <| aw_block <| aw_loop (S := (Int × Int)) (fun s e mem => match s with | ⟨i, n⟩ => (evA e (.tmp 8) = .v (.int .i64 i)) ∧ (evA e (.tmp 7) = .v (.int .i64 n)) ∧ (evA e (.tmp 0) = evA e_49 (.tmp 0)) ∧ (evA e (.tmp 6) = evA e_49 (.tmp 6)) ∧ (mem.length = 0) ∧ ((numA tx.data.toList ≤ i ∧ i ≤ tx.data.toList.length ∧ numI tx.data.toList i n))) (fun s => match s with | ⟨i, n⟩ => (tx.data.toList.length - i).toNat) ⟨_, _⟩ ⟨s8_49, s7_49, rfl, rfl, ml_0, ?_⟩ ?_
      · (exact ⟨by omega, by omega, numI_start tx.data.toList (by omega)⟩)
      · rintro ⟨i, n⟩ e_50 m_50 ⟨s8_50, s7_50, k0_50, k6_50, ml_50, hinv⟩
        have s0_50 := k0_50.trans s0_49
        have s6_50 := k6_50.trans s6_49
        (obtain ⟨p1, p2, p3⟩ := hinv; have hb := numI_bd p3 (by omega); have hn0 := p3.1; have hui := hu i.toNat)
        refine aw_seq <| aw_seq <| at_ <| ar (ro_move s8_50) rfl <| ar (ro_move (up_m rfl s0_50)) rfl <| ar (ro_len_str up_h rfl qun9) rfl <| ar (ro_lss (u2 rfl up_h) up_h) rfl <| ae5 (u4 rfl s0_50) (u4 rfl s6_50) (u4 rfl s7_50) (u4 rfl s8_50) up_h ?_; clear s0_50 s6_50 s7_50 s8_50; intro e_51 s0_51 s6_51 s7_51 s8_51 s44_51
        refine then_n <| aw_case s44_51 (fun hq_52 => ?_) (fun hq_52 => ?_)
        ·replace hq_52 := bt hq_52
         refine aw_skip <| then_n <| aw_seq <| aw_block <| aw_seq <| aw_seq <| at_ <| ar (ro_move s0_51) rfl <| ar (ro_move (up_m rfl s8_51)) rfl <| ar (ro_sindex (up_m rfl up_h) up_h qun9 (by omega) (by refine idx_str ?_; first | omega | (simp <;> omega; done) | (refine Nat.lt_of_lt_of_le (m := 256) ?_ (by decide +kernel); omega))) rfl ?_
         refine ar (ro_lss up_h ev_c) rfl <| ar (ro_move up_h) rfl <| al_case up_h (fun hb_53 hq_53 => ?_) (fun hb_53 hq_53 => ?_)
         ·replace hq_53 := bt hq_53
          refine al_skip' ⟨_, rfl, .inl hb_53⟩ rfl ?_
          refine al_skip' ⟨_, rfl, .inl (up_m rfl hb_53)⟩ rfl ?_
          refine al_skip' ⟨_, rfl, .inl (u2 rfl hb_53)⟩ rfl ?_
          refine al_skip' ⟨_, rfl, .inl (up_m rfl (u2 rfl hb_53))⟩ rfl ?_
          refine ar (ro_pickT (u4 rfl hb_53) ev_c) rfl <| ae5 (u2 rfl (u8 rfl s0_51)) (u2 rfl (u8 rfl s6_51)) (u2 rfl (u8 rfl s7_51)) (u2 rfl (u8 rfl s8_51)) up_h ?_; clear hb_53 s0_51 s44_51 s6_51 s7_51 s8_51; intro e_54 s0_54 s6_54 s7_54 s8_54 s56_54
          refine then_n <| aw_true s56_54 <| aw_seq <| at_ <| ar (ro_assign ev_c) rfl <| ar (ro_assign ev_c) rfl <| ae2 (up_m rfl up_h) up_h ?_; clear s0_54 s56_54 s6_54 s7_54 s8_54; intro e_56 s4_56 s5_56
          refine then_n <| aw_ret <| then_r <| block_r <| then_r <| then_r <| block_r <| then_r <| ret2 (.inr rfl) (by kernel_rfl) (resV_tmp s4_56) (resV_tmp s5_56) (.ro _ rfl) (.ro _ rfl) ?_
          clear s4_56 s5_56  ml_50
          (first | (refine num_bad fun hk => ?_; obtain ⟨n1, n2, n3, n4⟩ := num_no2 hk; first | omega | (have hz := n4 i.toNat (by omega) (by omega); omega)) | (have he := num_end (l := tx.data.toList) (D := D) (i := i) (n := n) hD (by omega) (by omega) (by omega) (by omega) p3; unfold numR; rw [he.1, if_pos rfl, he.2]; first | (rw [if_pos hA]; done) | (rw [if_neg (by omega)]; done)))
         replace hq_53 := bf hq_53
         refine al_ro' (ro_move (up_m rfl (u4 rfl s0_51))) ⟨_, rfl, hb_53⟩ rfl ?_
         refine al_ro' (ro_move (u2 rfl (u4 rfl s8_51))) ⟨_, rfl, (up_m rfl hb_53)⟩ rfl ?_
         refine al_ro' (ro_sindex (up_m rfl up_h) up_h qun9 (by omega) (by refine idx_str ?_; first | omega | (simp <;> omega; done) | (refine Nat.lt_of_lt_of_le (m := 256) ?_ (by decide +kernel); omega))) ⟨_, rfl, (u2 rfl hb_53)⟩ rfl ?_
         refine al_ro' (ro_gtr up_h ev_c) ⟨_, rfl, (up_m rfl (u2 rfl hb_53))⟩ rfl ?_
         refine ar (ro_pickF (u4 rfl hb_53) up_h) rfl <| ae5 (u2 rfl (u8 rfl s0_51)) (u2 rfl (u8 rfl s6_51)) (u2 rfl (u8 rfl s7_51)) (u2 rfl (u8 rfl s8_51)) up_h ?_; clear hb_53 s0_51 s44_51 s6_51 s7_51 s8_51; intro e_57 s0_57 s6_57 s7_57 s8_57 s56_57
         refine then_n <| aw_case s56_57 (fun hq_58 => ?_) (fun hq_58 => ?_)
         ·replace hq_58 := bt hq_58
          refine aw_seq <| at_ <| ar (ro_assign ev_c) rfl <| ar (ro_assign ev_c) rfl <| ae2 (up_m rfl up_h) up_h ?_; clear s0_57 s56_57 s6_57 s7_57 s8_57; intro e_59 s4_59 s5_59
          refine then_n <| aw_ret <| then_r <| block_r <| then_r <| then_r <| block_r <| then_r <| ret2 (.inr rfl) (by kernel_rfl) (resV_tmp s4_59) (resV_tmp s5_59) (.ro _ rfl) (.ro _ rfl) ?_
          clear s4_59 s5_59  ml_50
          (first | (refine num_bad fun hk => ?_; obtain ⟨n1, n2, n3, n4⟩ := num_no2 hk; first | omega | (have hz := n4 i.toNat (by omega) (by omega); omega)) | (have he := num_end (l := tx.data.toList) (D := D) (i := i) (n := n) hD (by omega) (by omega) (by omega) (by omega) p3; unfold numR; rw [he.1, if_pos rfl, he.2]; first | (rw [if_pos hA]; done) | (rw [if_neg (by omega)]; done)))
         replace hq_58 := bf hq_58
         refine aw_skip <| then_n <| at_ <| ar (ro_move s7_57) rfl ?_
         (refine ar (ro_mul' ev_c up_h ?_) rfl ?_; · (first | ((first | unfold In64 | unfold InU64 | unfold InU8); omega) | (simp only [ByteArray.size_append, size_mk, List.length_cons, List.length_nil] <;> omega) | omega))
         refine ar (ro_move (u2 rfl s0_57)) rfl <| ar (ro_move (up_m rfl (u2 rfl s8_57))) rfl <| ar (ro_sindex (up_m rfl up_h) up_h qun9 (by omega) (by refine idx_str ?_; first | omega | (simp <;> omega; done) | (refine Nat.lt_of_lt_of_le (m := 256) ?_ (by decide +kernel); omega))) rfl ?_
         (refine ar (ro_subB up_h ev_c ?_) rfl ?_; · (first | ((first | unfold In64 | unfold InU64 | unfold InU8); omega) | (simp only [ByteArray.size_append, size_mk, List.length_cons, List.length_nil] <;> omega) | omega))
         (refine ar (ro_cvI up_h (by kernel_rfl) (by kernel_rfl) ?_) rfl ?_; · (first | ((first | unfold In64 | unfold InU64 | unfold InU8); omega) | (simp only [ByteArray.size_append, size_mk, List.length_cons, List.length_nil] <;> omega) | omega))
         (refine ar (ro_add' (up_m rfl (u4 rfl up_h)) up_h ?_) rfl ?_; · (first | ((first | unfold In64 | unfold InU64 | unfold InU8); omega) | (simp only [ByteArray.size_append, size_mk, List.length_cons, List.length_nil] <;> omega) | omega))
         refine ar (ro_assign up_h) rfl <| ae4 (up_m rfl (u8 rfl s0_57)) (up_m rfl (u8 rfl s6_57)) up_h (up_m rfl (u8 rfl s8_57)) ?_; clear s0_57 s56_57 s6_57 s7_57 s8_57; intro e_60 s0_60 s6_60 s7_60 s8_60
         refine block_n <| then_n <| at_ <| ar (ro_move s8_60) rfl ?_
         (refine ar (ro_add' up_h ev_c ?_) rfl ?_; · (first | ((first | unfold In64 | unfold InU64 | unfold InU8); omega) | (simp only [ByteArray.size_append, size_mk, List.length_cons, List.length_nil] <;> omega) | omega))
         refine ar (ro_assign up_h) rfl <| ae4 (up_m rfl (u2 rfl s0_60)) (up_m rfl (u2 rfl s6_60)) (up_m rfl (u2 rfl s7_60)) up_h ?_; clear s0_60 s6_60 s7_60 s8_60; intro e_61 s0_61 s6_61 s7_61 s8_61
         refine then_n <| ⟨⟨_, _⟩, ⟨s8_61, s7_61, (s0_61.trans s0_49.symm), (s6_61.trans s6_49.symm), ml_50, ?_⟩, ?_⟩
         · (exact ⟨by omega, by omega, numI_step p3 p1 (by omega) (by omega) (by omega)⟩)
         · ((try dsimp only); omega)
        replace hq_52 := bf hq_52
        refine aw_exit <| then_x <| then_x <| block_hit <| then_n <| aw_seq <| aw_seq <| at_ <| ar (ro_move s6_51) rfl <| ar (ro_eql up_h ev_c) rfl ?_
        refine ae2 (u2 rfl s7_51) up_h ?_; clear s0_51 s44_51 s6_51 s7_51 s8_51; intro e_62 s7_62 s66_62
        refine then_n <| aw_case s66_62 (fun hq_63 => ?_) (fun hq_63 => ?_)
        · replace hq_63 := bt hq_63; cases hq_63
        replace hq_63 := bf hq_63
        refine aw_skip <| then_n <| aw_seq <| at_ <| ar (ro_move s7_62) rfl <| ar (ro_assign up_h) rfl <| ar (ro_assign ev_c) rfl <| ae2 (up_m rfl up_h) up_h ?_; clear s66_62 s7_62; intro e_66 s4_66 s5_66
        refine then_n <| aw_ret <| ret2 (.inr rfl) (by kernel_rfl) (resV_tmp s4_66) (resV_tmp s5_66) (.ro _ rfl) (.ro _ rfl) ?_
        clear s4_66 s5_66  ml_50
        (first | (refine num_bad fun hk => ?_; obtain ⟨n1, n2, n3, n4⟩ := num_no2 hk; first | omega | (have hz := n4 i.toNat (by omega) (by omega); omega)) | (have he := num_end (l := tx.data.toList) (D := D) (i := i) (n := n) hD (by omega) (by omega) (by omega) (by omega) p3; unfold numR; rw [he.1, if_pos rfl, he.2]; first | (rw [if_pos hA]; done) | (rw [if_neg (by omega)]; done)))
end Go.Proofs.YtfmjmngkgmlghaaDoor
