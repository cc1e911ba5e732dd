/- A text cut at each such byte; numerals as the program reads them. No conditions on a program. -/
import Derived.Test.YtfmjmngkgmlghaaDoorT0
import Derived.Test.YtfmjmngkgmlghaaDoorZ5
import Derived.Lib.IndexLaws
namespace Go.Proofs.YtfmjmngkgmlghaaDoor
open Go Go.RowKit Go.Proofs Go.Lib
set_option linter.unusedSimpArgs false
set_option linter.unusedVariables false
theorem z6_sl72 : SlIs Tryd.prog 72 9 1 16 (.string ByteArray.empty) := ⟨by kernel_rfl, by kernel_rfl, by kernel_rfl⟩

/-- Where the piece that is open begins, and the pieces that are closed, behind so many bytes. -/
def opn (tx : ByteArray) (c : UInt8) : Nat → Nat
  | 0 => 0
  | i + 1 => if tx.data.toList.getD i default = c then i + 1 else opn tx c i
def cls (tx : ByteArray) (c : UInt8) : Nat → List ByteArray
  | 0 => []
  | i + 1 => if tx.data.toList.getD i default = c then cls tx c i ++ [tx.extract (opn tx c i) i] else cls tx c i
def pcs (tx : ByteArray) (c : UInt8) : List ByteArray := cls tx c tx.size ++ [tx.extract (opn tx c tx.size) tx.size]
theorem opn_le (tx : ByteArray) (c : UInt8) : ∀ i : Nat, opn tx c i ≤ i
  | 0 => Nat.le_refl _
  | i + 1 => by have := opn_le tx c i; simp only [opn]; split <;> omega
theorem cls_len (tx : ByteArray) (c : UInt8) : ∀ i : Nat, (cls tx c i).length ≤ i
  | 0 => Nat.le_refl _
  | i + 1 => by
    have := cls_len tx c i
    simp only [cls]; split
    · rw [List.length_append, List.length_singleton]; omega
    · omega
def sxE (b : ByteArray) : List AV := [.v (.string b)]
theorem one_sxE (b : ByteArray) : [[AV.v (.string b)]] = [b].map sxE := rfl
theorem opn_T {tx : ByteArray} {c : UInt8} {i : Nat} (h : tx.data.toList.getD i default = c) : opn tx c (i + 1) = i + 1 ∧ cls tx c (i + 1) = cls tx c i ++ [tx.extract (opn tx c i) i] := by
  simp only [opn, cls]; rw [if_pos h, if_pos h]; exact ⟨rfl, rfl⟩
theorem opn_F {tx : ByteArray} {c : UInt8} {i : Nat} (h : ¬ tx.data.toList.getD i default = c) : opn tx c (i + 1) = opn tx c i ∧ cls tx c (i + 1) = cls tx c i := by
  simp only [opn, cls]; rw [if_neg h, if_neg h]; exact ⟨rfl, rfl⟩
theorem u8_of {a b : UInt8} (h : (a.toNat : Int) = b.toNat) : a = b := UInt8.toNat_inj.1 (by omega)
theorem u8_not {a b : UInt8} (h : ¬ (a.toNat : Int) = b.toNat) : ¬ a = b := fun e => h (by rw [e])
theorem cut_T {tx : ByteArray} {c : UInt8} {i f : Int} {xs : List ByteArray} (p1 : 0 ≤ i) (p3 : f = opn tx c i.toNat) (p4 : xs = cls tx c i.toNat) (h : ((tx.data.toList.getD i.toNat default).toNat : Int) = c.toNat) :
    i + 1 = opn tx c (i + 1).toNat ∧ xs ++ [tx.extract f.toNat i.toNat] = cls tx c (i + 1).toNat := by
  have hh := opn_T (u8_of h)
  rw [show (i + 1).toNat = i.toNat + 1 by omega, hh.1, hh.2, p4, p3]
  exact ⟨by omega, by simp⟩
theorem cut_F {tx : ByteArray} {c : UInt8} {i f : Int} {xs : List ByteArray} (p1 : 0 ≤ i) (p3 : f = opn tx c i.toNat) (p4 : xs = cls tx c i.toNat) (h : ¬ ((tx.data.toList.getD i.toNat default).toNat : Int) = c.toNat) :
    f = opn tx c (i + 1).toNat ∧ xs = cls tx c (i + 1).toNat := by
  have hh := opn_F (u8_not h)
  rw [show (i + 1).toNat = i.toNat + 1 by omega, hh.1, hh.2]
  exact ⟨p3, p4⟩
set_option maxRecDepth 100000 in
set_option maxHeartbeats 4000000 in
theorem bCut_ok (tx : ByteArray) (c : UInt8) (hl : tx.size ≤ 1000000) : FnOk Tryd.prog 30 [.v (.string tx), .v (.int .u8 c.toNat)] (fun q => q = .row 1 ((pcs tx c).map sxE)) := by
  refine fnOk_of (fn := Tryd.f30) 34 (by kernel_rfl) rfl (by kernel_rfl) (Nat.le_of_ble_eq_true rfl) ?_
  intro e_0 m_0 hA hm_0
  have s0_0 : evA e_0 (.tmp 0) = _ := hA 0 _ rfl
  have s1_0 : evA e_0 (.tmp 1) = _ := hA 1 _ rfl
  have ml_0 : m_0.length = 0 := by rw [hm_0]; rfl
  clear hA hm_0
  refine aw_seq <| at_ <| ar (ro_assign ev_c) rfl <| ae2 (up_m rfl s0_0) (up_m rfl s1_0) ?_; clear s0_0 s1_0; intro e_1 s0_1 s1_1
  refine then_n <| aw_seq <| at_ <| ar (ro_assign ev_c) rfl <| ae3 (up_m rfl s0_1) (up_m rfl s1_1) up_h ?_; clear s0_1 s1_1; intro e_2 s0_2 s1_2 s5_2
  refine then_n <| aw_seq <| at_ <| ar (ro_assign ev_c) rfl <| ae4 (up_m rfl s0_2) (up_m rfl s1_2) (up_m rfl s5_2) up_h ?_; clear s0_2 s1_2 s5_2; intro e_3 s0_3 s1_3 s5_3 s6_3
  refine then_n <| aw_seq <| aw_seq <| at_ <| ar (ro_assign ev_c) rfl <| ae5 (up_m rfl s0_3) (up_m rfl s1_3) (up_m rfl s5_3) (up_m rfl s6_3) up_h ?_; clear s0_3 s1_3 s5_3 s6_3; intro e_4 s0_4 s1_4 s5_4 s6_4 s7_4
  refine then_n <| aw_block <| aw_adopt 9 1 s5_4 ml_0 (fun m_5 e_5 hm_5 he_5 => ?_)
  have mo0_5 := m_push hm_5 ml_0
  have ml_5 := m_push_l hm_5 ml_0
  have ml_5 : _ = 1 := ml_5
  have s0_5 : evA e_5 (.tmp 0) = _ := (congrArg (fun q => evA q (.tmp 0)) he_5).trans (up_m rfl s0_4)
  have s1_5 : evA e_5 (.tmp 1) = _ := (congrArg (fun q => evA q (.tmp 1)) he_5).trans (up_m rfl s1_4)
  have s5_5 : evA e_5 (.tmp 5) = _ := (congrArg (fun q => evA q (.tmp 5)) he_5).trans up_h
  have s6_5 : evA e_5 (.tmp 6) = _ := (congrArg (fun q => evA q (.tmp 6)) he_5).trans (up_m rfl s6_4)
  have s7_5 : evA e_5 (.tmp 7) = _ := (congrArg (fun q => evA q (.tmp 7)) he_5).trans (up_m rfl s7_4)
  clear hm_5 he_5
  refine aw_loop (S := (Int × Int × List ByteArray)) (fun s e mem => match s with | ⟨i, f, xs⟩ => (evA e (.tmp 7) = .v (.int .i64 i)) ∧ (evA e (.tmp 6) = .v (.int .i64 f)) ∧ (evA e (.tmp 0) = evA e_5 (.tmp 0)) ∧ (evA e (.tmp 1) = evA e_5 (.tmp 1)) ∧ (∃ j, evA e (.tmp 5) = .own j ∧ mem[j]? = some (.row 9 1 (xs.map sxE)) ∧ True) ∧ (∃ n, mem.length = n ∧ 1 ≤ n) ∧ ((0 ≤ i ∧ i ≤ tx.size ∧ f = opn tx c i.toNat ∧ xs = cls tx c i.toNat))) (fun s => match s with | ⟨i, f, xs⟩ => (tx.size - i).toNat) ⟨_, _, []⟩ ⟨s7_5, s6_5, rfl, rfl, ⟨_, s5_5, mo0_5, trivial⟩, ⟨_, ml_5, Nat.le_refl _⟩, ?_⟩ ?_
  · (exact ⟨by omega, by omega, rfl, rfl⟩)
  · rintro ⟨i, f, xs⟩ e_6 m_6 ⟨s7_6, s6_6, k0_6, k1_6, ⟨j5_6, s5_6, mo_j5_6, -⟩, ⟨n_6, ml_6, hn_6⟩, hinv⟩
    have s0_6 := k0_6.trans s0_5
    have s1_6 := k1_6.trans s1_5
    have jl5_6 := m_lt mo_j5_6 ml_6
    (obtain ⟨p1, p2, p3, p4⟩ := hinv; have ho := opn_le tx c i.toNat; have hxl : xs.length ≤ 1000000 := (by rw [p4]; have := cls_len tx c i.toNat; omega))
    refine aw_seq <| aw_seq <| at_ <| ar (ro_move s7_6) rfl <| ar (ro_move (up_m rfl s0_6)) rfl <| ar (ro_len_str up_h rfl qun9) rfl <| ar (ro_lss (u2 rfl up_h) up_h) rfl <| ae6 (u4 rfl s0_6) (u4 rfl s1_6) (u4 rfl s5_6) (u4 rfl s6_6) (u4 rfl s7_6) up_h ?_; clear s0_6 s1_6 s5_6 s6_6 s7_6; intro e_7 s0_7 s1_7 s5_7 s6_7 s7_7 s11_7
    refine then_n <| aw_case s11_7 (fun hq_8 => ?_) (fun hq_8 => ?_)
    ·replace hq_8 := bt hq_8
     refine aw_skip <| then_n <| aw_seq <| aw_block <| aw_seq <| at_ <| ar (ro_move s0_7) rfl <| ar (ro_move (up_m rfl s7_7)) rfl <| ar (ro_sindex (up_m rfl up_h) up_h qun9 (by omega) (by refine idx_str ?_; first | omega | (simp <;> omega; done) | (refine Nat.lt_of_lt_of_le (m := 256) ?_ (by decide +kernel); omega))) rfl ?_
     refine ar (ro_move (up_m rfl (u2 rfl s1_7))) rfl <| ar (ro_eql (up_m rfl up_h) up_h) rfl ?_
     refine ae6 (up_m rfl (u4 rfl s0_7)) (up_m rfl (u4 rfl s1_7)) (up_m rfl (u4 rfl s5_7)) (up_m rfl (u4 rfl s6_7)) (up_m rfl (u4 rfl s7_7)) up_h ?_; clear s0_7 s11_7 s1_7 s5_7 s6_7 s7_7; intro e_9 s0_9 s1_9 s5_9 s6_9 s7_9 s18_9
     refine then_n <| aw_case s18_9 (fun hq_10 => ?_) (fun hq_10 => ?_)
     ·replace hq_10 := bt hq_10
      refine aw_seq <| at_ <| ar (ro_move s5_9) rfl <| ar (ro_move (up_m rfl s0_9)) rfl <| ar (ro_move (u2 rfl s6_9)) rfl <| ar (ro_move (up_m rfl (u2 rfl s7_9))) rfl <| ar (ro_sslice (u2 rfl up_h) (up_m rfl up_h) up_h qun9 (by omega) (by omega) (by omega)) rfl ?_
      refine ar (ro_lit z6_sl72 (evP_cons up_h evP_nil) rfl rfl rfl rfl) rfl <| al_stm (st_app z6_sl72 rfl ml_6 mo_j5_6 (up_m rfl (u4 rfl up_h)) up_h (by rfl) (by simp only [lnS] <;> omega)) trivial rfl (fun m_11 hm_11 => ?_)
      have mon_6_11 := m_swap hm_11 ml_6
      simp only [pS, Value.cells, Nat.reduceAdd, one_sxE, app_m] at mon_6_11
      have ml_11 := m_swap_l hm_11 ml_6
      clear hm_11 mo_j5_6
      refine ar (ro_assign up_h) rfl <| ae4 (u8 rfl s0_9) (u8 rfl s1_9) up_h (u8 rfl s7_9) ?_; clear s0_9 s18_9 s1_9 s5_9 s6_9 s7_9; intro e_12 s0_12 s1_12 s5_12 s7_12
      refine then_n <| at_ <| ar (ro_move s7_12) rfl ?_
      (refine ar (ro_add' up_h ev_c ?_) rfl ?_; · (unfold In64; omega))
      refine ar (ro_assign up_h) rfl <| ae5 (up_m rfl (u2 rfl s0_12)) (up_m rfl (u2 rfl s1_12)) (up_m rfl (u2 rfl s5_12)) up_h (up_m rfl (u2 rfl s7_12)) ?_; clear s0_12 s1_12 s5_12 s7_12; intro e_13 s0_13 s1_13 s5_13 s6_13 s7_13
      refine block_n <| then_n <| at_ <| ar (ro_move s7_13) rfl ?_
      (refine ar (ro_add' up_h ev_c ?_) rfl ?_; · (unfold In64; omega))
      refine ar (ro_assign up_h) rfl <| ae5 (up_m rfl (u2 rfl s0_13)) (up_m rfl (u2 rfl s1_13)) (up_m rfl (u2 rfl s5_13)) (up_m rfl (u2 rfl s6_13)) up_h ?_; clear s0_13 s1_13 s5_13 s6_13 s7_13; intro e_14 s0_14 s1_14 s5_14 s6_14 s7_14
      refine then_n <| ⟨⟨_, _, _⟩, ⟨s7_14, s6_14, (s0_14.trans s0_5.symm), (s1_14.trans s1_5.symm), ⟨_, s5_14, mon_6_11, trivial⟩, ⟨_, ml_11, by omega⟩, ?_⟩, ?_⟩
      · (first | exact ⟨by omega, by omega, cut_T p1 p3 p4 (by assumption)⟩ | exact ⟨by omega, by omega, cut_F p1 p3 p4 (by assumption)⟩)
      · ((try dsimp only); omega)
     replace hq_10 := bf hq_10
     refine aw_skip <| block_n <| then_n <| at_ <| ar (ro_move s7_9) rfl ?_
     (refine ar (ro_add' up_h ev_c ?_) rfl ?_; · (unfold In64; omega))
     refine ar (ro_assign up_h) rfl <| ae5 (up_m rfl (u2 rfl s0_9)) (up_m rfl (u2 rfl s1_9)) (up_m rfl (u2 rfl s5_9)) (up_m rfl (u2 rfl s6_9)) up_h ?_; clear s0_9 s18_9 s1_9 s5_9 s6_9 s7_9; intro e_15 s0_15 s1_15 s5_15 s6_15 s7_15
     refine then_n <| ⟨⟨_, _, _⟩, ⟨s7_15, s6_15, (s0_15.trans s0_5.symm), (s1_15.trans s1_5.symm), ⟨_, s5_15, mo_j5_6, trivial⟩, ⟨_, ml_6, by omega⟩, ?_⟩, ?_⟩
     · (first | exact ⟨by omega, by omega, cut_T p1 p3 p4 (by assumption)⟩ | exact ⟨by omega, by omega, cut_F p1 p3 p4 (by assumption)⟩)
     · ((try dsimp only); omega)
    replace hq_8 := bf hq_8
    refine aw_exit <| then_x <| then_x <| block_hit <| then_n <| aw_seq <| at_ <| ar (ro_move s5_7) rfl <| ar (ro_move (up_m rfl s0_7)) rfl <| ar (ro_move (u2 rfl s6_7)) rfl <| ar (ro_sslo (up_m rfl up_h) up_h qun9 (by omega) (by omega)) rfl ?_
    refine ar (ro_lit z6_sl72 (evP_cons up_h evP_nil) rfl rfl rfl rfl) rfl <| al_stm (st_app z6_sl72 rfl ml_6 mo_j5_6 (u4 rfl up_h) up_h (by rfl) (by simp only [lnS] <;> omega)) trivial rfl (fun m_16 hm_16 => ?_)
    have mon_6_16 := m_swap hm_16 ml_6
    simp only [pS, Value.cells, Nat.reduceAdd, one_sxE, app_m] at mon_6_16
    have ml_16 := m_swap_l hm_16 ml_6
    clear hm_16 mo_j5_6
    refine ar (ro_assign up_h) rfl <| ae1 up_h ?_; clear s0_7 s11_7 s1_7 s5_7 s6_7 s7_7; intro e_17 s4_17
    refine then_n <| aw_ret <| ret1 (.inr rfl) (by kernel_rfl) (resV_tmp s4_17) (.own _ _ _ _ mon_6_16) ?_
    clear s4_17 mon_6_16 ml_16
    (have hi : i.toNat = tx.size := (by omega); unfold pcs; rw [← hi, ← p4]; rw [show f.toNat = opn tx c i.toNat by omega])
theorem opn_none {tx : ByteArray} {c : UInt8} {j : Nat} : ∀ {i : Nat}, j ≤ i → (∀ k : Nat, j ≤ k → k < i → ¬ tx.data.toList.getD k default = c) → opn tx c i = opn tx c j ∧ cls tx c i = cls tx c j
  | 0, hj, _ => by
    have h0 : j = 0 := by omega
    subst h0
    exact ⟨rfl, rfl⟩
  | i + 1, hj, h => by
    by_cases he : j = i + 1
    · subst he; exact ⟨rfl, rfl⟩
    · have ih := opn_none (tx := tx) (c := c) (j := j) (i := i) (by omega) fun k h1 h2 => h k h1 (by omega)
      have hh := opn_F (h i (by omega) (by omega))
      exact ⟨hh.1.trans ih.1, hh.2.trans ih.2⟩
theorem cls_mono (tx : ByteArray) (c : UInt8) (i : Nat) : ∀ k : Nat, (cls tx c i).length ≤ (cls tx c (i + k)).length
  | 0 => Nat.le_refl _
  | k + 1 => by
    have := cls_mono tx c i k
    rw [show i + (k + 1) = (i + k) + 1 by omega]
    simp only [cls]; split
    · rw [List.length_append]; omega
    · exact this
theorem ext_bs (tx : ByteArray) (a b : Nat) : tx.extract a b = bs ((tx.data.toList.drop a).take (b - a)) := by
  rw [← bs_self tx, bs_ext]; rfl
/-- A text of two pieces: what stands before and behind the first such byte. -/
theorem pcs_two (tx : ByteArray) (c : UInt8) : (∀ j : Nat, indexByte tx.data.toList c = j → (pcs tx c).length = 2 → pcs tx c = [bs (cutA tx.data.toList c), bs (cutB tx.data.toList c)]) ∧
    ((pcs tx c).length = 2 → 0 ≤ indexByte tx.data.toList c) ∧ (0 ≤ indexByte tx.data.toList c → (∀ k : Nat, (cutB tx.data.toList c)[k]? ≠ some c) → (pcs tx c).length = 2) := by
  have hsz : tx.size = tx.data.toList.length := size_eq tx
  have first : ∀ j : Nat, indexByte tx.data.toList c = j → j < tx.size ∧ cls tx c (j + 1) = [tx.extract 0 j] ∧ opn tx c (j + 1) = j + 1 := fun j hj => by
    obtain ⟨h1, h2⟩ := indexByte_some hj
    have hlt : j < tx.data.toList.length := (List.getElem?_eq_some_iff.1 h1).1
    have hn := opn_none (tx := tx) (c := c) (j := 0) (i := j) (by omega) fun k _ hk e => h2 k hk (by rw [getD_some (by omega), e])
    have hj' : tx.data.toList.getD j default = c := by rw [getD_some hlt] at h1; exact Option.some.inj h1
    have hh := opn_T hj'
    rw [hn.1, hn.2] at hh
    exact ⟨by omega, hh.2, hh.1⟩
  have behind : ∀ j : Nat, indexByte tx.data.toList c = j → (pcs tx c).length = 2 → pcs tx c = [bs (cutA tx.data.toList c), bs (cutB tx.data.toList c)] := fun j hj h2 => by
    obtain ⟨q1, q2, q3⟩ := first j hj
    have hc : ∀ k : Nat, j + 1 ≤ k → k < tx.size → ¬ tx.data.toList.getD k default = c := fun k h3 h4 e => by
      have m1 := cls_mono tx c (j + 1) (k - (j + 1))
      rw [show j + 1 + (k - (j + 1)) = k by omega, q2] at m1
      have m2 := (opn_T (tx := tx) (c := c) (i := k) e).2
      have m3 := cls_mono tx c (k + 1) (tx.size - (k + 1))
      rw [show k + 1 + (tx.size - (k + 1)) = tx.size by omega, m2, List.length_append] at m3
      unfold pcs at h2
      rw [List.length_append] at h2
      simp only [List.length_singleton] at m1 m3 h2
      omega
    have hn := opn_none (tx := tx) (c := c) (j := j + 1) (i := tx.size) (by omega) hc
    unfold pcs
    rw [hn.1, hn.2, q2, q3, ext_bs, ext_bs]
    unfold cutA cutB
    rw [if_pos (by omega), if_pos (by omega), show (indexByte tx.data.toList c).toNat = j by omega]
    have : (tx.data.toList.drop (j + 1)).take (tx.size - (j + 1)) = tx.data.toList.drop (j + 1) := List.take_of_length_le (by rw [List.length_drop]; omega)
    rw [this]; simp
  refine ⟨behind, fun h2 => ?_, fun h0 hb => ?_⟩
  · apply Classical.byContradiction
    intro hneg
    have hge := indexByte_ge tx.data.toList c
    have hn := opn_none (tx := tx) (c := c) (j := 0) (i := tx.size) (by omega) fun k _ hk e => indexByte_none (show indexByte tx.data.toList c = -1 by omega) k (by rw [getD_some (by omega), e])
    unfold pcs at h2
    rw [hn.2] at h2
    simp [cls] at h2
  · obtain ⟨j, hj⟩ := Int.eq_ofNat_of_zero_le h0
    obtain ⟨q1, q2, q3⟩ := first j hj
    have hn := opn_none (tx := tx) (c := c) (j := j + 1) (i := tx.size) (by omega) fun k h3 h4 e => hb (k - (j + 1)) (by
      unfold cutB
      rw [if_pos h0, show (indexByte tx.data.toList c).toNat = j by omega, List.getElem?_drop, show j + 1 + (k - (j + 1)) = k by omega, getD_some (by omega), e])
    unfold pcs
    rw [hn.2, q2]; rfl
/-- A numeral has no such byte. -/
theorem numK_byte {l : List UInt8} {D : Nat} {c : UInt8} (h : numK l D = true) (hc : c.toNat < 45) : ∀ k : Nat, l[k]? ≠ some c := fun k hk => by
  obtain ⟨n1, n2, n3, n4⟩ := num_no2 h
  have hl := (List.getElem?_eq_some_iff.1 hk).1
  rw [getD_some hl] at hk
  have hk' := Option.some.inj hk
  have := numA_two l
  by_cases hka : numA l ≤ k
  · have := n4 k hka hl
    rw [hk'] at this; omega
  · have h1 : numA l = 1 := by omega
    have h2 := ((numA_dec l).1 h1).2
    obtain rfl : k = 0 := by omega
    rw [hk'] at h2; omega
theorem numK_nil (D : Nat) : numK [] D = false := rfl
end Go.Proofs.YtfmjmngkgmlghaaDoor
