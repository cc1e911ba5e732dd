/- Texts of this claim, one behind the other: lemmas for the statement. -/
import Derived.Test.YtonjcljnpcmenaaM8
import Derived.Test.YtonjcljnpcmenaaA27
import Derived.Test.YtonjcljnpcmenaaM6
/- Plain: digits compared, taken away, divided. No program in sight. -/
namespace Go.Proofs.Ytonjcljnpcmenaa
open Go Go.RowKit Go.Proofs
set_option linter.unusedSimpArgs false
set_option linter.unusedVariables false

theorem valD_split {ds : List Int} {i : Nat} (h : i < ds.length) : valD ds = valD (ds.take i) + 1000000000 ^ i * (ds.getD i default + 1000000000 * valD (ds.drop (i + 1))) := by
  have e1 := valD_app (ds.take i) (ds.drop i)
  rw [List.take_append_drop, List.length_take, Nat.min_eq_left (by omega), List.drop_eq_getElem_cons h, valD] at e1
  rw [e1, List.getD_eq_getElem?_getD, List.getElem?_eq_getElem h]; rfl
theorem drop_same {a b : List Int} (hl : a.length = b.length) {i : Nat} (h : ∀ q : Nat, i < q → q < a.length → a.getD q default = b.getD q default) : a.drop (i + 1) = b.drop (i + 1) := by
  refine List.ext_getElem? fun n => ?_
  rw [List.getElem?_drop, List.getElem?_drop]
  by_cases hn : i + 1 + n < a.length
  · have := h (i + 1 + n) (by omega) hn
    rw [List.getD_eq_getElem?_getD, List.getD_eq_getElem?_getD, List.getElem?_eq_getElem hn, List.getElem?_eq_getElem (by omega)] at this
    rw [List.getElem?_eq_getElem hn, List.getElem?_eq_getElem (by omega)]
    exact congrArg some this
  · rw [List.getElem?_eq_none (by omega), List.getElem?_eq_none (by omega)]
/-- The first digit from the top that is not the same. -/
theorem valD_less {a b : List Int} (ha : GD a) (hb : GD b) (hl : a.length = b.length) {i : Nat} (hi : i < a.length) (h : ∀ q : Nat, i < q → q < a.length → a.getD q default = b.getD q default) (hlt : a.getD i default < b.getD i default) : valD a < valD b := by
  rw [valD_split hi, valD_split (show i < b.length by omega), drop_same hl h]
  have h1 := valD_lt (ha.take i)
  rw [List.length_take, Nat.min_eq_left (by omega)] at h1
  have h2 := valD_nn (hb.take i)
  generalize valD (b.drop (i + 1)) = D at *
  have hp : (0 : Int) < 1000000000 ^ i := Int.pow_pos (by decide)
  have h3 := Int.mul_le_mul_of_nonneg_left (show a.getD i default + 1000000000 * D + 1 ≤ b.getD i default + 1000000000 * D by omega) (Int.le_of_lt hp)
  rw [Int.mul_add, Int.mul_one] at h3
  omega
theorem digN_mono {m n : Nat} (h : m ≤ n) : (digN m).length ≤ (digN n).length := by
  have h1 := valD_lt (digN_gd n)
  rw [digN_val] at h1
  have h2 : ((n : Nat) : Int) < ((1000000000 ^ (digN n).length : Nat) : Int) := by rw [Int.natCast_pow]; exact h1
  exact digN_len (Nat.lt_of_le_of_lt h (Int.ofNat_lt.1 h2))
theorem list_same {a b : List Int} (hl : a.length = b.length) (h : ∀ q : Nat, q < a.length → a.getD q default = b.getD q default) : a = b := by
  refine List.ext_getElem hl fun n h1 h2 => ?_
  have := h n h1
  rw [List.getD_eq_getElem?_getD, List.getD_eq_getElem?_getD, List.getElem?_eq_getElem h1, List.getElem?_eq_getElem h2] at this
  exact this
theorem getD_far {ds : List Int} {i : Nat} (h : ds.length ≤ i) : ds.getD i default = 0 := by rw [List.getD_eq_getElem?_getD, List.getElem?_eq_none h]; rfl
theorem valD_takeD {ds : List Int} {k : Nat} : valD (ds.take (k + 1)) = valD (ds.take k) + ds.getD k default * 1000000000 ^ k := by
  by_cases h : k < ds.length
  · exact valD_take h
  · rw [List.take_of_length_le (by omega), List.take_of_length_le (by omega), getD_far (by omega), Int.zero_mul, Int.add_zero]
theorem valD_push {ds : List Int} {i : Nat} (h : ds.length = i) (v : Int) : valD (ds ++ [v]) = valD ds + v * 1000000000 ^ i := by
  rw [valD_app, h, valD, valD, Int.mul_zero, Int.add_zero, Int.mul_comm]
/-- Less digits taken away: what is so far, and what was borrowed. -/
structure SB (a b o : List Int) (i : Nat) (w : Int) : Prop where
  len : o.length = i
  gd : GD o
  w01 : 0 ≤ w ∧ w ≤ 1
  v : valD o = valD (a.take i) - valD (b.take i) + w * 1000000000 ^ i
theorem SB.first (a b : List Int) : SB a b [] 0 0 := ⟨rfl, GD.nil, by omega, by simp [valD]⟩
theorem SB.next {a b o : List Int} {i : Nat} {w x y : Int} (h : SB a b o i w) (ha : GD a) (hb : GD b) (hx : x = a.getD i default - b.getD i default - w + y * 1000000000) (hy : 0 ≤ y ∧ y ≤ 1) (hr : 0 ≤ x ∧ x < 1000000000) : SB a b (o ++ [x]) (i + 1) y := by
  refine ⟨by simp [h.len], h.gd.app (GD.one hr), hy, ?_⟩
  rw [valD_push h.len, h.v, valD_takeD, valD_takeD, Int.pow_succ, hx]
  generalize (1000000000 : Int) ^ i = P
  rw [Int.add_mul, Int.sub_mul, Int.sub_mul, Int.mul_comm P, ← Int.mul_assoc]
  omega
theorem SB.done {m n : Nat} {o : List Int} {w : Int} (h : SB (digN m) (digN n) o (digN m).length w) (hmn : n ≤ m) : (valD o).toNat = m - n := by
  have hv := h.v
  rw [List.take_length, List.take_of_length_le (digN_mono hmn), digN_val, digN_val] at hv
  have h1 := valD_lt h.gd
  rw [h.len] at h1
  have h2 := h.w01
  rcases (show w = 0 ∨ w = 1 by omega) with rfl | rfl <;> omega
/-- Digits added. -/
structure AD (a b o : List Int) (i : Nat) (w : Int) : Prop where
  len : o.length = i
  gd : GD o
  w01 : 0 ≤ w ∧ w ≤ 1
  v : valD o + w * 1000000000 ^ i = valD (a.take i) + valD (b.take i)
theorem AD.first (a b : List Int) : AD a b [] 0 0 := ⟨rfl, GD.nil, by omega, by simp [valD]⟩
theorem AD.next {a b o : List Int} {i : Nat} {w x : Int} (h : AD a b o i w) (ha : GD a) (hb : GD b) (hx : x = a.getD i default + b.getD i default + w) : AD a b (o ++ [x % 1000000000]) (i + 1) (x / 1000000000) := by
  have h1 := ha.at i
  have h2 := hb.at i
  have h3 := h.w01
  refine ⟨by simp [h.len], h.gd.app (GD.one (by omega)), by omega, ?_⟩
  have hv := h.v
  rw [valD_push h.len, valD_takeD, valD_takeD, Int.pow_succ]
  generalize (1000000000 : Int) ^ i = P at *
  have e1 : x / 1000000000 * (P * 1000000000) = (x - x % 1000000000) * P := by
    rw [Int.mul_comm P, ← Int.mul_assoc, show x / 1000000000 * 1000000000 = x - x % 1000000000 by omega]
  rw [e1, hx, Int.sub_mul, Int.add_mul, Int.add_mul]
  omega
theorem AD.done {a b o : List Int} {i : Nat} (h : AD a b o i 0) (ha : a.length ≤ i) (hb : b.length ≤ i) : valD o = valD a + valD b := by
  have hv := h.v
  rw [List.take_of_length_le ha, List.take_of_length_le hb] at hv
  omega
/-- A quotient, digit by digit from the top. -/
structure WF (a : List Int) (b : Int) (q : List Int) (i : Nat) (r : Int) : Prop where
  len : q.length = a.length
  gd : GD q
  r0 : 0 ≤ r ∧ r < b
  v : valD (a.drop i) = valD (q.drop i) * b + r
theorem WF.first {a : List Int} {b : Int} (hb : 0 < b) : WF a b (List.replicate a.length 0) a.length 0 := by
  refine ⟨by simp, GD.rep _, by omega, ?_⟩
  rw [List.drop_of_length_le (by omega), List.drop_of_length_le (by simp)]; simp [valD]
theorem WF.next {a q : List Int} {b r d x : Int} {i : Nat} (h : WF a b q (i + 1) r) (hi : i < a.length) (hd : d = a.getD i default + 1000000000 * r) (hx : 0 ≤ x ∧ x < 1000000000) (hr : 0 ≤ d - b * x ∧ d - b * x < b) : WF a b (q.set i x) i (d - b * x) := by
  have hv := h.v
  have hq : i < q.length := by rw [h.len]; exact hi
  refine ⟨by rw [List.length_set]; exact h.len, h.gd.set _ hx, hr, ?_⟩
  have e2 : (q.set i x).drop i = x :: q.drop (i + 1) := by
    rw [List.drop_eq_getElem_cons (by rw [List.length_set]; exact hq), List.getElem_set_self, List.drop_set_of_lt (by omega)]
  rw [e2, List.drop_eq_getElem_cons hi, valD, valD, hv, Int.add_mul, hd, List.getD_eq_getElem?_getD, List.getElem?_eq_getElem hi, Int.mul_add, Int.mul_assoc, Int.mul_comm b x]
  simp only [Option.getD_some]
  omega
theorem WF.done {a q : List Int} {b r : Int} (h : WF a b q 0 r) : valD q = valD a / b := by
  have hv := h.v
  rw [List.drop_zero, List.drop_zero] at hv
  have := h.r0
  rw [hv, Int.add_comm, Int.add_mul_ediv_right _ _ (by omega), Int.ediv_eq_zero_of_lt this.1 this.2, Int.zero_add]
end Go.Proofs.Ytonjcljnpcmenaa

/- Contracts: wide numbers multiplied, compared, taken away. No conditions on a program. -/
namespace Go.Proofs.Ytonjcljnpcmenaa
open Go Go.RowKit Go.Proofs
set_option linter.unusedSimpArgs false
set_option linter.unusedVariables false
theorem y51_az145 : (Try.prog.info? 145).bind (·.zero) = some (.agg #[.int .i64 0, .slice none 0 0]) := by kernel_rfl
theorem y51_fl145_0 : FldIs Try.prog 145 0 0 false 1 := by unfold FldIs; kernel_rfl
theorem y51_fl145_1 : FldIs Try.prog 145 1 1 false 1 := by unfold FldIs; kernel_rfl
theorem y51_hcf140 : ∀ args w, (callFunc 140 args).run Try.prog w = .ok (.enter 140 args) w := fun _ _ => by kernel_rfl
theorem y51_sl49 : SlIs Try.prog 49 3 1 8 (.int .i64 0) := ⟨by kernel_rfl, by kernel_rfl, by kernel_rfl⟩
theorem y51_sz145 : (Try.prog.info? 145).map (·.size) = some 2 := by kernel_rfl
theorem y51_sz3 : (Try.prog.info? 3).map (·.size) = some 1 := by kernel_rfl
theorem y51_ty145 : TyIs Try.prog 145 true 2 := ⟨by kernel_rfl, by kernel_rfl⟩
theorem y51_ty3 : TyIs Try.prog 3 false 1 := ⟨by kernel_rfl, by kernel_rfl⟩
theorem y51_ty49 : TyIs Try.prog 49 false 1 := ⟨by kernel_rfl, by kernel_rfl⟩

theorem sgn_mul (a b : Int) : sgnV a * sgnV b = sgnV (a * b) := by
  unfold sgnV
  rcases Int.lt_trichotomy a 0 with ha | ha | ha <;> rcases Int.lt_trichotomy b 0 with hb | hb | hb
  · have := Int.mul_pos_of_neg_of_neg ha hb; (repeat' split) <;> omega
  · subst hb; simp
  · have := Int.mul_neg_of_neg_of_pos ha hb; (repeat' split) <;> omega
  · subst ha; simp
  · subst ha; simp
  · subst ha; simp
  · have := Int.mul_neg_of_pos_of_neg ha hb; (repeat' split) <;> omega
  · subst hb; simp
  · have := Int.mul_pos ha hb; (repeat' split) <;> omega
theorem sgn_bd (a : Int) : -1 ≤ sgnV a ∧ sgnV a ≤ 1 := by unfold sgnV; (repeat' split) <;> omega
theorem wA_of {a : Int} {v : Int} (h : v = a.natAbs) : AV.agg [mA (if v = 0 then 0 else sgnV a), dA v.toNat] = wA a := by
  subst h
  rw [Int.toNat_natCast]
  unfold wA
  by_cases h0 : a = 0
  · subst h0; rfl
  · rw [if_neg (by omega)]
set_option maxRecDepth 100000 in
set_option maxHeartbeats 4000000 in
theorem widMul_ok (a b : Int) (ha : (digN a.natAbs).length ≤ 1000) (hb : (digN b.natAbs).length ≤ 1000) : FnOk Try.prog 87 [wA a, wA b] (fun q => q = wA (a * b)) := by
  refine fnOk_of (fn := Try.f87) 86 (by kernel_rfl) rfl (by kernel_rfl) (Nat.le_of_ble_eq_true rfl) ?_
  intro e_0 m_0 hA hm_0
  have s0_0 : evA e_0 (.tmp 0) = _ := hA 0 _ rfl
  have s1_0 : evA e_0 (.tmp 1) = _ := hA 1 _ rfl
  have ml_0 : m_0.length = 0 := by rw [hm_0]; rfl
  clear hA hm_0
  have ga := digN_gd a.natAbs; have gb := digN_gd b.natAbs; have va := digN_val a.natAbs; have vb := digN_val b.natAbs; have sa := sgn_bd a; have sb := sgn_bd b; have sm := sgn_bd (a * b); have se := sgn_mul a b; have w0 : WM (digN a.natAbs) (digN b.natAbs) (List.replicate (((digN a.natAbs).length : Int) + ((digN b.natAbs).length : Int) + 1).toNat 0) 0 0 0 := (by rw [show (((digN a.natAbs).length : Int) + ((digN b.natAbs).length : Int) + 1).toNat = (digN a.natAbs).length + (digN b.natAbs).length + 1 by omega]; exact WM.first)
  refine aw_seq <| at_ <| al_stm (st_box s0_0 rfl ml_0) trivial rfl (fun m_1 hm_1 => ?_)
  have mo0_1 := m_push hm_1 ml_0
  have ml_1 := m_push_l hm_1 ml_0
  have ml_1 : _ = 1 := ml_1
  clear hm_1
  refine al_stm (st_box (up_m rfl s1_0) rfl ml_1) trivial rfl (fun m_2 hm_2 => ?_)
  have mo1_2 := m_push hm_2 ml_1
  have mo0_2 := m_push_o hm_2 mo0_1
  have ml_2 := m_push_l hm_2 ml_1
  have ml_2 : _ = 2 := ml_2
  clear hm_2 mo0_1
  refine al_stm (st_alloc y51_az145 rfl ml_2) trivial rfl (fun m_3 hm_3 => ?_)
  have mo2_3 := m_push hm_3 ml_2
  simp only [pS, Value.cells, Nat.reduceAdd, iE, set_iE, rep_iE] at mo2_3
  have mo1_3 := m_push_o hm_3 mo1_2
  have mo0_3 := m_push_o hm_3 mo0_2
  have ml_3 := m_push_l hm_3 ml_2
  have ml_3 : _ = 3 := ml_3
  clear hm_3 mo1_2 mo0_2
  refine ae3 (u2 rfl up_h) (up_m rfl up_h) up_h ?_; clear s0_0 s1_0; intro e_4 s2_4 s3_4 s4_4
  refine then_n <| aw_seq <| at_ <| ar (ro_fld_ptr y51_fl145_1 rfl s2_4) rfl <| ar (ro_eq (ro_ld_ptr y51_ty49 rfl mo0_3 up_h (nle rfl)) (by simp only [pS, Value.cells, Nat.reduceAdd, iE, set_iE, rep_iE] <;> rfl)) rfl ?_
  refine ar (ro_eq (ro_len_row up_h rfl y51_sl49.1) (by simp only [lnS] <;> rfl)) rfl ?_
  refine ar (ro_fld_ptr y51_fl145_1 rfl (up_m rfl (u2 rfl s3_4))) rfl <| ar (ro_eq (ro_ld_ptr y51_ty49 rfl mo1_3 up_h (nle rfl)) (by simp only [pS, Value.cells, Nat.reduceAdd, iE, set_iE, rep_iE] <;> rfl)) rfl ?_
  refine ar (ro_eq (ro_len_row up_h rfl y51_sl49.1) (by simp only [lnS] <;> rfl)) rfl ?_
  (refine ar (ro_add' (up_m rfl (u2 rfl up_h)) up_h ?_) rfl ?_; · (unfold In64; omega))
  (refine ar (ro_add' up_h ev_c ?_) rfl ?_; · (unfold In64; omega))
  refine al_stm (st_mk y51_sl49 rfl rfl ml_3 up_h up_h (by omega) (by omega)) trivial rfl (fun m_5 hm_5 => ?_)
  have mo3_5 := m_push hm_5 ml_3
  simp only [pS, Value.cells, Nat.reduceAdd, iE, set_iE, rep_iE] at mo3_5
  have mo2_5 := m_push_o hm_5 mo2_3
  have mo1_5 := m_push_o hm_5 mo1_3
  have mo0_5 := m_push_o hm_5 mo0_3
  have ml_5 := m_push_l hm_5 ml_3
  have ml_5 : _ = 4 := ml_5
  clear hm_5 mo2_3 mo1_3 mo0_3
  refine ar (ro_assign up_h) rfl <| ae4 (u2 rfl (u8 rfl s2_4)) (u2 rfl (u8 rfl s3_4)) (u2 rfl (u8 rfl s4_4)) up_h ?_; clear s2_4 s3_4 s4_4; intro e_6 s2_6 s3_6 s4_6 s5_6
  refine then_n <| aw_seq <| aw_seq <| at_ <| ar (ro_assign ev_c) rfl <| ae5 (up_m rfl s2_6) (up_m rfl s3_6) (up_m rfl s4_6) (up_m rfl s5_6) up_h ?_; clear s2_6 s3_6 s4_6 s5_6; intro e_7 s2_7 s3_7 s4_7 s5_7 s6_7
  refine then_n <| aw_block <| aw_loop (S := (Int × List Int)) (fun s e mem => match s with | ⟨i, xs⟩ => (evA e (.tmp 6) = .v (.int .i64 i)) ∧ (evA e (.tmp 2) = evA e_7 (.tmp 2)) ∧ (evA e (.tmp 3) = evA e_7 (.tmp 3)) ∧ (evA e (.tmp 4) = evA e_7 (.tmp 4)) ∧ (evA e (.tmp 5) = evA e_7 (.tmp 5)) ∧ (mem[3]? = some (.row 3 1 (xs.map iE))) ∧ (mem[2]? = m_5[2]?) ∧ (mem[1]? = m_5[1]?) ∧ (mem[0]? = m_5[0]?) ∧ (mem.length = 4) ∧ ((0 ≤ i ∧ i ≤ (digN a.natAbs).length ∧ WM (digN a.natAbs) (digN b.natAbs) xs i.toNat 0 0))) (fun s => match s with | ⟨i, xs⟩ => ((digN a.natAbs).length - i).toNat) ⟨_, _⟩ ⟨s6_7, rfl, rfl, rfl, rfl, mo3_5, rfl, rfl, rfl, ml_5, ?_⟩ ?_
  · (exact ⟨by omega, by omega, w0⟩)
  · rintro ⟨i, xs⟩ e_8 m_8 ⟨s6_8, k2_8, k3_8, k4_8, k5_8, mo3_8, mk2_8, mk1_8, mk0_8, ml_8, hinv⟩
    have s2_8 := k2_8.trans s2_7
    have s3_8 := k3_8.trans s3_7
    have s4_8 := k4_8.trans s4_7
    have s5_8 := k5_8.trans s5_7
    have mo2_8 := mk2_8.trans mo2_5
    have mo1_8 := mk1_8.trans mo1_5
    have mo0_8 := mk0_8.trans mo0_5
    (obtain ⟨p1, p2, p3⟩ := hinv; have pl := p3.len)
    refine aw_seq <| aw_seq <| at_ <| ar (ro_move s6_8) rfl <| ar (ro_fld_ptr y51_fl145_1 rfl (up_m rfl s2_8)) rfl <| ar (ro_eq (ro_ld_ptr y51_ty49 rfl mo0_8 up_h (nle rfl)) (by simp only [pS, Value.cells, Nat.reduceAdd, iE, set_iE, rep_iE] <;> rfl)) rfl ?_
    refine ar (ro_eq (ro_len_row up_h rfl y51_sl49.1) (by simp only [lnS] <;> rfl)) rfl ?_
    refine ar (ro_lss (up_m rfl (u2 rfl up_h)) up_h) rfl <| ae6 (up_m rfl (u4 rfl s2_8)) (up_m rfl (u4 rfl s3_8)) (up_m rfl (u4 rfl s4_8)) (up_m rfl (u4 rfl s5_8)) (up_m rfl (u4 rfl s6_8)) up_h ?_; clear s2_8 s3_8 s4_8 s5_8 s6_8; intro e_9 s2_9 s3_9 s4_9 s5_9 s6_9 s23_9
    refine then_n <| aw_case s23_9 (fun hq_10 => ?_) (fun hq_10 => ?_)
    ·replace hq_10 := bt hq_10
     refine aw_skip <| then_n <| aw_seq <| aw_block <| aw_seq <| at_ <| ar (ro_assign ev_c) rfl <| ae6 (up_m rfl s2_9) (up_m rfl s3_9) (up_m rfl s4_9) (up_m rfl s5_9) (up_m rfl s6_9) up_h ?_; clear s23_9 s2_9 s3_9 s4_9 s5_9 s6_9; intro e_11 s2_11 s3_11 s4_11 s5_11 s6_11 s7_11
     refine then_n <| aw_seq <| aw_seq <| at_ <| ar (ro_assign ev_c) rfl <| ae7 (up_m rfl s2_11) (up_m rfl s3_11) (up_m rfl s4_11) (up_m rfl s5_11) (up_m rfl s6_11) (up_m rfl s7_11) up_h ?_; clear s2_11 s3_11 s4_11 s5_11 s6_11 s7_11; intro e_12 s2_12 s3_12 s4_12 s5_12 s6_12 s7_12 s8_12
     refine then_n <| aw_block <| aw_loop (S := (Int × Int × List Int)) (fun s e mem => match s with | ⟨k, c, ys⟩ => (evA e (.tmp 8) = .v (.int .i64 k)) ∧ (evA e (.tmp 7) = .v (.int .i64 c)) ∧ (evA e (.tmp 2) = evA e_12 (.tmp 2)) ∧ (evA e (.tmp 3) = evA e_12 (.tmp 3)) ∧ (evA e (.tmp 4) = evA e_12 (.tmp 4)) ∧ (evA e (.tmp 5) = evA e_12 (.tmp 5)) ∧ (evA e (.tmp 6) = evA e_12 (.tmp 6)) ∧ (mem[3]? = some (.row 3 1 (ys.map iE))) ∧ (mem[2]? = m_8[2]?) ∧ (mem[1]? = m_8[1]?) ∧ (mem[0]? = m_8[0]?) ∧ (mem.length = 4) ∧ ((0 ≤ k ∧ k ≤ (digN b.natAbs).length ∧ WM (digN a.natAbs) (digN b.natAbs) ys i.toNat k.toNat c))) (fun s => match s with | ⟨k, c, ys⟩ => ((digN b.natAbs).length - k).toNat) ⟨_, _, _⟩ ⟨s8_12, s7_12, rfl, rfl, rfl, rfl, rfl, mo3_8, rfl, rfl, rfl, ml_8, ?_⟩ ?_
     · (exact ⟨by omega, by omega, p3⟩)
     · rintro ⟨k, c, ys⟩ e_13 m_13 ⟨s8_13, s7_13, k2_13, k3_13, k4_13, k5_13, k6_13, mo3_13, mk2_13, mk1_13, mk0_13, ml_13, hinv⟩
       have s2_13 := k2_13.trans s2_12
       have s3_13 := k3_13.trans s3_12
       have s4_13 := k4_13.trans s4_12
       have s5_13 := k5_13.trans s5_12
       have s6_13 := k6_13.trans s6_12
       have mo2_13 := mk2_13.trans mo2_8
       have mo1_13 := mk1_13.trans mo1_8
       have mo0_13 := mk0_13.trans mo0_8
       (obtain ⟨k1, k2, k3⟩ := hinv; have kb := k3.bd ga gb; have kl := k3.len; have kc := k3.cb; have kg := k3.gd.at (i + k).toNat; rw [show i.toNat + k.toNat = (i + k).toNat by omega] at kb; have e1 := Int.tdiv_eq_ediv_of_nonneg kb.2.1 (b := 1000000000); have e2 := Int.tmod_eq_emod_of_nonneg kb.2.1 (b := 1000000000))
       refine aw_seq <| aw_seq <| at_ <| ar (ro_move s8_13) rfl <| ar (ro_fld_ptr y51_fl145_1 rfl (up_m rfl s3_13)) rfl <| ar (ro_eq (ro_ld_ptr y51_ty49 rfl mo1_13 up_h (nle rfl)) (by simp only [pS, Value.cells, Nat.reduceAdd, iE, set_iE, rep_iE] <;> rfl)) rfl ?_
       refine ar (ro_eq (ro_len_row up_h rfl y51_sl49.1) (by simp only [lnS] <;> rfl)) rfl ?_
       refine ar (ro_lss (up_m rfl (u2 rfl up_h)) up_h) rfl <| ae8 (up_m rfl (u4 rfl s2_13)) (up_m rfl (u4 rfl s3_13)) (up_m rfl (u4 rfl s4_13)) (up_m rfl (u4 rfl s5_13)) (up_m rfl (u4 rfl s6_13)) (up_m rfl (u4 rfl s7_13)) (up_m rfl (u4 rfl s8_13)) up_h ?_; clear s2_13 s3_13 s4_13 s5_13 s6_13 s7_13 s8_13; intro e_14 s2_14 s3_14 s4_14 s5_14 s6_14 s7_14 s8_14 s30_14
       refine then_n <| aw_case s30_14 (fun hq_15 => ?_) (fun hq_15 => ?_)
       ·replace hq_15 := bt hq_15
        refine aw_skip <| then_n <| aw_seq <| aw_block <| aw_seq <| aw_draw 21 (by kernel_rfl) (by kernel_rfl) (by kernel_rfl) (by kernel_rfl) ?_
        refine dr (ro_move s5_14) rfl <| dr (ro_move (up_m rfl s6_14)) rfl <| dr (ro_move (u2 rfl s8_14)) rfl ?_
        (refine dr (ro_add' (up_m rfl up_h) up_h ?_) rfl ?_; · (unfold In64; omega))
        refine dr (ro_ix_own y51_sl49 mo3_13 (up_m rfl (u2 rfl up_h)) up_h (by omega) (by simp only [lnS] <;> omega)) rfl ?_
        refine dr (ro_eq (ro_ld_el y51_ty3 rfl mo3_13 up_h (nle rfl) (by first | (refine idx_map ?_; first | omega | (simp only [lnS]; omega)) | (refine idx_mapI ?_; first | omega | (simp only [lnS]; omega)) | (refine idx_mapN ?_; first | omega | (simp only [lnS]; omega)) | rfl)) (by simp only [pS, Value.cells, Nat.reduceAdd, iE, set_iE, rep_iE] <;> rfl)) rfl ?_
        refine dr (ro_fld_ptr y51_fl145_1 rfl (u2 rfl (u4 rfl s2_14))) rfl <| dr (ro_eq (ro_ld_ptr y51_ty49 rfl mo0_13 up_h (nle rfl)) (by simp only [pS, Value.cells, Nat.reduceAdd, iE, set_iE, rep_iE] <;> rfl)) rfl ?_
        refine dr (ro_move (u8 rfl s6_14)) rfl <| dr (ro_eq (ro_ix y51_sl49 (up_m rfl up_h) up_h (by omega) (by first | (refine idx_map ?_; first | omega | (simp only [lnS]; omega)) | (refine idx_mapI ?_; first | omega | (simp only [lnS]; omega)) | (refine idx_mapN ?_; first | omega | (simp only [lnS]; omega)) | rfl)) (by simp only [pS, Value.cells, Nat.reduceAdd, iE, set_iE, rep_iE] <;> rfl)) rfl ?_
        refine dr (ro_eq (ro_ld_ref y51_ty3 rfl up_h (nle rfl)) (by simp only [pS, Value.cells, Nat.reduceAdd, iE, set_iE, rep_iE] <;> rfl)) rfl ?_
        refine dr (ro_fld_ptr y51_fl145_1 rfl (up_m rfl (u2 rfl (u8 rfl s3_14)))) rfl <| dr (ro_eq (ro_ld_ptr y51_ty49 rfl mo1_13 up_h (nle rfl)) (by simp only [pS, Value.cells, Nat.reduceAdd, iE, set_iE, rep_iE] <;> rfl)) rfl ?_
        refine dr (ro_move (up_m rfl (u4 rfl (u8 rfl s8_14)))) rfl <| dr (ro_eq (ro_ix y51_sl49 (up_m rfl up_h) up_h (by omega) (by first | (refine idx_map ?_; first | omega | (simp only [lnS]; omega)) | (refine idx_mapI ?_; first | omega | (simp only [lnS]; omega)) | (refine idx_mapN ?_; first | omega | (simp only [lnS]; omega)) | rfl)) (by simp only [pS, Value.cells, Nat.reduceAdd, iE, set_iE, rep_iE] <;> rfl)) rfl ?_
        refine dr (ro_eq (ro_ld_ref y51_ty3 rfl up_h (nle rfl)) (by simp only [pS, Value.cells, Nat.reduceAdd, iE, set_iE, rep_iE] <;> rfl)) rfl ?_
        (refine dr (ro_mul' (up_m rfl (u4 rfl up_h)) up_h ?_) rfl ?_; · (unfold In64; omega))
        (refine dr (ro_add' (up_m rfl (u2 rfl (u8 rfl up_h))) up_h ?_) rfl ?_; · (unfold In64; omega))
        refine dr (ro_move (u2 rfl (u16 rfl s7_14))) rfl ?_
        (refine dr (ro_add' (up_m rfl up_h) up_h ?_) rfl ?_; · (unfold In64; omega))
        refine dr (ro_assign up_h) rfl <| ds_nil <| ae7 (up_m rfl (u4 rfl (u16 rfl s2_14))) (up_m rfl (u4 rfl (u16 rfl s3_14))) (up_m rfl (u4 rfl (u16 rfl s4_14))) (up_m rfl (u4 rfl (u16 rfl s5_14))) (up_m rfl (u4 rfl (u16 rfl s6_14))) (up_m rfl (u4 rfl (u16 rfl s8_14))) up_h ?_; clear s2_14 s30_14 s3_14 s4_14 s5_14 s6_14 s7_14 s8_14; intro e_16 s2_16 s3_16 s4_16 s5_16 s6_16 s8_16 s9_16
        refine then_n <| at_ <| ar (ro_move s5_16) rfl <| ar (ro_move (up_m rfl s6_16)) rfl <| ar (ro_move (u2 rfl s8_16)) rfl ?_
        (refine ar (ro_add' (up_m rfl up_h) up_h ?_) rfl ?_; · (unfold In64; omega))
        refine ar (ro_move (u4 rfl s9_16)) rfl <| ar (ro_rem up_h ev_c (by decide)) rfl ?_
        refine ar (ro_move (u2 rfl (u4 rfl s9_16))) rfl ?_
        (refine ar (ro_quo' up_h ev_c (by decide) ?_) rfl ?_; · (unfold In64; omega))
        refine ar (ro_ix_own y51_sl49 mo3_13 (up_m rfl (u2 rfl (u4 rfl up_h))) (u4 rfl up_h) (by omega) (by simp only [lnS] <;> omega)) rfl ?_
        refine al_stm (st_store_el up_h (up_m rfl (u2 rfl up_h)) rfl rfl rfl mo3_13 (Nat.add_zero _).symm (by first | (refine idx_map ?_; first | omega | (simp only [lnS]; omega)) | (refine idx_mapI ?_; first | omega | (simp only [lnS]; omega)) | (refine idx_mapN ?_; first | omega | (simp only [lnS]; omega)) | rfl) y51_sz3 rfl (nle rfl)) trivial rfl (fun m_17 hm_17 => ?_)
        have mo3_17 := m_set hm_17 mo3_13
        simp only [pS, Value.cells, Nat.reduceAdd, iE, set_iE, rep_iE] at mo3_17
        have mo2_17 := m_set_o hm_17 mo2_13 (by decide)
        have mo1_17 := m_set_o hm_17 mo1_13 (by decide)
        have mo0_17 := m_set_o hm_17 mo0_13 (by decide)
        have ml_17 := m_set_l hm_17 ml_13
        clear hm_17 mo3_13 mo2_13 mo1_13 mo0_13
        refine ar (ro_assign (up_n (up_m rfl up_h))) rfl <| ae7 (up_m rfl (up_n (up_m rfl (u8 rfl s2_16)))) (up_m rfl (up_n (up_m rfl (u8 rfl s3_16)))) (up_m rfl (up_n (up_m rfl (u8 rfl s4_16)))) (up_m rfl (up_n (up_m rfl (u8 rfl s5_16)))) (up_m rfl (up_n (up_m rfl (u8 rfl s6_16)))) up_h (up_m rfl (up_n (up_m rfl (u8 rfl s8_16)))) ?_; clear s2_16 s3_16 s4_16 s5_16 s6_16 s8_16 s9_16; intro e_18 s2_18 s3_18 s4_18 s5_18 s6_18 s7_18 s8_18
        refine block_n <| then_n <| at_ <| ar (ro_move s8_18) rfl ?_
        (refine ar (ro_add' up_h ev_c ?_) rfl ?_; · (unfold In64; omega))
        refine ar (ro_assign up_h) rfl <| ae7 (up_m rfl (u2 rfl s2_18)) (up_m rfl (u2 rfl s3_18)) (up_m rfl (u2 rfl s4_18)) (up_m rfl (u2 rfl s5_18)) (up_m rfl (u2 rfl s6_18)) (up_m rfl (u2 rfl s7_18)) up_h ?_; clear s2_18 s3_18 s4_18 s5_18 s6_18 s7_18 s8_18; intro e_19 s2_19 s3_19 s4_19 s5_19 s6_19 s7_19 s8_19
        refine then_n <| ⟨⟨_, _, _⟩, ⟨s8_19, s7_19, (s2_19.trans s2_12.symm), (s3_19.trans s3_12.symm), (s4_19.trans s4_12.symm), (s5_19.trans s5_12.symm), (s6_19.trans s6_12.symm), mo3_17, (mo2_17.trans mo2_8.symm), (mo1_17.trans mo1_8.symm), (mo0_17.trans mo0_8.symm), ml_17, ?_⟩, ?_⟩
        · (refine ⟨by omega, by omega, ?_⟩; rw [e1, e2, show (k + 1).toNat = k.toNat + 1 by omega]; have hs := k3.step ga gb (by omega) (by omega) rfl; rw [show i.toNat + k.toNat = (i + k).toNat by omega] at hs; exact hs)
        · ((try dsimp only); omega)
       replace hq_15 := bf hq_15
       (have hk : k.toNat = (digN b.natAbs).length := (by omega); have k4 := k3; rw [hk] at k4; have kz := k3.z (i + ((digN b.natAbs).length : Int)).toNat (by omega))
       refine aw_exit <| then_x <| then_x <| block_hit <| then_n <| aw_draw 17 (by kernel_rfl) (by kernel_rfl) (by kernel_rfl) (by kernel_rfl) ?_
       refine dr (ro_move s5_14) rfl <| dr (ro_move (up_m rfl s6_14)) rfl <| dr (ro_fld_ptr y51_fl145_1 rfl (u2 rfl s3_14)) rfl <| dr (ro_eq (ro_ld_ptr y51_ty49 rfl mo1_13 up_h (nle rfl)) (by simp only [pS, Value.cells, Nat.reduceAdd, iE, set_iE, rep_iE] <;> rfl)) rfl ?_
       refine dr (ro_eq (ro_len_row up_h rfl y51_sl49.1) (by simp only [lnS] <;> rfl)) rfl ?_
       (refine dr (ro_add' (up_m rfl (u2 rfl up_h)) up_h ?_) rfl ?_; · (unfold In64; omega))
       refine dr (ro_move (u2 rfl (u4 rfl s5_14))) rfl <| dr (ro_move (up_m rfl (u2 rfl (u4 rfl s6_14)))) rfl <| dr (ro_fld_ptr y51_fl145_1 rfl (u8 rfl s3_14)) rfl <| dr (ro_eq (ro_ld_ptr y51_ty49 rfl mo1_13 up_h (nle rfl)) (by simp only [pS, Value.cells, Nat.reduceAdd, iE, set_iE, rep_iE] <;> rfl)) rfl ?_
       refine dr (ro_eq (ro_len_row up_h rfl y51_sl49.1) (by simp only [lnS] <;> rfl)) rfl ?_
       (refine dr (ro_add' (up_m rfl (u2 rfl up_h)) up_h ?_) rfl ?_; · (unfold In64; omega))
       refine dr (ro_ix_own y51_sl49 mo3_13 (up_m rfl (u4 rfl up_h)) up_h (by omega) (by simp only [lnS] <;> omega)) rfl ?_
       refine dr (ro_eq (ro_ld_el y51_ty3 rfl mo3_13 up_h (nle rfl) (by first | (refine idx_map ?_; first | omega | (simp only [lnS]; omega)) | (refine idx_mapI ?_; first | omega | (simp only [lnS]; omega)) | (refine idx_mapN ?_; first | omega | (simp only [lnS]; omega)) | rfl)) (by simp only [pS, Value.cells, Nat.reduceAdd, iE, set_iE, rep_iE] <;> rfl)) rfl ?_
       refine dr (ro_move (u2 rfl (u4 rfl (u8 rfl s7_14)))) rfl ?_
       (refine dr (ro_add' (up_m rfl up_h) up_h ?_) rfl ?_; · (unfold In64; omega))
       refine dr (ro_ix_own y51_sl49 mo3_13 (up_m rfl (u2 rfl (u4 rfl (u8 rfl up_h)))) (u2 rfl (u8 rfl up_h)) (by omega) (by simp only [lnS] <;> omega)) rfl ?_
       refine ds_nil <| al_stm (st_store_el up_h (up_m rfl up_h) rfl rfl rfl mo3_13 (Nat.add_zero _).symm (by first | (refine idx_map ?_; first | omega | (simp only [lnS]; omega)) | (refine idx_mapI ?_; first | omega | (simp only [lnS]; omega)) | (refine idx_mapN ?_; first | omega | (simp only [lnS]; omega)) | rfl) y51_sz3 rfl (nle rfl)) trivial rfl (fun m_20 hm_20 => ?_)
       have mo3_20 := m_set hm_20 mo3_13
       simp only [pS, Value.cells, Nat.reduceAdd, iE, set_iE, rep_iE] at mo3_20
       have mo2_20 := m_set_o hm_20 mo2_13 (by decide)
       have mo1_20 := m_set_o hm_20 mo1_13 (by decide)
       have mo0_20 := m_set_o hm_20 mo0_13 (by decide)
       have ml_20 := m_set_l hm_20 ml_13
       clear hm_20 mo3_13 mo2_13 mo1_13 mo0_13
       refine ae5 (up_n (up_m rfl (u16 rfl s2_14))) (up_n (up_m rfl (u16 rfl s3_14))) (up_n (up_m rfl (u16 rfl s4_14))) (up_n (up_m rfl (u16 rfl s5_14))) (up_n (up_m rfl (u16 rfl s6_14))) ?_; clear s2_14 s30_14 s3_14 s4_14 s5_14 s6_14 s7_14 s8_14; intro e_21 s2_21 s3_21 s4_21 s5_21 s6_21
       refine block_n <| then_n <| at_ <| ar (ro_move s6_21) rfl ?_
       (refine ar (ro_add' up_h ev_c ?_) rfl ?_; · (unfold In64; omega))
       refine ar (ro_assign up_h) rfl <| ae5 (up_m rfl (u2 rfl s2_21)) (up_m rfl (u2 rfl s3_21)) (up_m rfl (u2 rfl s4_21)) (up_m rfl (u2 rfl s5_21)) up_h ?_; clear s2_21 s3_21 s4_21 s5_21 s6_21; intro e_22 s2_22 s3_22 s4_22 s5_22 s6_22
       refine then_n <| ⟨⟨_, _⟩, ⟨s6_22, (s2_22.trans s2_7.symm), (s3_22.trans s3_7.symm), (s4_22.trans s4_7.symm), (s5_22.trans s5_7.symm), mo3_20, (mo2_20.trans mo2_5.symm), (mo1_20.trans mo1_5.symm), (mo0_20.trans mo0_5.symm), ml_20, ?_⟩, ?_⟩
       · (refine ⟨by omega, by omega, ?_⟩; have hn := k4.next (by omega); rw [show i.toNat + (digN b.natAbs).length = (i + ((digN b.natAbs).length : Int)).toNat by omega] at hn; rw [show (i + 1).toNat = i.toNat + 1 by omega]; exact hn)
       · ((try dsimp only); omega)
    replace hq_10 := bf hq_10
    (have hi : i.toNat = (digN a.natAbs).length := (by omega); have p4 := p3; rw [hi] at p4; have hv : valD xs = ((a * b).natAbs : Int) := (by rw [p4.done, va, vb, Int.natAbs_mul, Int.natCast_mul]); have wo := wideOf_ok (sgnV a * sgnV b) xs p4.gd (by omega))
    refine aw_exit <| then_x <| then_x <| block_hit <| then_n <| aw_seq <| aw_freezeR s5_9 mo3_8 (fun m_23 e_23 hm_23 he_23 => ?_)
    have mo2_23 := m_set_o hm_23 mo2_8 (by decide)
    have mo1_23 := m_set_o hm_23 mo1_8 (by decide)
    have mo0_23 := m_set_o hm_23 mo0_8 (by decide)
    have ml_23 := m_set_l hm_23 ml_8
    have s2_23 : evA e_23 (.tmp 2) = _ := (congrArg (fun q => evA q (.tmp 2)) he_23).trans (up_m rfl s2_9)
    have s3_23 : evA e_23 (.tmp 3) = _ := (congrArg (fun q => evA q (.tmp 3)) he_23).trans (up_m rfl s3_9)
    have s4_23 : evA e_23 (.tmp 4) = _ := (congrArg (fun q => evA q (.tmp 4)) he_23).trans (up_m rfl s4_9)
    have s5_23 : evA e_23 (.tmp 5) = _ := (congrArg (fun q => evA q (.tmp 5)) he_23).trans up_h
    have s6_23 : evA e_23 (.tmp 6) = _ := (congrArg (fun q => evA q (.tmp 6)) he_23).trans (up_m rfl s6_9)
    have s23_23 : evA e_23 (.tmp 23) = _ := (congrArg (fun q => evA q (.tmp 23)) he_23).trans (up_m rfl s23_9)
    clear hm_23 he_23
    refine at_ <| ar (ro_fld_ptr y51_fl145_0 rfl s2_23) rfl <| ar (ro_eq (ro_ld_ptr y51_ty3 rfl mo0_23 up_h (nle rfl)) (by simp only [pS, Value.cells, Nat.reduceAdd, iE, set_iE, rep_iE] <;> rfl)) rfl ?_
    refine ar (ro_fld_ptr y51_fl145_0 rfl (u2 rfl s3_23)) rfl <| ar (ro_eq (ro_ld_ptr y51_ty3 rfl mo1_23 up_h (nle rfl)) (by simp only [pS, Value.cells, Nat.reduceAdd, iE, set_iE, rep_iE] <;> rfl)) rfl ?_
    (refine ar (ro_mul' (u2 rfl up_h) up_h ?_) rfl ?_; · (unfold In64; omega))
    refine ar (ro_move (up_m rfl (u4 rfl s5_23))) rfl <| ar (ro_call (evL_cons (up_m rfl up_h) (evL_cons up_h evL_nil)) rfl (wo) y51_hcf140) rfl <| al_stm (st_store (up_m rfl (u2 rfl (u4 rfl s4_23))) up_h rfl rfl mo2_23 y51_sz145 rfl (nle rfl)) trivial rfl (fun m_24 hm_24 => ?_)
    have mo2_24 := m_set hm_24 mo2_23
    simp only [pS, Value.cells, Nat.reduceAdd, iE, set_iE, rep_iE] at mo2_24
    have mo1_24 := m_set_o hm_24 mo1_23 (by decide)
    have mo0_24 := m_set_o hm_24 mo0_23 (by decide)
    have ml_24 := m_set_l hm_24 ml_23
    clear hm_24 mo2_23 mo1_23 mo0_23
    refine ae1 (up_n (up_m rfl (u2 rfl (u4 rfl s4_23)))) ?_; clear s23_23 s2_23 s3_23 s4_23 s5_23 s6_23; intro e_25 s4_25
    refine then_n <| aw_ret <| ret1 (.inr rfl) (by kernel_rfl) (resV_cell s4_25 mo2_24 y51_ty145 (nle rfl) (by simp)) (vw_r (.ro _ rfl)) ?_
    clear s4_25 mo2_24 mo1_24 mo0_24 ml_24
    (rw [se]; exact wA_of hv)
end Go.Proofs.Ytonjcljnpcmenaa

/- Contracts: digits compared, added, taken away. No conditions on a program. -/
namespace Go.Proofs.Ytonjcljnpcmenaa
open Go Go.RowKit Go.Proofs
set_option linter.unusedSimpArgs false
set_option linter.unusedVariables false
theorem y52_hcf141 : ∀ args w, (callFunc 141 args).run Try.prog w = .ok (.enter 141 args) w := fun _ _ => by kernel_rfl
theorem y52_hcf163 : ∀ args w, (callFunc 163 args).run Try.prog w = .ok (.enter 163 args) w := fun _ _ => by kernel_rfl
theorem y52_sl49 : SlIs Try.prog 49 3 1 8 (.int .i64 0) := ⟨by kernel_rfl, by kernel_rfl, by kernel_rfl⟩
theorem y52_ty3 : TyIs Try.prog 3 false 1 := ⟨by kernel_rfl, by kernel_rfl⟩

theorem cmp_len {m n : Nat} (h : (digN m).length < (digN n).length) : m < n := by
  have h1 := valD_lt (digN_gd m)
  rw [digN_val] at h1
  refine Nat.lt_of_not_le fun hc => ?_
  have := digN_mono hc
  omega
theorem digN_inj {m n : Nat} (h : digN m = digN n) : m = n := by
  have := digN_val m
  rw [h, digN_val] at this
  omega
set_option maxRecDepth 100000 in
set_option maxHeartbeats 4000000 in
theorem cmpDigits_ok (m n : Nat) (hm : (digN m).length ≤ 1000) (hn : (digN n).length ≤ 1000) : FnOk Try.prog 142 [dA m, dA n] (fun q => q = mA (sgnV ((m : Int) - n))) := by
  refine fnOk_of (fn := Try.f142) 41 (by kernel_rfl) rfl (by kernel_rfl) (Nat.le_of_ble_eq_true rfl) ?_
  intro e_0 m_0 hA hm_0
  have s0_0 : evA e_0 (.tmp 0) = _ := hA 0 _ rfl
  have s1_0 : evA e_0 (.tmp 1) = _ := hA 1 _ rfl
  have ml_0 : m_0.length = 0 := by rw [hm_0]; rfl
  clear hA hm_0
  have gm := digN_gd m; have gn := digN_gd n; have vm := digN_val m; have vn := digN_val n
  refine aw_seq <| at_ <| ar (ro_assign ev_c) rfl <| ae2 (up_m rfl s0_0) (up_m rfl s1_0) ?_; clear s0_0 s1_0; intro e_1 s0_1 s1_1
  refine then_n <| aw_seq <| aw_seq <| at_ <| ar (ro_move s0_1) rfl <| ar (ro_eq (ro_len_row up_h rfl y52_sl49.1) (by simp only [lnS] <;> rfl)) rfl ?_
  refine ar (ro_move (u2 rfl s1_1)) rfl <| ar (ro_eq (ro_len_row up_h rfl y52_sl49.1) (by simp only [lnS] <;> rfl)) rfl ?_
  refine ar (ro_neq (u2 rfl up_h) up_h) rfl <| ae3 (up_m rfl (u4 rfl s0_1)) (up_m rfl (u4 rfl s1_1)) up_h ?_; clear s0_1 s1_1; intro e_2 s0_2 s1_2 s10_2
  refine then_n <| aw_case s10_2 (fun hq_3 => ?_) (fun hq_3 => ?_)
  ·replace hq_3 := bnt hq_3
   refine aw_seq <| aw_seq <| at_ <| ar (ro_move s0_2) rfl <| ar (ro_eq (ro_len_row up_h rfl y52_sl49.1) (by simp only [lnS] <;> rfl)) rfl ?_
   refine ar (ro_move (u2 rfl s1_2)) rfl <| ar (ro_eq (ro_len_row up_h rfl y52_sl49.1) (by simp only [lnS] <;> rfl)) rfl ?_
   refine ar (ro_lss (u2 rfl up_h) up_h) rfl <| ae1 up_h ?_; clear s0_2 s10_2 s1_2; intro e_4 s15_4
   refine then_n <| aw_case s15_4 (fun hq_5 => ?_) (fun hq_5 => ?_)
   ·replace hq_5 := bt hq_5
    refine aw_seq <| at_ <| ar (ro_assign ev_c) rfl <| ae1 up_h ?_; clear s15_4; intro e_6 s4_6
    refine then_n <| aw_ret <| then_r <| then_r <| ret1 (.inr rfl) (by kernel_rfl) (resV_tmp s4_6) (.ro _ rfl) ?_
    clear s4_6  ml_0
    (have hc := cmp_len (m := m) (n := n) (by omega); refine congrArg mA ?_; unfold sgnV; rw [if_pos (by omega)])
   replace hq_5 := bf hq_5
   refine aw_skip <| then_n <| aw_seq <| at_ <| ar (ro_assign ev_c) rfl <| ae1 up_h ?_; clear s15_4; intro e_7 s4_7
   refine then_n <| aw_ret <| then_r <| ret1 (.inr rfl) (by kernel_rfl) (resV_tmp s4_7) (.ro _ rfl) ?_
   clear s4_7  ml_0
   (have hc := cmp_len (m := n) (n := m) (by omega); refine congrArg mA ?_; unfold sgnV; rw [if_neg (by omega), if_pos (by omega)])
  replace hq_3 := bnf hq_3
  refine aw_skip <| then_n <| aw_seq <| aw_seq <| at_ <| ar (ro_move s0_2) rfl <| ar (ro_eq (ro_len_row up_h rfl y52_sl49.1) (by simp only [lnS] <;> rfl)) rfl ?_
  (refine ar (ro_sub' up_h ev_c ?_) rfl ?_; · (unfold In64; omega))
  refine ar (ro_assign up_h) rfl <| ae3 (u4 rfl s0_2) (u4 rfl s1_2) up_h ?_; clear s0_2 s10_2 s1_2; intro e_8 s0_8 s1_8 s5_8
  refine then_n <| aw_block <| aw_loop (S := Int) (fun i e mem => (evA e (.tmp 5) = .v (.int .i64 i)) ∧ (evA e (.tmp 0) = evA e_8 (.tmp 0)) ∧ (evA e (.tmp 1) = evA e_8 (.tmp 1)) ∧ (mem.length = 0) ∧ ((-1 ≤ i ∧ i < (digN m).length ∧ (digN m).length = (digN n).length ∧ ∀ q : Nat, i < q → q < (digN m).length → (digN m).getD q default = (digN n).getD q default))) (fun i => (i + 1).toNat) _ ⟨s5_8, rfl, rfl, ml_0, ?_⟩ ?_
  · (exact ⟨by omega, by omega, by omega, fun q h1 h2 => by omega⟩)
  · rintro i e_9 m_9 ⟨s5_9, k0_9, k1_9, ml_9, hinv⟩
    have s0_9 := k0_9.trans s0_8
    have s1_9 := k1_9.trans s1_8
    (obtain ⟨p1, p2, p3, p4⟩ := hinv)
    refine aw_seq <| aw_seq <| at_ <| ar (ro_move s5_9) rfl <| ar (ro_geq up_h ev_c) rfl <| ae4 (u2 rfl s0_9) (u2 rfl s1_9) (u2 rfl s5_9) up_h ?_; clear s0_9 s1_9 s5_9; intro e_10 s0_10 s1_10 s5_10 s20_10
    refine then_n <| aw_case s20_10 (fun hq_11 => ?_) (fun hq_11 => ?_)
    ·replace hq_11 := bt hq_11
     refine aw_skip <| then_n <| aw_seq <| aw_block <| aw_seq <| aw_seq <| aw_draw 9 (by kernel_rfl) (by kernel_rfl) (by kernel_rfl) (by kernel_rfl) ?_
     refine dr (ro_move s0_10) rfl <| dr (ro_move (up_m rfl s5_10)) rfl <| dr (ro_eq (ro_ix y52_sl49 (up_m rfl up_h) up_h (by omega) (by first | (refine idx_map ?_; first | omega | (simp only [lnS]; omega)) | (refine idx_mapI ?_; first | omega | (simp only [lnS]; omega)) | (refine idx_mapN ?_; first | omega | (simp only [lnS]; omega)) | rfl)) (by simp only [pS, Value.cells, Nat.reduceAdd, iE] <;> rfl)) rfl ?_
     refine dr (ro_eq (ro_ld_ref y52_ty3 rfl up_h (nle rfl)) (by simp only [pS, Value.cells, Nat.reduceAdd, iE] <;> rfl)) rfl ?_
     refine dr (ro_move (u4 rfl s1_10)) rfl <| dr (ro_move (up_m rfl (u4 rfl s5_10))) rfl <| dr (ro_eq (ro_ix y52_sl49 (up_m rfl up_h) up_h (by omega) (by first | (refine idx_map ?_; first | omega | (simp only [lnS]; omega)) | (refine idx_mapI ?_; first | omega | (simp only [lnS]; omega)) | (refine idx_mapN ?_; first | omega | (simp only [lnS]; omega)) | rfl)) (by simp only [pS, Value.cells, Nat.reduceAdd, iE] <;> rfl)) rfl ?_
     refine dr (ro_eq (ro_ld_ref y52_ty3 rfl up_h (nle rfl)) (by simp only [pS, Value.cells, Nat.reduceAdd, iE] <;> rfl)) rfl ?_
     refine dr (ro_lss (u4 rfl up_h) up_h) rfl <| ds_nil <| ae4 (up_m rfl (u8 rfl s0_10)) (up_m rfl (u8 rfl s1_10)) (up_m rfl (u8 rfl s5_10)) up_h ?_; clear s0_10 s1_10 s20_10 s5_10; intro e_12 s0_12 s1_12 s5_12 s31_12
     refine then_n <| aw_case s31_12 (fun hq_13 => ?_) (fun hq_13 => ?_)
     ·replace hq_13 := bt hq_13
      refine aw_seq <| at_ <| ar (ro_assign ev_c) rfl <| ae1 up_h ?_; clear s0_12 s1_12 s31_12 s5_12; intro e_14 s4_14
      refine then_n <| aw_ret <| then_r <| block_r <| then_r <| then_r <| block_r <| then_r <| ret1 (.inr rfl) (by kernel_rfl) (resV_tmp s4_14) (.ro _ rfl) ?_
      clear s4_14  ml_9
      (have hc := valD_less gm gn p3 (i := i.toNat) (by omega) (fun q h1 h2 => p4 q (by omega) h2) (by omega); refine congrArg mA ?_; unfold sgnV; rw [if_pos (by omega)])
     replace hq_13 := bf hq_13
     refine aw_skip <| then_n <| aw_seq <| aw_draw 9 (by kernel_rfl) (by kernel_rfl) (by kernel_rfl) (by kernel_rfl) ?_
     refine dr (ro_move s0_12) rfl <| dr (ro_move (up_m rfl s5_12)) rfl <| dr (ro_eq (ro_ix y52_sl49 (up_m rfl up_h) up_h (by omega) (by first | (refine idx_map ?_; first | omega | (simp only [lnS]; omega)) | (refine idx_mapI ?_; first | omega | (simp only [lnS]; omega)) | (refine idx_mapN ?_; first | omega | (simp only [lnS]; omega)) | rfl)) (by simp only [pS, Value.cells, Nat.reduceAdd, iE] <;> rfl)) rfl ?_
     refine dr (ro_eq (ro_ld_ref y52_ty3 rfl up_h (nle rfl)) (by simp only [pS, Value.cells, Nat.reduceAdd, iE] <;> rfl)) rfl ?_
     refine dr (ro_move (u4 rfl s1_12)) rfl <| dr (ro_move (up_m rfl (u4 rfl s5_12))) rfl <| dr (ro_eq (ro_ix y52_sl49 (up_m rfl up_h) up_h (by omega) (by first | (refine idx_map ?_; first | omega | (simp only [lnS]; omega)) | (refine idx_mapI ?_; first | omega | (simp only [lnS]; omega)) | (refine idx_mapN ?_; first | omega | (simp only [lnS]; omega)) | rfl)) (by simp only [pS, Value.cells, Nat.reduceAdd, iE] <;> rfl)) rfl ?_
     refine dr (ro_eq (ro_ld_ref y52_ty3 rfl up_h (nle rfl)) (by simp only [pS, Value.cells, Nat.reduceAdd, iE] <;> rfl)) rfl ?_
     refine dr (ro_gtr (u4 rfl up_h) up_h) rfl <| ds_nil <| ae4 (up_m rfl (u8 rfl s0_12)) (up_m rfl (u8 rfl s1_12)) (up_m rfl (u8 rfl s5_12)) up_h ?_; clear s0_12 s1_12 s31_12 s5_12; intro e_15 s0_15 s1_15 s5_15 s40_15
     refine then_n <| aw_case s40_15 (fun hq_16 => ?_) (fun hq_16 => ?_)
     ·replace hq_16 := bt hq_16
      refine aw_seq <| at_ <| ar (ro_assign ev_c) rfl <| ae1 up_h ?_; clear s0_15 s1_15 s40_15 s5_15; intro e_17 s4_17
      refine then_n <| aw_ret <| block_r <| then_r <| then_r <| block_r <| then_r <| ret1 (.inr rfl) (by kernel_rfl) (resV_tmp s4_17) (.ro _ rfl) ?_
      clear s4_17  ml_9
      (have hc := valD_less gn gm p3.symm (i := i.toNat) (by omega) (fun q h1 h2 => (p4 q (by omega) (by omega)).symm) (by omega); refine congrArg mA ?_; unfold sgnV; rw [if_neg (by omega), if_pos (by omega)])
     replace hq_16 := bf hq_16
     refine aw_skip <| block_n <| then_n <| at_ <| ar (ro_move s5_15) rfl ?_
     (refine ar (ro_sub' up_h ev_c ?_) rfl ?_; · (unfold In64; omega))
     refine ar (ro_assign up_h) rfl <| ae3 (up_m rfl (u2 rfl s0_15)) (up_m rfl (u2 rfl s1_15)) up_h ?_; clear s0_15 s1_15 s40_15 s5_15; intro e_18 s0_18 s1_18 s5_18
     refine then_n <| ⟨_, ⟨s5_18, (s0_18.trans s0_8.symm), (s1_18.trans s1_8.symm), ml_9, ?_⟩, ?_⟩
     · (refine ⟨by omega, by omega, p3, fun q h1 h2 => ?_⟩; by_cases hq : (q : Int) = i; (rw [show q = i.toNat by omega]; omega); exact p4 q (by omega) h2)
     · ((try dsimp only); omega)
    replace hq_11 := bf hq_11
    refine aw_exit <| then_x <| then_x <| block_hit <| then_n <| aw_seq <| at_ <| ar (ro_assign ev_c) rfl <| ae1 up_h ?_; clear s0_10 s1_10 s20_10 s5_10; intro e_19 s4_19
    refine then_n <| aw_ret <| ret1 (.inr rfl) (by kernel_rfl) (resV_tmp s4_19) (.ro _ rfl) ?_
    clear s4_19  ml_9
    (have hc : m = n := digN_inj (list_same p3 fun q h2 => p4 q (by omega) h2); subst hc; refine congrArg mA ?_; unfold sgnV; rw [if_neg (by omega), if_neg (by omega)])
set_option maxRecDepth 100000 in
set_option maxHeartbeats 4000000 in
theorem digit_ok (ds : List Int) (i : Int) (h0 : 0 ≤ i) (hl : ds.length ≤ 1000000) : FnOk Try.prog 163 [.row 1 (ds.map iE), mA i] (fun q => q = mA (ds.getD i.toNat default)) := by
  refine fnOk_of (fn := Try.f163) 13 (by kernel_rfl) rfl (by kernel_rfl) (Nat.le_of_ble_eq_true rfl) ?_
  intro e_0 m_0 hA hm_0
  have s0_0 : evA e_0 (.tmp 0) = _ := hA 0 _ rfl
  have s1_0 : evA e_0 (.tmp 1) = _ := hA 1 _ rfl
  have ml_0 : m_0.length = 0 := by rw [hm_0]; rfl
  clear hA hm_0
  refine aw_seq <| at_ <| ar (ro_assign ev_c) rfl <| ae2 (up_m rfl s0_0) (up_m rfl s1_0) ?_; clear s0_0 s1_0; intro e_1 s0_1 s1_1
  refine then_n <| aw_seq <| aw_seq <| at_ <| ar (ro_move s1_1) rfl <| ar (ro_move (up_m rfl s0_1)) rfl <| ar (ro_eq (ro_len_row up_h rfl y52_sl49.1) (by simp only [lnS] <;> rfl)) rfl ?_
  refine ar (ro_lss (u2 rfl up_h) up_h) rfl <| ae3 (u4 rfl s0_1) (u4 rfl s1_1) up_h ?_; clear s0_1 s1_1; intro e_2 s0_2 s1_2 s8_2
  refine then_n <| aw_case s8_2 (fun hq_3 => ?_) (fun hq_3 => ?_)
  ·replace hq_3 := bt hq_3
   refine aw_seq <| at_ <| ar (ro_move s0_2) rfl <| ar (ro_move (up_m rfl s1_2)) rfl <| ar (ro_eq (ro_ix y52_sl49 (up_m rfl up_h) up_h (by omega) (by first | (refine idx_map ?_; first | omega | (simp only [lnS]; omega)) | (refine idx_mapI ?_; first | omega | (simp only [lnS]; omega)) | (refine idx_mapN ?_; first | omega | (simp only [lnS]; omega)) | rfl)) (by simp only [pS, Value.cells, Nat.reduceAdd, iE] <;> rfl)) rfl ?_
   refine ar (ro_eq (ro_ld_ref y52_ty3 rfl up_h (nle rfl)) (by simp only [pS, Value.cells, Nat.reduceAdd, iE] <;> rfl)) rfl ?_
   refine ar (ro_assign up_h) rfl <| ae1 up_h ?_; clear s0_2 s1_2 s8_2; intro e_4 s4_4
   refine then_n <| aw_ret <| then_r <| ret1 (.inr rfl) (by kernel_rfl) (resV_tmp s4_4) (.ro _ rfl) ?_
   clear s4_4  ml_0
   rfl
  replace hq_3 := bf hq_3
  refine aw_skip <| then_n <| aw_seq <| at_ <| ar (ro_assign ev_c) rfl <| ae1 up_h ?_; clear s0_2 s1_2 s8_2; intro e_5 s4_5
  refine then_n <| aw_ret <| ret1 (.inr rfl) (by kernel_rfl) (resV_tmp s4_5) (.ro _ rfl) ?_
  clear s4_5  ml_0
  (rw [getD_far (by omega)])
set_option maxRecDepth 100000 in
set_option maxHeartbeats 4000000 in
theorem subDigits_ok (m n : Nat) (h : n ≤ m) (hm : (digN m).length ≤ 1000) : FnOk Try.prog 143 [dA m, dA n] (fun q => q = dA (m - n)) := by
  refine fnOk_of (fn := Try.f143) 35 (by kernel_rfl) rfl (by kernel_rfl) (Nat.le_of_ble_eq_true rfl) ?_
  intro e_0 m_0 hA hm_0
  have s0_0 : evA e_0 (.tmp 0) = _ := hA 0 _ rfl
  have s1_0 : evA e_0 (.tmp 1) = _ := hA 1 _ rfl
  have ml_0 : m_0.length = 0 := by rw [hm_0]; rfl
  clear hA hm_0
  have gm := digN_gd m; have gn := digN_gd n; have hn := digN_mono h
  refine aw_seq <| at_ <| ar (ro_assign ev_c) rfl <| ae2 (up_m rfl s0_0) (up_m rfl s1_0) ?_; clear s0_0 s1_0; intro e_1 s0_1 s1_1
  refine then_n <| aw_seq <| at_ <| ar (ro_assign ev_c) rfl <| ae3 (up_m rfl s0_1) (up_m rfl s1_1) up_h ?_; clear s0_1 s1_1; intro e_2 s0_2 s1_2 s5_2
  refine then_n <| aw_seq <| at_ <| ar (ro_assign ev_c) rfl <| ae4 (up_m rfl s0_2) (up_m rfl s1_2) (up_m rfl s5_2) up_h ?_; clear s0_2 s1_2 s5_2; intro e_3 s0_3 s1_3 s5_3 s6_3
  refine then_n <| aw_seq <| aw_seq <| at_ <| ar (ro_assign ev_c) rfl <| ae5 (up_m rfl s0_3) (up_m rfl s1_3) (up_m rfl s5_3) (up_m rfl s6_3) up_h ?_; clear s0_3 s1_3 s5_3 s6_3; intro e_4 s0_4 s1_4 s5_4 s6_4 s7_4
  refine then_n <| aw_block <| aw_adopt 3 1 s5_4 ml_0 (fun m_5 e_5 hm_5 he_5 => ?_)
  have mo0_5 := m_push hm_5 ml_0
  have ml_5 := m_push_l hm_5 ml_0
  have ml_5 : _ = 1 := ml_5
  have s0_5 : evA e_5 (.tmp 0) = _ := (congrArg (fun q => evA q (.tmp 0)) he_5).trans (up_m rfl s0_4)
  have s1_5 : evA e_5 (.tmp 1) = _ := (congrArg (fun q => evA q (.tmp 1)) he_5).trans (up_m rfl s1_4)
  have s5_5 : evA e_5 (.tmp 5) = _ := (congrArg (fun q => evA q (.tmp 5)) he_5).trans up_h
  have s6_5 : evA e_5 (.tmp 6) = _ := (congrArg (fun q => evA q (.tmp 6)) he_5).trans (up_m rfl s6_4)
  have s7_5 : evA e_5 (.tmp 7) = _ := (congrArg (fun q => evA q (.tmp 7)) he_5).trans (up_m rfl s7_4)
  clear hm_5 he_5
  refine aw_loop (S := (Int × Int × List Int)) (fun s e mem => match s with | ⟨i, w, xs⟩ => (evA e (.tmp 7) = .v (.int .i64 i)) ∧ (evA e (.tmp 6) = .v (.int .i64 w)) ∧ (evA e (.tmp 0) = evA e_5 (.tmp 0)) ∧ (evA e (.tmp 1) = evA e_5 (.tmp 1)) ∧ (∃ j, evA e (.tmp 5) = .own j ∧ mem[j]? = some (.row 3 1 (xs.map iE)) ∧ True) ∧ (∃ n, mem.length = n ∧ 1 ≤ n) ∧ ((0 ≤ i ∧ i ≤ (digN m).length ∧ SB (digN m) (digN n) xs i.toNat w))) (fun s => match s with | ⟨i, w, xs⟩ => ((digN m).length - i).toNat) ⟨_, _, []⟩ ⟨s7_5, s6_5, rfl, rfl, ⟨_, s5_5, mo0_5, trivial⟩, ⟨_, ml_5, Nat.le_refl _⟩, ?_⟩ ?_
  · (exact ⟨by omega, by omega, SB.first _ _⟩)
  · rintro ⟨i, w, xs⟩ e_6 m_6 ⟨s7_6, s6_6, k0_6, k1_6, ⟨j5_6, s5_6, mo_j5_6, -⟩, ⟨n_6, ml_6, hn_6⟩, hinv⟩
    have s0_6 := k0_6.trans s0_5
    have s1_6 := k1_6.trans s1_5
    have jl5_6 := m_lt mo_j5_6 ml_6
    (obtain ⟨p1, p2, p3⟩ := hinv; have pl := p3.len; have pw := p3.w01; have d1 := gm.at i.toNat; have d2 := gn.at i.toNat)
    refine aw_seq <| aw_seq <| at_ <| ar (ro_move s7_6) rfl <| ar (ro_move (up_m rfl s0_6)) rfl <| ar (ro_eq (ro_len_row up_h rfl y52_sl49.1) (by simp only [lnS] <;> rfl)) rfl ?_
    refine ar (ro_lss (u2 rfl up_h) up_h) rfl <| ae6 (u4 rfl s0_6) (u4 rfl s1_6) (u4 rfl s5_6) (u4 rfl s6_6) (u4 rfl s7_6) up_h ?_; clear s0_6 s1_6 s5_6 s6_6 s7_6; intro e_7 s0_7 s1_7 s5_7 s6_7 s7_7 s12_7
    refine then_n <| aw_case s12_7 (fun hq_8 => ?_) (fun hq_8 => ?_)
    ·replace hq_8 := bt hq_8
     refine aw_skip <| then_n <| aw_seq <| aw_block <| aw_seq <| aw_draw 11 (by kernel_rfl) (by kernel_rfl) (by kernel_rfl) (by kernel_rfl) ?_
     refine dr (ro_move s0_7) rfl <| dr (ro_move (up_m rfl s7_7)) rfl <| dr (ro_eq (ro_ix y52_sl49 (up_m rfl up_h) up_h (by omega) (by first | (refine idx_map ?_; first | omega | (simp only [lnS]; omega)) | (refine idx_mapI ?_; first | omega | (simp only [lnS]; omega)) | (refine idx_mapN ?_; first | omega | (simp only [lnS]; omega)) | rfl)) (by simp only [pS, Value.cells, Nat.reduceAdd, iE, one_iE, app_m] <;> rfl)) rfl ?_
     refine dr (ro_eq (ro_ld_ref y52_ty3 rfl up_h (nle rfl)) (by simp only [pS, Value.cells, Nat.reduceAdd, iE, one_iE, app_m] <;> rfl)) rfl ?_
     refine dr (ro_move (u4 rfl s1_7)) rfl <| dr (ro_move (up_m rfl (u4 rfl s7_7))) rfl <| dr (ro_call (evL_cons (up_m rfl up_h) (evL_cons up_h evL_nil)) rfl (digit_ok (digN n) i (by omega) (by omega)) y52_hcf163) rfl ?_
     (refine dr (ro_sub' (up_m rfl (u2 rfl up_h)) up_h ?_) rfl ?_; · (unfold In64; omega))
     refine dr (ro_move (u8 rfl s6_7)) rfl ?_
     (refine dr (ro_sub' (up_m rfl up_h) up_h ?_) rfl ?_; · (unfold In64; omega))
     refine dr (ro_assign up_h) rfl <| ds_nil <| ae5 (up_m rfl (u2 rfl (u8 rfl s0_7))) (up_m rfl (u2 rfl (u8 rfl s1_7))) (up_m rfl (u2 rfl (u8 rfl s5_7))) (up_m rfl (u2 rfl (u8 rfl s7_7))) up_h ?_; clear s0_7 s12_7 s1_7 s5_7 s6_7 s7_7; intro e_9 s0_9 s1_9 s5_9 s7_9 s8_9
     refine then_n <| aw_seq <| at_ <| ar (ro_assign ev_c) rfl <| ae6 (up_m rfl s0_9) (up_m rfl s1_9) (up_m rfl s5_9) up_h (up_m rfl s7_9) (up_m rfl s8_9) ?_; clear s0_9 s1_9 s5_9 s7_9 s8_9; intro e_10 s0_10 s1_10 s5_10 s6_10 s7_10 s8_10
     refine then_n <| aw_seq <| aw_seq <| at_ <| ar (ro_move s8_10) rfl <| ar (ro_lss up_h ev_c) rfl <| ae7 (u2 rfl s0_10) (u2 rfl s1_10) (u2 rfl s5_10) (u2 rfl s6_10) (u2 rfl s7_10) (u2 rfl s8_10) up_h ?_; clear s0_10 s1_10 s5_10 s6_10 s7_10 s8_10; intro e_11 s0_11 s1_11 s5_11 s6_11 s7_11 s8_11 s26_11
     refine then_n <| aw_case s26_11 (fun hq_12 => ?_) (fun hq_12 => ?_)
     ·replace hq_12 := bt hq_12
      refine at_ <| ar (ro_move s8_11) rfl ?_
      (refine ar (ro_add' up_h ev_c ?_) rfl ?_; · (unfold In64; omega))
      refine ar (ro_assign up_h) rfl <| ar (ro_assign ev_c) rfl <| ae6 (u4 rfl s0_11) (u4 rfl s1_11) (u4 rfl s5_11) up_h (u4 rfl s7_11) (up_m rfl up_h) ?_; clear s0_11 s1_11 s26_11 s5_11 s6_11 s7_11 s8_11; intro e_13 s0_13 s1_13 s5_13 s6_13 s7_13 s8_13
      refine then_n <| at_ <| ar (ro_move s5_13) rfl <| ar (ro_move (up_m rfl s8_13)) rfl <| ar (ro_lit y52_sl49 (evP_cons up_h evP_nil) rfl rfl rfl rfl) rfl <| al_stm (st_app y52_sl49 rfl ml_6 mo_j5_6 (u2 rfl up_h) up_h (by rfl) (by simp only [lnS] <;> omega)) trivial rfl (fun m_14 hm_14 => ?_)
      have mon_6_14 := m_swap hm_14 ml_6
      simp only [pS, Value.cells, Nat.reduceAdd, iE, one_iE, app_m] at mon_6_14
      have ml_14 := m_swap_l hm_14 ml_6
      clear hm_14 mo_j5_6
      refine ar (ro_assign up_h) rfl <| ae5 (up_m rfl (u4 rfl s0_13)) (up_m rfl (u4 rfl s1_13)) up_h (up_m rfl (u4 rfl s6_13)) (up_m rfl (u4 rfl s7_13)) ?_; clear s0_13 s1_13 s5_13 s6_13 s7_13 s8_13; intro e_15 s0_15 s1_15 s5_15 s6_15 s7_15
      refine block_n <| then_n <| at_ <| ar (ro_move s7_15) rfl ?_
      (refine ar (ro_add' up_h ev_c ?_) rfl ?_; · (unfold In64; omega))
      refine ar (ro_assign up_h) rfl <| ae5 (up_m rfl (u2 rfl s0_15)) (up_m rfl (u2 rfl s1_15)) (up_m rfl (u2 rfl s5_15)) (up_m rfl (u2 rfl s6_15)) up_h ?_; clear s0_15 s1_15 s5_15 s6_15 s7_15; intro e_16 s0_16 s1_16 s5_16 s6_16 s7_16
      refine then_n <| ⟨⟨_, _, _⟩, ⟨s7_16, s6_16, (s0_16.trans s0_5.symm), (s1_16.trans s1_5.symm), ⟨_, s5_16, mon_6_14, trivial⟩, ⟨_, ml_14, by omega⟩, ?_⟩, ?_⟩
      · (refine ⟨by omega, by omega, ?_⟩; rw [show (i + 1).toNat = i.toNat + 1 by omega]; exact p3.next gm gn (by omega) (by omega) (by omega))
      · ((try dsimp only); omega)
     replace hq_12 := bf hq_12
     refine aw_skip <| then_n <| at_ <| ar (ro_move s5_11) rfl <| ar (ro_move (up_m rfl s8_11)) rfl <| ar (ro_lit y52_sl49 (evP_cons up_h evP_nil) rfl rfl rfl rfl) rfl <| al_stm (st_app y52_sl49 rfl ml_6 mo_j5_6 (u2 rfl up_h) up_h (by rfl) (by simp only [lnS] <;> omega)) trivial rfl (fun m_17 hm_17 => ?_)
     have mon_6_17 := m_swap hm_17 ml_6
     simp only [pS, Value.cells, Nat.reduceAdd, iE, one_iE, app_m] at mon_6_17
     have ml_17 := m_swap_l hm_17 ml_6
     clear hm_17 mo_j5_6
     refine ar (ro_assign up_h) rfl <| ae5 (up_m rfl (u4 rfl s0_11)) (up_m rfl (u4 rfl s1_11)) up_h (up_m rfl (u4 rfl s6_11)) (up_m rfl (u4 rfl s7_11)) ?_; clear s0_11 s1_11 s26_11 s5_11 s6_11 s7_11 s8_11; intro e_18 s0_18 s1_18 s5_18 s6_18 s7_18
     refine block_n <| then_n <| at_ <| ar (ro_move s7_18) rfl ?_
     (refine ar (ro_add' up_h ev_c ?_) rfl ?_; · (unfold In64; omega))
     refine ar (ro_assign up_h) rfl <| ae5 (up_m rfl (u2 rfl s0_18)) (up_m rfl (u2 rfl s1_18)) (up_m rfl (u2 rfl s5_18)) (up_m rfl (u2 rfl s6_18)) up_h ?_; clear s0_18 s1_18 s5_18 s6_18 s7_18; intro e_19 s0_19 s1_19 s5_19 s6_19 s7_19
     refine then_n <| ⟨⟨_, _, _⟩, ⟨s7_19, s6_19, (s0_19.trans s0_5.symm), (s1_19.trans s1_5.symm), ⟨_, s5_19, mon_6_17, trivial⟩, ⟨_, ml_17, by omega⟩, ?_⟩, ?_⟩
     · (refine ⟨by omega, by omega, ?_⟩; rw [show (i + 1).toNat = i.toNat + 1 by omega]; exact p3.next gm gn (by omega) (by omega) (by omega))
     · ((try dsimp only); omega)
    replace hq_8 := bf hq_8
    (have hi : i.toNat = (digN m).length := (by omega); have p4 := p3; rw [hi] at p4; have hv := p4.done h; have tr := trimmed_ok xs p4.gd (by omega))
    refine aw_exit <| then_x <| then_x <| block_hit <| then_n <| aw_seq <| aw_freezeR s5_7 mo_j5_6 (fun m_20 e_20 hm_20 he_20 => ?_)
    have ml_20 := m_set_l hm_20 ml_6
    have s0_20 : evA e_20 (.tmp 0) = _ := (congrArg (fun q => evA q (.tmp 0)) he_20).trans (up_m rfl s0_7)
    have s1_20 : evA e_20 (.tmp 1) = _ := (congrArg (fun q => evA q (.tmp 1)) he_20).trans (up_m rfl s1_7)
    have s5_20 : evA e_20 (.tmp 5) = _ := (congrArg (fun q => evA q (.tmp 5)) he_20).trans up_h
    have s6_20 : evA e_20 (.tmp 6) = _ := (congrArg (fun q => evA q (.tmp 6)) he_20).trans (up_m rfl s6_7)
    have s7_20 : evA e_20 (.tmp 7) = _ := (congrArg (fun q => evA q (.tmp 7)) he_20).trans (up_m rfl s7_7)
    have s12_20 : evA e_20 (.tmp 12) = _ := (congrArg (fun q => evA q (.tmp 12)) he_20).trans (up_m rfl s12_7)
    clear hm_20 he_20
    refine at_ <| ar (ro_move s5_20) rfl <| ar (ro_call (evL_cons up_h evL_nil) rfl (tr) y52_hcf141) rfl <| ar (ro_assign up_h) rfl <| ae1 up_h ?_; clear s0_20 s12_20 s1_20 s5_20 s6_20 s7_20; intro e_21 s4_21
    refine then_n <| aw_ret <| ret1 (.inr rfl) (by kernel_rfl) (resV_tmp s4_21) (.ro _ rfl) ?_
    clear s4_21  ml_20
    (rw [hv])
theorem canon_top {ds : List Int} (h : GD ds) {v : Nat} (hv : valD ds = v) (ht : ds.length = 0 ∨ (1000000000 : Int) ^ (ds.length - 1) ≤ v) : ds = digN v := by
  have := trim_fin h (n := ds.length) (Nat.le_refl _) (fun k h1 h2 => by omega) (by
    rcases ht with ht | ht
    · exact .inl ht
    · by_cases h0 : ds.length = 0
      · exact .inl h0
      · refine .inr fun hz => ?_
        have h1 := valD_lt (h.take (ds.length - 1))
        rw [List.length_take, Nat.min_eq_left (by omega)] at h1
        have h2 := valD_takeD (ds := ds) (k := ds.length - 1)
        rw [show ds.length - 1 + 1 = ds.length by omega, List.take_length, hz, Int.zero_mul, hv] at h2
        omega)
  rwa [List.take_length, hv, Int.toNat_natCast] at this
theorem digN_big {m i : Nat} (h : i < (digN m).length) : (1000000000 : Int) ^ i ≤ m := by
  refine Int.not_lt.1 fun hc => ?_
  have h2 : ((m : Nat) : Int) < ((1000000000 ^ i : Nat) : Int) := by rw [Int.natCast_pow]; exact hc
  have := digN_len (Int.ofNat_lt.1 h2)
  omega
theorem AD.top {m n : Nat} {o : List Int} {i : Nat} {w : Int} (h : AD (digN m) (digN n) o i w) (hg : i < (digN m).length ∨ i < (digN n).length ∨ 0 < w) : (1000000000 : Int) ^ i ≤ (m : Int) + n := by
  have hp : (0 : Int) < 1000000000 ^ i := Int.pow_pos (by decide)
  by_cases h1 : i < (digN m).length
  · have := digN_big h1; omega
  · by_cases h2 : i < (digN n).length
    · have := digN_big h2; omega
    · have hv := h.v
      rw [List.take_of_length_le (by omega), List.take_of_length_le (by omega), digN_val, digN_val] at hv
      have hw := h.w01
      have hn := valD_nn h.gd
      have : w = 1 := by omega
      subst this
      rw [Int.one_mul] at hv
      omega
set_option maxRecDepth 100000 in
set_option maxHeartbeats 4000000 in
theorem addDigits_ok (m n : Nat) (hm : (digN m).length ≤ 1000) (hn : (digN n).length ≤ 1000) : FnOk Try.prog 181 [dA m, dA n] (fun q => q = dA (m + n)) := by
  refine fnOk_of (fn := Try.f181) 42 (by kernel_rfl) rfl (by kernel_rfl) (Nat.le_of_ble_eq_true rfl) ?_
  intro e_0 m_0 hA hm_0
  have s0_0 : evA e_0 (.tmp 0) = _ := hA 0 _ rfl
  have s1_0 : evA e_0 (.tmp 1) = _ := hA 1 _ rfl
  have ml_0 : m_0.length = 0 := by rw [hm_0]; rfl
  clear hA hm_0
  have gm := digN_gd m; have gn := digN_gd n; have vm := digN_val m; have vn := digN_val n
  refine aw_seq <| at_ <| ar (ro_assign ev_c) rfl <| ae2 (up_m rfl s0_0) (up_m rfl s1_0) ?_; clear s0_0 s1_0; intro e_1 s0_1 s1_1
  refine then_n <| aw_seq <| at_ <| ar (ro_assign ev_c) rfl <| ae3 (up_m rfl s0_1) (up_m rfl s1_1) up_h ?_; clear s0_1 s1_1; intro e_2 s0_2 s1_2 s5_2
  refine then_n <| aw_seq <| at_ <| ar (ro_assign ev_c) rfl <| ae4 (up_m rfl s0_2) (up_m rfl s1_2) (up_m rfl s5_2) up_h ?_; clear s0_2 s1_2 s5_2; intro e_3 s0_3 s1_3 s5_3 s6_3
  refine then_n <| aw_seq <| aw_seq <| at_ <| ar (ro_assign ev_c) rfl <| ae5 (up_m rfl s0_3) (up_m rfl s1_3) (up_m rfl s5_3) (up_m rfl s6_3) up_h ?_; clear s0_3 s1_3 s5_3 s6_3; intro e_4 s0_4 s1_4 s5_4 s6_4 s7_4
  refine then_n <| aw_block <| aw_adopt 3 1 s5_4 ml_0 (fun m_5 e_5 hm_5 he_5 => ?_)
  have mo0_5 := m_push hm_5 ml_0
  have ml_5 := m_push_l hm_5 ml_0
  have ml_5 : _ = 1 := ml_5
  have s0_5 : evA e_5 (.tmp 0) = _ := (congrArg (fun q => evA q (.tmp 0)) he_5).trans (up_m rfl s0_4)
  have s1_5 : evA e_5 (.tmp 1) = _ := (congrArg (fun q => evA q (.tmp 1)) he_5).trans (up_m rfl s1_4)
  have s5_5 : evA e_5 (.tmp 5) = _ := (congrArg (fun q => evA q (.tmp 5)) he_5).trans up_h
  have s6_5 : evA e_5 (.tmp 6) = _ := (congrArg (fun q => evA q (.tmp 6)) he_5).trans (up_m rfl s6_4)
  have s7_5 : evA e_5 (.tmp 7) = _ := (congrArg (fun q => evA q (.tmp 7)) he_5).trans (up_m rfl s7_4)
  clear hm_5 he_5
  refine aw_loop (S := (Int × Int × List Int)) (fun s e mem => match s with | ⟨i, w, xs⟩ => (evA e (.tmp 7) = .v (.int .i64 i)) ∧ (evA e (.tmp 6) = .v (.int .i64 w)) ∧ (evA e (.tmp 0) = evA e_5 (.tmp 0)) ∧ (evA e (.tmp 1) = evA e_5 (.tmp 1)) ∧ (∃ j, evA e (.tmp 5) = .own j ∧ mem[j]? = some (.row 3 1 (xs.map iE)) ∧ True) ∧ (∃ n, mem.length = n ∧ 1 ≤ n) ∧ ((0 ≤ i ∧ i ≤ max (digN m).length (digN n).length + 1 ∧ (i ≤ max (digN m).length (digN n).length ∨ w = 0) ∧ AD (digN m) (digN n) xs i.toNat w ∧ (i = 0 ∨ (1000000000 : Int) ^ (i.toNat - 1) ≤ (m : Int) + n)))) (fun s => match s with | ⟨i, w, xs⟩ => (1003 - i).toNat) ⟨_, _, []⟩ ⟨s7_5, s6_5, rfl, rfl, ⟨_, s5_5, mo0_5, trivial⟩, ⟨_, ml_5, Nat.le_refl _⟩, ?_⟩ ?_
  · (exact ⟨by omega, by omega, by omega, AD.first _ _, .inl rfl⟩)
  · rintro ⟨i, w, xs⟩ e_6 m_6 ⟨s7_6, s6_6, k0_6, k1_6, ⟨j5_6, s5_6, mo_j5_6, -⟩, ⟨n_6, ml_6, hn_6⟩, hinv⟩
    have s0_6 := k0_6.trans s0_5
    have s1_6 := k1_6.trans s1_5
    have jl5_6 := m_lt mo_j5_6 ml_6
    (obtain ⟨p1, p2, p0, p3, p4⟩ := hinv; have pl := p3.len; have pw := p3.w01; have d1 := gm.at i.toNat; have d2 := gn.at i.toNat; have f1 : i < (digN m).length ∨ (digN m).getD i.toNat default = 0 := (by by_cases h : i < (digN m).length; exact .inl h; exact .inr (getD_far (by omega))); have f2 : i < (digN n).length ∨ (digN n).getD i.toNat default = 0 := (by by_cases h : i < (digN n).length; exact .inl h; exact .inr (getD_far (by omega))); have e1 := Int.tdiv_eq_ediv_of_nonneg (show 0 ≤ (digN m).getD i.toNat default + (digN n).getD i.toNat default + w by omega) (b := 1000000000); have e2 := Int.tmod_eq_emod_of_nonneg (show 0 ≤ (digN m).getD i.toNat default + (digN n).getD i.toNat default + w by omega) (b := 1000000000))
    refine aw_seq <| aw_seq <| at_ <| ar (ro_move s7_6) rfl <| ar (ro_move (up_m rfl s0_6)) rfl <| ar (ro_eq (ro_len_row up_h rfl y52_sl49.1) (by simp only [lnS] <;> rfl)) rfl ?_
    refine ar (ro_lss (u2 rfl up_h) up_h) rfl <| ar (ro_move up_h) rfl <| al_case up_h (fun hb_7 hq_7 => ?_) (fun hb_7 hq_7 => ?_)
    ·replace hq_7 := bt hq_7
     refine al_skip' ⟨_, rfl, .inl hb_7⟩ rfl ?_
     refine al_skip' ⟨_, rfl, .inl (up_m rfl hb_7)⟩ rfl ?_
     refine al_skip' ⟨_, rfl, .inl (u2 rfl hb_7)⟩ rfl ?_
     refine al_skip' ⟨_, rfl, .inl (up_m rfl (u2 rfl hb_7))⟩ rfl ?_
     refine ar (ro_pickT (u4 rfl hb_7) ev_c) rfl <| ar (ro_move up_h) rfl <| al_skip' ⟨_, rfl, .inl up_h⟩ rfl ?_
     refine al_skip' ⟨_, rfl, .inl (up_m rfl up_h)⟩ rfl ?_
     refine ar (ro_pickT (u2 rfl up_h) ev_c) rfl <| ae6 (u2 rfl (u4 rfl (u8 rfl s0_6))) (u2 rfl (u4 rfl (u8 rfl s1_6))) (u2 rfl (u4 rfl (u8 rfl s5_6))) (u2 rfl (u4 rfl (u8 rfl s6_6))) (u2 rfl (u4 rfl (u8 rfl s7_6))) up_h ?_; clear hb_7 s0_6 s1_6 s5_6 s6_6 s7_6; intro e_8 s0_8 s1_8 s5_8 s6_8 s7_8 s22_8
     refine then_n <| aw_true s22_8 <| aw_skip <| then_n <| aw_seq <| aw_block <| aw_seq <| at_ <| ar (ro_move s0_8) rfl <| ar (ro_move (up_m rfl s7_8)) rfl <| ar (ro_call (evL_cons (up_m rfl up_h) (evL_cons up_h evL_nil)) rfl (digit_ok (digN m) i (by omega) (by omega)) y52_hcf163) rfl ?_
     refine ar (ro_move (up_m rfl (u2 rfl s1_8))) rfl <| ar (ro_move (u4 rfl s7_8)) rfl <| ar (ro_call (evL_cons (up_m rfl up_h) (evL_cons up_h evL_nil)) rfl (digit_ok (digN n) i (by omega) (by omega)) y52_hcf163) rfl ?_
     (refine ar (ro_add' (up_m rfl (u2 rfl up_h)) up_h ?_) rfl ?_; · (unfold In64; omega))
     refine ar (ro_move (up_m rfl (u2 rfl (u4 rfl s6_8)))) rfl ?_
     (refine ar (ro_add' (up_m rfl up_h) up_h ?_) rfl ?_; · (unfold In64; omega))
     refine ar (ro_assign up_h) rfl <| ae5 (u2 rfl (u8 rfl s0_8)) (u2 rfl (u8 rfl s1_8)) (u2 rfl (u8 rfl s5_8)) (u2 rfl (u8 rfl s7_8)) up_h ?_; clear s0_8 s1_8 s22_8 s5_8 s6_8 s7_8; intro e_10 s0_10 s1_10 s5_10 s7_10 s8_10
     refine then_n <| at_ <| ar (ro_move s5_10) rfl <| ar (ro_move (up_m rfl s8_10)) rfl <| ar (ro_rem up_h ev_c (by decide)) rfl ?_
     refine ar (ro_lit y52_sl49 (evP_cons up_h evP_nil) rfl rfl rfl rfl) rfl <| al_stm (st_app y52_sl49 rfl ml_6 mo_j5_6 (up_m rfl (u2 rfl up_h)) up_h (by rfl) (by simp only [lnS] <;> omega)) trivial rfl (fun m_11 hm_11 => ?_)
     have mon_6_11 := m_swap hm_11 ml_6
     simp only [pS, Value.cells, Nat.reduceAdd, iE, one_iE, app_m] at mon_6_11
     have ml_11 := m_swap_l hm_11 ml_6
     clear hm_11 mo_j5_6
     refine ar (ro_move (up_m rfl (u4 rfl s8_10))) rfl ?_
     (refine ar (ro_quo' up_h ev_c (by decide) ?_) rfl ?_; · (unfold In64; omega))
     refine ar (ro_assign (u2 rfl up_h)) rfl <| ar (ro_assign (up_m rfl up_h)) rfl <| ae5 (up_m rfl (u8 rfl s0_10)) (up_m rfl (u8 rfl s1_10)) (up_m rfl up_h) up_h (up_m rfl (u8 rfl s7_10)) ?_; clear s0_10 s1_10 s5_10 s7_10 s8_10; intro e_12 s0_12 s1_12 s5_12 s6_12 s7_12
     refine block_n <| then_n <| at_ <| ar (ro_move s7_12) rfl ?_
     (refine ar (ro_add' up_h ev_c ?_) rfl ?_; · (unfold In64; omega))
     refine ar (ro_assign up_h) rfl <| ae5 (up_m rfl (u2 rfl s0_12)) (up_m rfl (u2 rfl s1_12)) (up_m rfl (u2 rfl s5_12)) (up_m rfl (u2 rfl s6_12)) up_h ?_; clear s0_12 s1_12 s5_12 s6_12 s7_12; intro e_13 s0_13 s1_13 s5_13 s6_13 s7_13
     refine then_n <| ⟨⟨_, _, _⟩, ⟨s7_13, s6_13, (s0_13.trans s0_5.symm), (s1_13.trans s1_5.symm), ⟨_, s5_13, mon_6_11, trivial⟩, ⟨_, ml_11, by omega⟩, ?_⟩, ?_⟩
     · (refine ⟨by omega, by omega, by omega, ?_, .inr ?_⟩; (rw [e1, e2, show (i + 1).toNat = i.toNat + 1 by omega]; exact p3.next gm gn rfl); (rw [show (i + 1).toNat - 1 = i.toNat by omega]; exact p3.top (by omega)))
     · ((try dsimp only); omega)
    replace hq_7 := bf hq_7
    refine al_ro' (ro_move (up_m rfl (u4 rfl s7_6))) ⟨_, rfl, hb_7⟩ rfl ?_
    refine al_ro' (ro_move (u2 rfl (u4 rfl s1_6))) ⟨_, rfl, (up_m rfl hb_7)⟩ rfl ?_
    refine al_ro' (ro_eq (ro_len_row up_h rfl y52_sl49.1) (by simp only [lnS] <;> rfl)) ⟨_, rfl, (u2 rfl hb_7)⟩ rfl ?_
    refine al_ro' (ro_lss (u2 rfl up_h) up_h) ⟨_, rfl, (up_m rfl (u2 rfl hb_7))⟩ rfl ?_
    refine ar (ro_pickF (u4 rfl hb_7) up_h) rfl <| ar (ro_move up_h) rfl <| al_case up_h (fun hb_14 hq_14 => ?_) (fun hb_14 hq_14 => ?_)
    ·replace hq_14 := bt hq_14
     refine al_skip' ⟨_, rfl, .inl hb_14⟩ rfl ?_
     refine al_skip' ⟨_, rfl, .inl (up_m rfl hb_14)⟩ rfl ?_
     refine ar (ro_pickT (u2 rfl hb_14) ev_c) rfl <| ae6 (u2 rfl (u4 rfl (u8 rfl s0_6))) (u2 rfl (u4 rfl (u8 rfl s1_6))) (u2 rfl (u4 rfl (u8 rfl s5_6))) (u2 rfl (u4 rfl (u8 rfl s6_6))) (u2 rfl (u4 rfl (u8 rfl s7_6))) up_h ?_; clear hb_14 hb_7 s0_6 s1_6 s5_6 s6_6 s7_6; intro e_15 s0_15 s1_15 s5_15 s6_15 s7_15 s22_15
     refine then_n <| aw_true s22_15 <| aw_skip <| then_n <| aw_seq <| aw_block <| aw_seq <| at_ <| ar (ro_move s0_15) rfl <| ar (ro_move (up_m rfl s7_15)) rfl <| ar (ro_call (evL_cons (up_m rfl up_h) (evL_cons up_h evL_nil)) rfl (digit_ok (digN m) i (by omega) (by omega)) y52_hcf163) rfl ?_
     refine ar (ro_move (up_m rfl (u2 rfl s1_15))) rfl <| ar (ro_move (u4 rfl s7_15)) rfl <| ar (ro_call (evL_cons (up_m rfl up_h) (evL_cons up_h evL_nil)) rfl (digit_ok (digN n) i (by omega) (by omega)) y52_hcf163) rfl ?_
     (refine ar (ro_add' (up_m rfl (u2 rfl up_h)) up_h ?_) rfl ?_; · (unfold In64; omega))
     refine ar (ro_move (up_m rfl (u2 rfl (u4 rfl s6_15)))) rfl ?_
     (refine ar (ro_add' (up_m rfl up_h) up_h ?_) rfl ?_; · (unfold In64; omega))
     refine ar (ro_assign up_h) rfl <| ae5 (u2 rfl (u8 rfl s0_15)) (u2 rfl (u8 rfl s1_15)) (u2 rfl (u8 rfl s5_15)) (u2 rfl (u8 rfl s7_15)) up_h ?_; clear s0_15 s1_15 s22_15 s5_15 s6_15 s7_15; intro e_17 s0_17 s1_17 s5_17 s7_17 s8_17
     refine then_n <| at_ <| ar (ro_move s5_17) rfl <| ar (ro_move (up_m rfl s8_17)) rfl <| ar (ro_rem up_h ev_c (by decide)) rfl ?_
     refine ar (ro_lit y52_sl49 (evP_cons up_h evP_nil) rfl rfl rfl rfl) rfl <| al_stm (st_app y52_sl49 rfl ml_6 mo_j5_6 (up_m rfl (u2 rfl up_h)) up_h (by rfl) (by simp only [lnS] <;> omega)) trivial rfl (fun m_18 hm_18 => ?_)
     have mon_6_18 := m_swap hm_18 ml_6
     simp only [pS, Value.cells, Nat.reduceAdd, iE, one_iE, app_m] at mon_6_18
     have ml_18 := m_swap_l hm_18 ml_6
     clear hm_18 mo_j5_6
     refine ar (ro_move (up_m rfl (u4 rfl s8_17))) rfl ?_
     (refine ar (ro_quo' up_h ev_c (by decide) ?_) rfl ?_; · (unfold In64; omega))
     refine ar (ro_assign (u2 rfl up_h)) rfl <| ar (ro_assign (up_m rfl up_h)) rfl <| ae5 (up_m rfl (u8 rfl s0_17)) (up_m rfl (u8 rfl s1_17)) (up_m rfl up_h) up_h (up_m rfl (u8 rfl s7_17)) ?_; clear s0_17 s1_17 s5_17 s7_17 s8_17; intro e_19 s0_19 s1_19 s5_19 s6_19 s7_19
     refine block_n <| then_n <| at_ <| ar (ro_move s7_19) rfl ?_
     (refine ar (ro_add' up_h ev_c ?_) rfl ?_; · (unfold In64; omega))
     refine ar (ro_assign up_h) rfl <| ae5 (up_m rfl (u2 rfl s0_19)) (up_m rfl (u2 rfl s1_19)) (up_m rfl (u2 rfl s5_19)) (up_m rfl (u2 rfl s6_19)) up_h ?_; clear s0_19 s1_19 s5_19 s6_19 s7_19; intro e_20 s0_20 s1_20 s5_20 s6_20 s7_20
     refine then_n <| ⟨⟨_, _, _⟩, ⟨s7_20, s6_20, (s0_20.trans s0_5.symm), (s1_20.trans s1_5.symm), ⟨_, s5_20, mon_6_18, trivial⟩, ⟨_, ml_18, by omega⟩, ?_⟩, ?_⟩
     · (refine ⟨by omega, by omega, by omega, ?_, .inr ?_⟩; (rw [e1, e2, show (i + 1).toNat = i.toNat + 1 by omega]; exact p3.next gm gn rfl); (rw [show (i + 1).toNat - 1 = i.toNat by omega]; exact p3.top (by omega)))
     · ((try dsimp only); omega)
    replace hq_14 := bf hq_14
    refine al_ro' (ro_move (up_m rfl (u2 rfl (u8 rfl s6_6)))) ⟨_, rfl, hb_14⟩ rfl ?_
    refine al_ro' (ro_gtr up_h ev_c) ⟨_, rfl, (up_m rfl hb_14)⟩ rfl ?_
    refine ar (ro_pickF (u2 rfl hb_14) up_h) rfl <| ae6 (u2 rfl (u4 rfl (u8 rfl s0_6))) (u2 rfl (u4 rfl (u8 rfl s1_6))) (u2 rfl (u4 rfl (u8 rfl s5_6))) (u2 rfl (u4 rfl (u8 rfl s6_6))) (u2 rfl (u4 rfl (u8 rfl s7_6))) up_h ?_; clear hb_14 hb_7 s0_6 s1_6 s5_6 s6_6 s7_6; intro e_21 s0_21 s1_21 s5_21 s6_21 s7_21 s22_21
    refine then_n <| aw_case s22_21 (fun hq_22 => ?_) (fun hq_22 => ?_)
    ·replace hq_22 := bt hq_22
     refine aw_skip <| then_n <| aw_seq <| aw_block <| aw_seq <| at_ <| ar (ro_move s0_21) rfl <| ar (ro_move (up_m rfl s7_21)) rfl <| ar (ro_call (evL_cons (up_m rfl up_h) (evL_cons up_h evL_nil)) rfl (digit_ok (digN m) i (by omega) (by omega)) y52_hcf163) rfl ?_
     refine ar (ro_move (up_m rfl (u2 rfl s1_21))) rfl <| ar (ro_move (u4 rfl s7_21)) rfl <| ar (ro_call (evL_cons (up_m rfl up_h) (evL_cons up_h evL_nil)) rfl (digit_ok (digN n) i (by omega) (by omega)) y52_hcf163) rfl ?_
     (refine ar (ro_add' (up_m rfl (u2 rfl up_h)) up_h ?_) rfl ?_; · (unfold In64; omega))
     refine ar (ro_move (up_m rfl (u2 rfl (u4 rfl s6_21)))) rfl ?_
     (refine ar (ro_add' (up_m rfl up_h) up_h ?_) rfl ?_; · (unfold In64; omega))
     refine ar (ro_assign up_h) rfl <| ae5 (u2 rfl (u8 rfl s0_21)) (u2 rfl (u8 rfl s1_21)) (u2 rfl (u8 rfl s5_21)) (u2 rfl (u8 rfl s7_21)) up_h ?_; clear s0_21 s1_21 s22_21 s5_21 s6_21 s7_21; intro e_23 s0_23 s1_23 s5_23 s7_23 s8_23
     refine then_n <| at_ <| ar (ro_move s5_23) rfl <| ar (ro_move (up_m rfl s8_23)) rfl <| ar (ro_rem up_h ev_c (by decide)) rfl ?_
     refine ar (ro_lit y52_sl49 (evP_cons up_h evP_nil) rfl rfl rfl rfl) rfl <| al_stm (st_app y52_sl49 rfl ml_6 mo_j5_6 (up_m rfl (u2 rfl up_h)) up_h (by rfl) (by simp only [lnS] <;> omega)) trivial rfl (fun m_24 hm_24 => ?_)
     have mon_6_24 := m_swap hm_24 ml_6
     simp only [pS, Value.cells, Nat.reduceAdd, iE, one_iE, app_m] at mon_6_24
     have ml_24 := m_swap_l hm_24 ml_6
     clear hm_24 mo_j5_6
     refine ar (ro_move (up_m rfl (u4 rfl s8_23))) rfl ?_
     (refine ar (ro_quo' up_h ev_c (by decide) ?_) rfl ?_; · (unfold In64; omega))
     refine ar (ro_assign (u2 rfl up_h)) rfl <| ar (ro_assign (up_m rfl up_h)) rfl <| ae5 (up_m rfl (u8 rfl s0_23)) (up_m rfl (u8 rfl s1_23)) (up_m rfl up_h) up_h (up_m rfl (u8 rfl s7_23)) ?_; clear s0_23 s1_23 s5_23 s7_23 s8_23; intro e_25 s0_25 s1_25 s5_25 s6_25 s7_25
     refine block_n <| then_n <| at_ <| ar (ro_move s7_25) rfl ?_
     (refine ar (ro_add' up_h ev_c ?_) rfl ?_; · (unfold In64; omega))
     refine ar (ro_assign up_h) rfl <| ae5 (up_m rfl (u2 rfl s0_25)) (up_m rfl (u2 rfl s1_25)) (up_m rfl (u2 rfl s5_25)) (up_m rfl (u2 rfl s6_25)) up_h ?_; clear s0_25 s1_25 s5_25 s6_25 s7_25; intro e_26 s0_26 s1_26 s5_26 s6_26 s7_26
     refine then_n <| ⟨⟨_, _, _⟩, ⟨s7_26, s6_26, (s0_26.trans s0_5.symm), (s1_26.trans s1_5.symm), ⟨_, s5_26, mon_6_24, trivial⟩, ⟨_, ml_24, by omega⟩, ?_⟩, ?_⟩
     · (refine ⟨by omega, by omega, by omega, ?_, .inr ?_⟩; (rw [e1, e2, show (i + 1).toNat = i.toNat + 1 by omega]; exact p3.next gm gn rfl); (rw [show (i + 1).toNat - 1 = i.toNat by omega]; exact p3.top (by omega)))
     · ((try dsimp only); omega)
    replace hq_22 := bf hq_22
    refine aw_exit <| then_x <| then_x <| block_hit <| then_n <| aw_seq <| at_ <| ar (ro_move s5_21) rfl <| ar (ro_assign up_h) rfl <| ae1 up_h ?_; clear s0_21 s1_21 s22_21 s5_21 s6_21 s7_21; intro e_27 s4_27
    refine then_n <| aw_ret <| ret1 (.inr rfl) (by kernel_rfl) (resV_tmp s4_27) (.own _ _ _ _ mo_j5_6) ?_
    clear s4_27 mo_j5_6 ml_6
    (have hw : w = 0 := (by omega); have p5 := p3; rw [hw] at p5; have hv := p5.done (by omega) (by omega); rw [vm, vn] at hv; rw [canon_top p3.gd (v := m + n) (by rw [hv]; omega) (by rw [pl]; rcases p4 with h | h; exact .inl (by omega); exact .inr (by rw [Int.natCast_add]; exact h))])
end Go.Proofs.Ytonjcljnpcmenaa

/- Contracts: wide numbers added, compared, divided. No conditions on a program. -/
namespace Go.Proofs.Ytonjcljnpcmenaa
open Go Go.RowKit Go.Proofs
set_option linter.unusedSimpArgs false
set_option linter.unusedVariables false
theorem y53_az145 : (Try.prog.info? 145).bind (·.zero) = some (.agg #[.int .i64 0, .slice none 0 0]) := by kernel_rfl
theorem y53_bz145 : (Try.prog.info? 145).bind (·.zero) = some (.agg #[.int .i64 0, .slice none 0 0]) := by kernel_rfl
theorem y53_bu145 : Try.prog.underlying 145 = some (.struct (fsOf Try.prog 145)) := by kernel_rfl
theorem y53_bp145 : ∀ w, ((fsOf Try.prog 145).mapM fun f => Prod.mk f.offset <$> sizeOf f.type : Sem (Array (Nat × Nat))).run Try.prog w = .ok (#[(0, 1), (1, 1)]) w := fun _ => by kernel_rfl
theorem y53_fl145_0 : FldIs Try.prog 145 0 0 false 1 := by unfold FldIs; kernel_rfl
theorem y53_fl145_1 : FldIs Try.prog 145 1 1 false 1 := by unfold FldIs; kernel_rfl
theorem y53_hcf140 : ∀ args w, (callFunc 140 args).run Try.prog w = .ok (.enter 140 args) w := fun _ _ => by kernel_rfl
theorem y53_hcf142 : ∀ args w, (callFunc 142 args).run Try.prog w = .ok (.enter 142 args) w := fun _ _ => by kernel_rfl
theorem y53_hcf143 : ∀ args w, (callFunc 143 args).run Try.prog w = .ok (.enter 143 args) w := fun _ _ => by kernel_rfl
theorem y53_hcf181 : ∀ args w, (callFunc 181 args).run Try.prog w = .ok (.enter 181 args) w := fun _ _ => by kernel_rfl
theorem y53_sz145 : (Try.prog.info? 145).map (·.size) = some 2 := by kernel_rfl
theorem y53_ty145 : TyIs Try.prog 145 true 2 := ⟨by kernel_rfl, by kernel_rfl⟩
theorem y53_ty3 : TyIs Try.prog 3 false 1 := ⟨by kernel_rfl, by kernel_rfl⟩
theorem y53_ty49 : TyIs Try.prog 49 false 1 := ⟨by kernel_rfl, by kernel_rfl⟩

theorem sgn_0 {a : Int} : sgnV a = 0 ↔ a = 0 := by unfold sgnV; (repeat' split) <;> omega
theorem sgn_neg (a : Int) : sgnV (-a) = -sgnV a := by unfold sgnV; (repeat' split) <;> omega
theorem sgn_pos {a : Int} (h : 0 < a) : sgnV a = 1 := by unfold sgnV; (repeat' split) <;> omega
theorem sgn_lt {a : Int} (h : a < 0) : sgnV a = -1 := by unfold sgnV; (repeat' split) <;> omega
theorem sgn_same {a b : Int} (h : sgnV a = sgnV b) (ha : a ≠ 0) : (0 < a ∧ 0 < b) ∨ (a < 0 ∧ b < 0) := by
  unfold sgnV at h; (repeat' split at h) <;> omega
theorem wA_z (h : True) : AV.agg [mA 0, .row 1 []] = wA 0 := by unfold wA; rw [show (0 : Int).natAbs = 0 from rfl, digN_0]; rfl
theorem wA_sg {a : Int} {v : Int} {sg : Int} (h : v = a.natAbs) (hs : a ≠ 0 → sg = sgnV a) : AV.agg [mA (if v = 0 then 0 else sg), dA v.toNat] = wA a := by
  rw [← wA_of h]
  by_cases h0 : v = 0
  · rw [if_pos h0, if_pos h0]
  · rw [if_neg h0, if_neg h0, hs (by omega)]
theorem sgn_t (x : Int) : (sgnV x = 0 ↔ x = 0) ∧ (0 < sgnV x ↔ 0 < x) := by unfold sgnV; (repeat' split) <;> omega
theorem digN_add_len {x y k : Nat} (hx : (digN x).length ≤ k) (hy : (digN y).length ≤ k) : (digN (x + y)).length ≤ k + 1 := by
  have f : ∀ z : Nat, (digN z).length ≤ k → z < 1000000000 ^ k := fun z hz => by
    have h1 := valD_lt (digN_gd z)
    rw [digN_val] at h1
    have h2 : ((z : Nat) : Int) < ((1000000000 ^ (digN z).length : Nat) : Int) := by rw [Int.natCast_pow]; exact h1
    exact Nat.lt_of_lt_of_le (Int.ofNat_lt.1 h2) (Nat.pow_le_pow_right (by decide) hz)
  have h1 := f x hx
  have h2 := f y hy
  refine digN_len ?_
  rw [Nat.pow_succ]
  generalize 1000000000 ^ k = P at *
  omega
set_option maxRecDepth 100000 in
set_option maxHeartbeats 4000000 in
theorem widNeg_ok (a : Int) : FnOk Try.prog 165 [wA a] (fun q => q = wA (-a)) := by
  refine fnOk_of (fn := Try.f165) 9 (by kernel_rfl) rfl (by kernel_rfl) (Nat.le_of_ble_eq_true rfl) ?_
  intro e_0 m_0 hA hm_0
  have s0_0 : evA e_0 (.tmp 0) = _ := hA 0 _ rfl
  have ml_0 : m_0.length = 0 := by rw [hm_0]; rfl
  clear hA hm_0
  have sa := sgn_bd a
  refine aw_seq <| at_ <| al_stm (st_box s0_0 rfl ml_0) trivial rfl (fun m_1 hm_1 => ?_)
  have mo0_1 := m_push hm_1 ml_0
  have ml_1 := m_push_l hm_1 ml_0
  have ml_1 : _ = 1 := ml_1
  clear hm_1
  refine al_stm (st_alloc y53_az145 rfl ml_1) trivial rfl (fun m_2 hm_2 => ?_)
  have mo1_2 := m_push hm_2 ml_1
  simp only [pS, Value.cells, Nat.reduceAdd] at mo1_2
  have mo0_2 := m_push_o hm_2 mo0_1
  have ml_2 := m_push_l hm_2 ml_1
  have ml_2 : _ = 2 := ml_2
  clear hm_2 mo0_1
  refine ae2 (up_m rfl up_h) up_h ?_; clear s0_0; intro e_3 s1_3 s2_3
  refine then_n <| aw_seq <| at_ <| ar (ro_fld_ptr y53_fl145_0 rfl s1_3) rfl <| ar (ro_eq (ro_ld_ptr y53_ty3 rfl mo0_2 up_h (nle rfl)) (by simp only [pS, Value.cells, Nat.reduceAdd] <;> rfl)) rfl ?_
  (refine ar (ro_neg' up_h ?_) rfl ?_; · (unfold In64; omega))
  refine ar (ro_fld_ptr y53_fl145_1 rfl (up_m rfl (u2 rfl s1_3))) rfl <| ar (ro_eq (ro_ld_ptr y53_ty49 rfl mo0_2 up_h (nle rfl)) (by simp only [pS, Value.cells, Nat.reduceAdd] <;> rfl)) rfl ?_
  refine ar (ro_build (evP_cons (u2 rfl up_h) (evP_cons up_h evP_nil)) y53_bz145 y53_bu145 y53_bp145 rfl) rfl ?_
  refine al_stm (st_store (u2 rfl (u4 rfl s2_3)) up_h rfl rfl mo1_2 y53_sz145 rfl (nle rfl)) trivial rfl (fun m_4 hm_4 => ?_)
  have mo1_4 := m_set hm_4 mo1_2
  simp only [pS, Value.cells, Nat.reduceAdd] at mo1_4
  have mo0_4 := m_set_o hm_4 mo0_2 (by decide)
  have ml_4 := m_set_l hm_4 ml_2
  clear hm_4 mo1_2 mo0_2
  refine ae1 (up_n (u2 rfl (u4 rfl s2_3))) ?_; clear s1_3 s2_3; intro e_5 s2_5
  refine then_n <| aw_ret <| ret1 (.inr rfl) (by kernel_rfl) (resV_cell s2_5 mo1_4 y53_ty145 (nle rfl) (by simp)) (vw_r (.ro _ rfl)) ?_
  clear s2_5 mo1_4 mo0_4 ml_4
  (show AV.agg [mA (-sgnV a), dA a.natAbs] = _; rw [← sgn_neg, show a.natAbs = (-a).natAbs by omega]; rfl)
set_option maxRecDepth 100000 in
set_option maxHeartbeats 4000000 in
theorem widAdd_ok (a b : Int) (ha : (digN a.natAbs).length ≤ 1000) (hb : (digN b.natAbs).length ≤ 1000) : FnOk Try.prog 164 [wA a, wA b] (fun q => q = wA (a + b)) := by
  refine fnOk_of (fn := Try.f164) 53 (by kernel_rfl) rfl (by kernel_rfl) (Nat.le_of_ble_eq_true rfl) ?_
  intro e_0 m_0 hA hm_0
  have s0_0 : evA e_0 (.tmp 0) = _ := hA 0 _ rfl
  have s1_0 : evA e_0 (.tmp 1) = _ := hA 1 _ rfl
  have ml_0 : m_0.length = 0 := by rw [hm_0]; rfl
  clear hA hm_0
  have sa := sgn_bd a; have sb := sgn_bd b; have sg := digN_gd (a.natAbs + b.natAbs); have s1 := digN_gd (a.natAbs - b.natAbs); have s2 := digN_gd (b.natAbs - a.natAbs); have v0 := digN_val (a.natAbs + b.natAbs); have v1 := digN_val (a.natAbs - b.natAbs); have v2 := digN_val (b.natAbs - a.natAbs)
  refine aw_seq <| at_ <| al_stm (st_box s0_0 rfl ml_0) trivial rfl (fun m_1 hm_1 => ?_)
  have mo0_1 := m_push hm_1 ml_0
  have ml_1 := m_push_l hm_1 ml_0
  have ml_1 : _ = 1 := ml_1
  clear hm_1
  refine al_stm (st_box (up_m rfl s1_0) rfl ml_1) trivial rfl (fun m_2 hm_2 => ?_)
  have mo1_2 := m_push hm_2 ml_1
  have mo0_2 := m_push_o hm_2 mo0_1
  have ml_2 := m_push_l hm_2 ml_1
  have ml_2 : _ = 2 := ml_2
  clear hm_2 mo0_1
  refine al_stm (st_alloc y53_az145 rfl ml_2) trivial rfl (fun m_3 hm_3 => ?_)
  have mo2_3 := m_push hm_3 ml_2
  simp only [pS, Value.cells, Nat.reduceAdd] at mo2_3
  have mo1_3 := m_push_o hm_3 mo1_2
  have mo0_3 := m_push_o hm_3 mo0_2
  have ml_3 := m_push_l hm_3 ml_2
  have ml_3 : _ = 3 := ml_3
  clear hm_3 mo1_2 mo0_2
  refine ae3 (u2 rfl up_h) (up_m rfl up_h) up_h ?_; clear s0_0 s1_0; intro e_4 s2_4 s3_4 s4_4
  refine then_n <| aw_seq <| aw_seq <| at_ <| ar (ro_fld_ptr y53_fl145_0 rfl s2_4) rfl <| ar (ro_eq (ro_ld_ptr y53_ty3 rfl mo0_3 up_h (nle rfl)) (by simp only [pS, Value.cells, Nat.reduceAdd] <;> rfl)) rfl ?_
  refine ar (ro_eql up_h ev_c) rfl ?_
  refine ae4 (up_m rfl (u2 rfl s2_4)) (up_m rfl (u2 rfl s3_4)) (up_m rfl (u2 rfl s4_4)) up_h ?_; clear s2_4 s3_4 s4_4; intro e_5 s2_5 s3_5 s4_5 s8_5
  refine then_n <| aw_case s8_5 (fun hq_6 => ?_) (fun hq_6 => ?_)
  ·replace hq_6 := bt hq_6
   refine aw_seq <| at_ <| ar (ro_eq (ro_ld_ptr y53_ty145 rfl mo1_3 s3_5 (nle rfl)) (by simp only [pS, Value.cells, Nat.reduceAdd] <;> rfl)) rfl ?_
   refine al_stm (st_store (up_m rfl s4_5) up_h rfl rfl mo2_3 y53_sz145 rfl (nle rfl)) trivial rfl (fun m_7 hm_7 => ?_)
   have mo2_7 := m_set hm_7 mo2_3
   simp only [pS, Value.cells, Nat.reduceAdd] at mo2_7
   have mo1_7 := m_set_o hm_7 mo1_3 (by decide)
   have mo0_7 := m_set_o hm_7 mo0_3 (by decide)
   have ml_7 := m_set_l hm_7 ml_3
   clear hm_7 mo2_3 mo1_3 mo0_3
   refine ae1 (up_n (up_m rfl s4_5)) ?_; clear s2_5 s3_5 s4_5 s8_5; intro e_8 s4_8
   refine then_n <| aw_ret <| then_r <| ret1 (.inr rfl) (by kernel_rfl) (resV_cell s4_8 mo2_7 y53_ty145 (nle rfl) (by simp)) (vw_r (.ro _ rfl)) ?_
   clear s4_8 mo2_7 mo1_7 mo0_7 ml_7
   (have h0 := sgn_0.1 (by assumption); rw [h0, Int.zero_add]; rfl)
  replace hq_6 := bf hq_6
  refine aw_skip <| then_n <| aw_seq <| aw_seq <| at_ <| ar (ro_fld_ptr y53_fl145_0 rfl s3_5) rfl <| ar (ro_eq (ro_ld_ptr y53_ty3 rfl mo1_3 up_h (nle rfl)) (by simp only [pS, Value.cells, Nat.reduceAdd] <;> rfl)) rfl ?_
  refine ar (ro_eql up_h ev_c) rfl ?_
  refine ae4 (up_m rfl (u2 rfl s2_5)) (up_m rfl (u2 rfl s3_5)) (up_m rfl (u2 rfl s4_5)) up_h ?_; clear s2_5 s3_5 s4_5 s8_5; intro e_9 s2_9 s3_9 s4_9 s12_9
  refine then_n <| aw_case s12_9 (fun hq_10 => ?_) (fun hq_10 => ?_)
  ·replace hq_10 := bt hq_10
   refine aw_seq <| at_ <| ar (ro_eq (ro_ld_ptr y53_ty145 rfl mo0_3 s2_9 (nle rfl)) (by simp only [pS, Value.cells, Nat.reduceAdd] <;> rfl)) rfl ?_
   refine al_stm (st_store (up_m rfl s4_9) up_h rfl rfl mo2_3 y53_sz145 rfl (nle rfl)) trivial rfl (fun m_11 hm_11 => ?_)
   have mo2_11 := m_set hm_11 mo2_3
   simp only [pS, Value.cells, Nat.reduceAdd] at mo2_11
   have mo1_11 := m_set_o hm_11 mo1_3 (by decide)
   have mo0_11 := m_set_o hm_11 mo0_3 (by decide)
   have ml_11 := m_set_l hm_11 ml_3
   clear hm_11 mo2_3 mo1_3 mo0_3
   refine ae1 (up_n (up_m rfl s4_9)) ?_; clear s12_9 s2_9 s3_9 s4_9; intro e_12 s4_12
   refine then_n <| aw_ret <| then_r <| ret1 (.inr rfl) (by kernel_rfl) (resV_cell s4_12 mo2_11 y53_ty145 (nle rfl) (by simp)) (vw_r (.ro _ rfl)) ?_
   clear s4_12 mo2_11 mo1_11 mo0_11 ml_11
   (have h0 := sgn_0.1 (show sgnV b = 0 by assumption); rw [h0, Int.add_zero]; rfl)
  replace hq_10 := bf hq_10
  refine aw_skip <| then_n <| aw_seq <| aw_seq <| at_ <| ar (ro_fld_ptr y53_fl145_0 rfl s2_9) rfl <| ar (ro_eq (ro_ld_ptr y53_ty3 rfl mo0_3 up_h (nle rfl)) (by simp only [pS, Value.cells, Nat.reduceAdd] <;> rfl)) rfl ?_
  refine ar (ro_fld_ptr y53_fl145_0 rfl (u2 rfl s3_9)) rfl <| ar (ro_eq (ro_ld_ptr y53_ty3 rfl mo1_3 up_h (nle rfl)) (by simp only [pS, Value.cells, Nat.reduceAdd] <;> rfl)) rfl ?_
  refine ar (ro_eql (u2 rfl up_h) up_h) rfl ?_
  refine ae4 (up_m rfl (u4 rfl s2_9)) (up_m rfl (u4 rfl s3_9)) (up_m rfl (u4 rfl s4_9)) up_h ?_; clear s12_9 s2_9 s3_9 s4_9; intro e_13 s2_13 s3_13 s4_13 s18_13
  refine then_n <| aw_case s18_13 (fun hq_14 => ?_) (fun hq_14 => ?_)
  ·replace hq_14 := bt hq_14
   (have hln := digN_add_len ha hb; have hs := sgn_same (by assumption) (mt sgn_0.2 (by assumption)); have wo := wideOf_ok (sgnV a) _ sg (by omega))
   refine aw_seq <| aw_draw 8 (by kernel_rfl) (by kernel_rfl) (by kernel_rfl) (by kernel_rfl) ?_
   refine dr (ro_fld_ptr y53_fl145_0 rfl s2_13) rfl <| dr (ro_eq (ro_ld_ptr y53_ty3 rfl mo0_3 up_h (nle rfl)) (by simp only [pS, Value.cells, Nat.reduceAdd] <;> rfl)) rfl ?_
   refine dr (ro_fld_ptr y53_fl145_1 rfl (u2 rfl s2_13)) rfl <| dr (ro_eq (ro_ld_ptr y53_ty49 rfl mo0_3 up_h (nle rfl)) (by simp only [pS, Value.cells, Nat.reduceAdd] <;> rfl)) rfl ?_
   refine dr (ro_fld_ptr y53_fl145_1 rfl (u4 rfl s3_13)) rfl <| dr (ro_eq (ro_ld_ptr y53_ty49 rfl mo1_3 up_h (nle rfl)) (by simp only [pS, Value.cells, Nat.reduceAdd] <;> rfl)) rfl ?_
   refine dr (ro_call (evL_cons (u2 rfl up_h) (evL_cons up_h evL_nil)) rfl (addDigits_ok _ _ ha hb) y53_hcf181) rfl <| dr (ro_call (evL_cons (up_m rfl (u4 rfl up_h)) (evL_cons up_h evL_nil)) rfl (wo) y53_hcf140) rfl <| ds_nil <| al_stm (st_store (u8 rfl s4_13) up_h rfl rfl mo2_3 y53_sz145 rfl (nle rfl)) trivial rfl (fun m_15 hm_15 => ?_)
   have mo2_15 := m_set hm_15 mo2_3
   simp only [pS, Value.cells, Nat.reduceAdd] at mo2_15
   have mo1_15 := m_set_o hm_15 mo1_3 (by decide)
   have mo0_15 := m_set_o hm_15 mo0_3 (by decide)
   have ml_15 := m_set_l hm_15 ml_3
   clear hm_15 mo2_3 mo1_3 mo0_3
   refine ae1 (up_n (u8 rfl s4_13)) ?_; clear s18_13 s2_13 s3_13 s4_13; intro e_16 s4_16
   refine then_n <| aw_ret <| then_r <| ret1 (.inr rfl) (by kernel_rfl) (resV_cell s4_16 mo2_15 y53_ty145 (nle rfl) (by simp)) (vw_r (.ro _ rfl)) ?_
   clear s4_16 mo2_15 mo1_15 mo0_15 ml_15
   exact wA_sg (by rw [v0]; omega) (fun _ => by rcases hs with hs | hs; (rw [sgn_pos hs.1, sgn_pos (by omega)]); (rw [sgn_lt hs.1, sgn_lt (by omega)]))
  replace hq_14 := bf hq_14
  (have ct := sgn_t ((a.natAbs : Int) - b.natAbs); have na := mt sgn_0.2 (show ¬ sgnV a = 0 by assumption); have nb := mt sgn_0.2 (show ¬ sgnV b = 0 by assumption); have hs : (0 < a ∧ b < 0) ∨ (a < 0 ∧ 0 < b) := (by by_cases h1 : 0 < a <;> by_cases h2 : 0 < b <;> first | omega | (exact absurd ((sgn_pos h1).trans (sgn_pos h2).symm) (by assumption)) | (exact absurd ((sgn_lt (show a < 0 by omega)).trans (sgn_lt (show b < 0 by omega)).symm) (by assumption))))
  refine aw_skip <| then_n <| aw_seq <| at_ <| ar (ro_fld_ptr y53_fl145_1 rfl s2_13) rfl <| ar (ro_eq (ro_ld_ptr y53_ty49 rfl mo0_3 up_h (nle rfl)) (by simp only [pS, Value.cells, Nat.reduceAdd] <;> rfl)) rfl ?_
  refine ar (ro_fld_ptr y53_fl145_1 rfl (u2 rfl s3_13)) rfl <| ar (ro_eq (ro_ld_ptr y53_ty49 rfl mo1_3 up_h (nle rfl)) (by simp only [pS, Value.cells, Nat.reduceAdd] <;> rfl)) rfl ?_
  refine ar (ro_call (evL_cons (u2 rfl up_h) (evL_cons up_h evL_nil)) rfl (cmpDigits_ok _ _ ha hb) y53_hcf142) rfl <| ar (ro_assign up_h) rfl <| ae4 (u2 rfl (u4 rfl s2_13)) (u2 rfl (u4 rfl s3_13)) (u2 rfl (u4 rfl s4_13)) up_h ?_; clear s18_13 s2_13 s3_13 s4_13; intro e_17 s2_17 s3_17 s4_17 s5_17
  refine then_n <| aw_seq <| aw_seq <| at_ <| ar (ro_move s5_17) rfl <| ar (ro_eql up_h ev_c) rfl ?_
  refine ae5 (u2 rfl s2_17) (u2 rfl s3_17) (u2 rfl s4_17) (u2 rfl s5_17) up_h ?_; clear s2_17 s3_17 s4_17 s5_17; intro e_18 s2_18 s3_18 s4_18 s5_18 s33_18
  refine then_n <| aw_case s33_18 (fun hq_19 => ?_) (fun hq_19 => ?_)
  ·replace hq_19 := bt hq_19
   refine aw_seq <| at_ <| ar (ro_build evP_nil y53_bz145 y53_bu145 y53_bp145 rfl) rfl ?_
   refine al_stm (st_store (up_m rfl s4_18) up_h rfl rfl mo2_3 y53_sz145 rfl (nle rfl)) trivial rfl (fun m_20 hm_20 => ?_)
   have mo2_20 := m_set hm_20 mo2_3
   simp only [pS, Value.cells, Nat.reduceAdd] at mo2_20
   have mo1_20 := m_set_o hm_20 mo1_3 (by decide)
   have mo0_20 := m_set_o hm_20 mo0_3 (by decide)
   have ml_20 := m_set_l hm_20 ml_3
   clear hm_20 mo2_3 mo1_3 mo0_3
   refine ae1 (up_n (up_m rfl s4_18)) ?_; clear s2_18 s33_18 s3_18 s4_18 s5_18; intro e_21 s4_21
   refine then_n <| aw_ret <| then_r <| ret1 (.inr rfl) (by kernel_rfl) (resV_cell s4_21 mo2_20 y53_ty145 (nle rfl) (by simp)) (vw_r (vw_agg (vwl_cons (.ro _ rfl) (vwl_cons (.nil 1) vwl_nil)))) ?_
   clear s4_21 mo2_20 mo1_20 mo0_20 ml_20
   (rw [show a + b = 0 by omega]; exact wA_z trivial)
  replace hq_19 := bf hq_19
  refine aw_skip <| then_n <| aw_seq <| aw_seq <| at_ <| ar (ro_move s5_18) rfl <| ar (ro_gtr up_h ev_c) rfl <| ae4 (u2 rfl s2_18) (u2 rfl s3_18) (u2 rfl s4_18) up_h ?_; clear s2_18 s33_18 s3_18 s4_18 s5_18; intro e_22 s2_22 s3_22 s4_22 s36_22
  refine then_n <| aw_case s36_22 (fun hq_23 => ?_) (fun hq_23 => ?_)
  ·replace hq_23 := bt hq_23
   (have hle : b.natAbs ≤ a.natAbs := (by omega); have hln := digN_mono (show a.natAbs - b.natAbs ≤ a.natAbs by omega); have wo := wideOf_ok (sgnV a) _ s1 (by omega))
   refine aw_seq <| aw_draw 8 (by kernel_rfl) (by kernel_rfl) (by kernel_rfl) (by kernel_rfl) ?_
   refine dr (ro_fld_ptr y53_fl145_0 rfl s2_22) rfl <| dr (ro_eq (ro_ld_ptr y53_ty3 rfl mo0_3 up_h (nle rfl)) (by simp only [pS, Value.cells, Nat.reduceAdd] <;> rfl)) rfl ?_
   refine dr (ro_fld_ptr y53_fl145_1 rfl (u2 rfl s2_22)) rfl <| dr (ro_eq (ro_ld_ptr y53_ty49 rfl mo0_3 up_h (nle rfl)) (by simp only [pS, Value.cells, Nat.reduceAdd] <;> rfl)) rfl ?_
   refine dr (ro_fld_ptr y53_fl145_1 rfl (u4 rfl s3_22)) rfl <| dr (ro_eq (ro_ld_ptr y53_ty49 rfl mo1_3 up_h (nle rfl)) (by simp only [pS, Value.cells, Nat.reduceAdd] <;> rfl)) rfl ?_
   refine dr (ro_call (evL_cons (u2 rfl up_h) (evL_cons up_h evL_nil)) rfl (subDigits_ok _ _ hle ha) y53_hcf143) rfl <| dr (ro_call (evL_cons (up_m rfl (u4 rfl up_h)) (evL_cons up_h evL_nil)) rfl (wo) y53_hcf140) rfl <| ds_nil <| al_stm (st_store (u8 rfl s4_22) up_h rfl rfl mo2_3 y53_sz145 rfl (nle rfl)) trivial rfl (fun m_24 hm_24 => ?_)
   have mo2_24 := m_set hm_24 mo2_3
   simp only [pS, Value.cells, Nat.reduceAdd] at mo2_24
   have mo1_24 := m_set_o hm_24 mo1_3 (by decide)
   have mo0_24 := m_set_o hm_24 mo0_3 (by decide)
   have ml_24 := m_set_l hm_24 ml_3
   clear hm_24 mo2_3 mo1_3 mo0_3
   refine ae1 (up_n (u8 rfl s4_22)) ?_; clear s2_22 s36_22 s3_22 s4_22; intro e_25 s4_25
   refine then_n <| aw_ret <| then_r <| ret1 (.inr rfl) (by kernel_rfl) (resV_cell s4_25 mo2_24 y53_ty145 (nle rfl) (by simp)) (vw_r (.ro _ rfl)) ?_
   clear s4_25 mo2_24 mo1_24 mo0_24 ml_24
   exact wA_sg (by rw [v1]; omega) (fun _ => by rcases hs with hs | hs; (rw [sgn_pos hs.1, sgn_pos (by omega)]); (rw [sgn_lt hs.1, sgn_lt (by omega)]))
  replace hq_23 := bf hq_23
  (have hle : a.natAbs ≤ b.natAbs := (by omega); have hln := digN_mono (show b.natAbs - a.natAbs ≤ b.natAbs by omega); have wo := wideOf_ok (sgnV b) _ s2 (by omega))
  refine aw_skip <| then_n <| aw_seq <| aw_draw 8 (by kernel_rfl) (by kernel_rfl) (by kernel_rfl) (by kernel_rfl) ?_
  refine dr (ro_fld_ptr y53_fl145_0 rfl s3_22) rfl <| dr (ro_eq (ro_ld_ptr y53_ty3 rfl mo1_3 up_h (nle rfl)) (by simp only [pS, Value.cells, Nat.reduceAdd] <;> rfl)) rfl ?_
  refine dr (ro_fld_ptr y53_fl145_1 rfl (u2 rfl s3_22)) rfl <| dr (ro_eq (ro_ld_ptr y53_ty49 rfl mo1_3 up_h (nle rfl)) (by simp only [pS, Value.cells, Nat.reduceAdd] <;> rfl)) rfl ?_
  refine dr (ro_fld_ptr y53_fl145_1 rfl (u4 rfl s2_22)) rfl <| dr (ro_eq (ro_ld_ptr y53_ty49 rfl mo0_3 up_h (nle rfl)) (by simp only [pS, Value.cells, Nat.reduceAdd] <;> rfl)) rfl ?_
  refine dr (ro_call (evL_cons (u2 rfl up_h) (evL_cons up_h evL_nil)) rfl (subDigits_ok _ _ hle hb) y53_hcf143) rfl <| dr (ro_call (evL_cons (up_m rfl (u4 rfl up_h)) (evL_cons up_h evL_nil)) rfl (wo) y53_hcf140) rfl <| ds_nil <| al_stm (st_store (u8 rfl s4_22) up_h rfl rfl mo2_3 y53_sz145 rfl (nle rfl)) trivial rfl (fun m_26 hm_26 => ?_)
  have mo2_26 := m_set hm_26 mo2_3
  simp only [pS, Value.cells, Nat.reduceAdd] at mo2_26
  have mo1_26 := m_set_o hm_26 mo1_3 (by decide)
  have mo0_26 := m_set_o hm_26 mo0_3 (by decide)
  have ml_26 := m_set_l hm_26 ml_3
  clear hm_26 mo2_3 mo1_3 mo0_3
  refine ae1 (up_n (u8 rfl s4_22)) ?_; clear s2_22 s36_22 s3_22 s4_22; intro e_27 s4_27
  refine then_n <| aw_ret <| ret1 (.inr rfl) (by kernel_rfl) (resV_cell s4_27 mo2_26 y53_ty145 (nle rfl) (by simp)) (vw_r (.ro _ rfl)) ?_
  clear s4_27 mo2_26 mo1_26 mo0_26 ml_26
  exact wA_sg (by rw [v2]; omega) (fun _ => by rcases hs with hs | hs; (rw [sgn_lt hs.2, sgn_lt (by omega)]); (rw [sgn_pos hs.2, sgn_pos (by omega)]))
end Go.Proofs.Ytonjcljnpcmenaa

/- Contracts: wide numbers compared, divided. No conditions on a program. -/
namespace Go.Proofs.Ytonjcljnpcmenaa
open Go Go.RowKit Go.Proofs
set_option linter.unusedSimpArgs false
set_option linter.unusedVariables false
theorem y54_az145 : (Try.prog.info? 145).bind (·.zero) = some (.agg #[.int .i64 0, .slice none 0 0]) := by kernel_rfl
theorem y54_fl145_0 : FldIs Try.prog 145 0 0 false 1 := by unfold FldIs; kernel_rfl
theorem y54_hcf144 : ∀ args w, (callFunc 144 args).run Try.prog w = .ok (.enter 144 args) w := fun _ _ => by kernel_rfl
theorem y54_hcf164 : ∀ args w, (callFunc 164 args).run Try.prog w = .ok (.enter 164 args) w := fun _ _ => by kernel_rfl
theorem y54_hcf165 : ∀ args w, (callFunc 165 args).run Try.prog w = .ok (.enter 165 args) w := fun _ _ => by kernel_rfl
theorem y54_sz145 : (Try.prog.info? 145).map (·.size) = some 2 := by kernel_rfl
theorem y54_ty145 : TyIs Try.prog 145 true 2 := ⟨by kernel_rfl, by kernel_rfl⟩
theorem digN_lt {z k : Nat} (hz : (digN z).length ≤ k) : z < 1000000000 ^ k := by
  have h1 := valD_lt (digN_gd z)
  rw [digN_val] at h1
  have h2 : ((z : Nat) : Int) < ((1000000000 ^ (digN z).length : Nat) : Int) := by rw [Int.natCast_pow]; exact h1
  exact Nat.lt_of_lt_of_le (Int.ofNat_lt.1 h2) (Nat.pow_le_pow_right (by decide) hz)
theorem digN_mul_len {x y k j : Nat} (hx : (digN x).length ≤ k) (hy : (digN y).length ≤ j) : (digN (x * y)).length ≤ k + j := by
  refine digN_len ?_
  rw [Nat.pow_add]
  have h1 := digN_lt hx
  have h2 := digN_lt hy
  exact Nat.lt_of_le_of_lt (Nat.mul_le_mul_left _ (Nat.le_of_lt h2)) (Nat.mul_lt_mul_of_pos_right h1 (Nat.pow_pos (by decide)))
set_option maxRecDepth 100000 in
set_option maxHeartbeats 4000000 in
theorem widSub_ok (a b : Int) (ha : (digN a.natAbs).length ≤ 1000) (hb : (digN b.natAbs).length ≤ 1000) : FnOk Try.prog 144 [wA a, wA b] (fun q => q = wA (a - b)) := by
  refine fnOk_of (fn := Try.f144) 9 (by kernel_rfl) rfl (by kernel_rfl) (Nat.le_of_ble_eq_true rfl) ?_
  intro e_0 m_0 hA hm_0
  have s0_0 : evA e_0 (.tmp 0) = _ := hA 0 _ rfl
  have s1_0 : evA e_0 (.tmp 1) = _ := hA 1 _ rfl
  have ml_0 : m_0.length = 0 := by rw [hm_0]; rfl
  clear hA hm_0
  refine aw_seq <| at_ <| al_stm (st_box s0_0 rfl ml_0) trivial rfl (fun m_1 hm_1 => ?_)
  have mo0_1 := m_push hm_1 ml_0
  have ml_1 := m_push_l hm_1 ml_0
  have ml_1 : _ = 1 := ml_1
  clear hm_1
  refine al_stm (st_box (up_m rfl s1_0) rfl ml_1) trivial rfl (fun m_2 hm_2 => ?_)
  have mo1_2 := m_push hm_2 ml_1
  have mo0_2 := m_push_o hm_2 mo0_1
  have ml_2 := m_push_l hm_2 ml_1
  have ml_2 : _ = 2 := ml_2
  clear hm_2 mo0_1
  refine al_stm (st_alloc y54_az145 rfl ml_2) trivial rfl (fun m_3 hm_3 => ?_)
  have mo2_3 := m_push hm_3 ml_2
  simp only [pS, Value.cells, Nat.reduceAdd] at mo2_3
  have mo1_3 := m_push_o hm_3 mo1_2
  have mo0_3 := m_push_o hm_3 mo0_2
  have ml_3 := m_push_l hm_3 ml_2
  have ml_3 : _ = 3 := ml_3
  clear hm_3 mo1_2 mo0_2
  refine ae3 (u2 rfl up_h) (up_m rfl up_h) up_h ?_; clear s0_0 s1_0; intro e_4 s2_4 s3_4 s4_4
  refine then_n <| aw_seq <| aw_draw 4 (by kernel_rfl) (by kernel_rfl) (by kernel_rfl) (by kernel_rfl) ?_
  refine dr (ro_eq (ro_ld_ptr y54_ty145 rfl mo0_3 s2_4 (nle rfl)) (by simp only [pS, Value.cells, Nat.reduceAdd] <;> rfl)) rfl ?_
  refine dr (ro_eq (ro_ld_ptr y54_ty145 rfl mo1_3 (up_m rfl s3_4) (nle rfl)) (by simp only [pS, Value.cells, Nat.reduceAdd] <;> rfl)) rfl ?_
  refine dr (ro_call (evL_cons up_h evL_nil) rfl (widNeg_ok b) y54_hcf165) rfl <| dr (ro_call (evL_cons (u2 rfl up_h) (evL_cons up_h evL_nil)) rfl ((widAdd_ok a (-b) ha (by rw [Int.natAbs_neg]; exact hb)).mono (fun q h => show q = wA (a - b) from h.trans (by rw [Int.sub_eq_add_neg]))) y54_hcf164) rfl ?_
  refine ds_nil <| al_stm (st_store (u4 rfl s4_4) up_h rfl rfl mo2_3 y54_sz145 rfl (nle rfl)) trivial rfl (fun m_5 hm_5 => ?_)
  have mo2_5 := m_set hm_5 mo2_3
  simp only [pS, Value.cells, Nat.reduceAdd] at mo2_5
  have mo1_5 := m_set_o hm_5 mo1_3 (by decide)
  have mo0_5 := m_set_o hm_5 mo0_3 (by decide)
  have ml_5 := m_set_l hm_5 ml_3
  clear hm_5 mo2_3 mo1_3 mo0_3
  refine ae1 (up_n (u4 rfl s4_4)) ?_; clear s2_4 s3_4 s4_4; intro e_6 s4_6
  refine then_n <| aw_ret <| ret1 (.inr rfl) (by kernel_rfl) (resV_cell s4_6 mo2_5 y54_ty145 (nle rfl) (by simp)) (vw_r (.ro _ rfl)) ?_
  clear s4_6 mo2_5 mo1_5 mo0_5 ml_5
  rfl
set_option maxRecDepth 100000 in
set_option maxHeartbeats 4000000 in
theorem widCmp_ok (a b : Int) (ha : (digN a.natAbs).length ≤ 1000) (hb : (digN b.natAbs).length ≤ 1000) : FnOk Try.prog 92 [wA a, wA b] (fun q => q = mA (sgnV (a - b))) := by
  refine fnOk_of (fn := Try.f92) 9 (by kernel_rfl) rfl (by kernel_rfl) (Nat.le_of_ble_eq_true rfl) ?_
  intro e_0 m_0 hA hm_0
  have s0_0 : evA e_0 (.tmp 0) = _ := hA 0 _ rfl
  have s1_0 : evA e_0 (.tmp 1) = _ := hA 1 _ rfl
  have ml_0 : m_0.length = 0 := by rw [hm_0]; rfl
  clear hA hm_0
  refine aw_seq <| at_ <| al_stm (st_box s0_0 rfl ml_0) trivial rfl (fun m_1 hm_1 => ?_)
  have mo0_1 := m_push hm_1 ml_0
  have ml_1 := m_push_l hm_1 ml_0
  have ml_1 : _ = 1 := ml_1
  clear hm_1
  refine al_stm (st_box (up_m rfl s1_0) rfl ml_1) trivial rfl (fun m_2 hm_2 => ?_)
  have mo1_2 := m_push hm_2 ml_1
  have mo0_2 := m_push_o hm_2 mo0_1
  have ml_2 := m_push_l hm_2 ml_1
  have ml_2 : _ = 2 := ml_2
  clear hm_2 mo0_1
  refine ar (ro_assign ev_c) rfl <| ae2 (u2 rfl up_h) (up_m rfl up_h) ?_; clear s0_0 s1_0; intro e_3 s2_3 s3_3
  refine then_n <| aw_seq <| at_ <| ar (ro_eq (ro_ld_ptr y54_ty145 rfl mo0_2 s2_3 (nle rfl)) (by simp only [pS, Value.cells, Nat.reduceAdd] <;> rfl)) rfl ?_
  refine ar (ro_eq (ro_ld_ptr y54_ty145 rfl mo1_2 (up_m rfl s3_3) (nle rfl)) (by simp only [pS, Value.cells, Nat.reduceAdd] <;> rfl)) rfl ?_
  refine ar (ro_call (evL_cons (up_m rfl up_h) (evL_cons up_h evL_nil)) rfl (widSub_ok a b ha hb) y54_hcf144) rfl <| ar (ro_eq (ro_fld y54_fl145_0 up_h (nle rfl) rfl) (by simp only [pS, Value.cells, Nat.reduceAdd] <;> rfl)) rfl ?_
  refine ar (ro_assign up_h) rfl <| ae1 up_h ?_; clear s2_3 s3_3; intro e_4 s4_4
  refine then_n <| aw_ret <| ret1 (.inr rfl) (by kernel_rfl) (resV_tmp s4_4) (.ro _ rfl) ?_
  clear s4_4 mo1_2 mo0_2 ml_2
  rfl
end Go.Proofs.Ytonjcljnpcmenaa

/- Contracts of chapter 1: gradients and bends. No conditions on a program. -/
namespace Go.Proofs.Ytonjcljnpcmenaa
open Go Go.RowKit Go.Proofs
set_option linter.unusedSimpArgs false
set_option linter.unusedVariables false
end Go.Proofs.Ytonjcljnpcmenaa

/- Contracts of chapter 1: bends; the law on gradients. No conditions on a program. -/
namespace Go.Proofs.Ytonjcljnpcmenaa
open Go Go.RowKit Go.Proofs
set_option linter.unusedSimpArgs false
set_option linter.unusedVariables false
end Go.Proofs.Ytonjcljnpcmenaa

/- Contracts of chapter 1: the document's limits; the law of limits. No conditions on a program. -/
namespace Go.Proofs.Ytonjcljnpcmenaa
open Go Go.RowKit Go.Proofs
set_option linter.unusedSimpArgs false
set_option linter.unusedVariables false
theorem y55_hcf30 : ∀ args w, (callFunc 30 args).run Try.prog w = .ok (.enter 30 args) w := fun _ _ => by kernel_rfl
set_option maxRecDepth 100000 in
set_option maxHeartbeats 4000000 in
theorem rSideErr_ok (n : Int) : FnOk Try.prog 25 [mA n] (fun q => q = mA (sidE n)) := by
  refine fnOk_of (fn := Try.f25) 6 (by kernel_rfl) rfl (by kernel_rfl) (Nat.le_of_ble_eq_true rfl) ?_
  intro e_0 m_0 hA hm_0
  have s0_0 : evA e_0 (.tmp 0) = _ := hA 0 _ rfl
  have ml_0 : m_0.length = 0 := by rw [hm_0]; rfl
  clear hA hm_0
  refine aw_seq <| at_ <| ar (ro_assign ev_c) rfl <| ae1 (up_m rfl s0_0) ?_; clear s0_0; intro e_1 s0_1
  refine then_n <| aw_seq <| aw_seq <| at_ <| ar (ro_move s0_1) rfl <| ar (ro_call (evL_cons up_h (evL_cons ev_c (evL_cons ev_c evL_nil))) rfl (bWithin_ok _ _ _) y55_hcf30) rfl <| ar (ro_not up_h) rfl <| ae1 up_h ?_; clear s0_1; intro e_2 s5_2
  refine then_n <| aw_case s5_2 (fun hq_3 => ?_) (fun hq_3 => ?_)
  ·replace hq_3 := bt' hq_3
   refine aw_seq <| at_ <| ar (ro_assign ev_c) rfl <| ae1 up_h ?_; clear s5_2; intro e_4 s2_4
   refine then_n <| aw_ret <| then_r <| ret1 (.inr rfl) (by kernel_rfl) (resV_tmp s2_4) (.ro _ rfl) ?_
   clear s2_4  ml_0
   (unfold sidE; simp_all [unlessE])
  replace hq_3 := bf' hq_3
  refine aw_skip <| then_n <| aw_seq <| at_ <| ar (ro_assign ev_c) rfl <| ae1 up_h ?_; clear s5_2; intro e_5 s2_5
  refine then_n <| aw_ret <| ret1 (.inr rfl) (by kernel_rfl) (resV_tmp s2_5) (.ro _ rfl) ?_
  clear s2_5  ml_0
  (unfold sidE; simp_all [unlessE])
theorem sgn_mulc {n c : Int} (h : n ≠ 0) : (n < 0 → -(9810 * c) = sgnV n * c * 9810) ∧ (¬ n < 0 → 9810 * c = sgnV n * c * 9810) := by
  constructor
  · intro h1; rw [sgn_lt h1]; omega
  · intro h1; rw [sgn_pos (by omega)]; omega
end Go.Proofs.Ytonjcljnpcmenaa

